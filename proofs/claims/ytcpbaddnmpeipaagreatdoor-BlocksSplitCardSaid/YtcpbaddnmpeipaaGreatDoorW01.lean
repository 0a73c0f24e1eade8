/- Packed by a program of mine (wip/tools/pack.py): the same texts with short names and few blanks. -/
import Derived.ChangeKeysEq
import Derived.Laws.BytesArg
import Derived.Laws.StructEq
import Derived.Lib.AppendStr
import Derived.MapKept
import Derived.RangeFuncLeaves
import Derived.RangeFuncNested
import Derived.WalkSpells
import Derived.Test.YtcpbaddnmpeipaaGreatDoorW00
set_option linter.defProp false
set_option linter.unusedVariables false
set_option linter.unusedSimpArgs false
set_option linter.unusedSectionVars false
set_option maxRecDepth 100000
set_option maxHeartbeats 4000000
namespace Go.Proofs.YtcpbaddnmpeipaaGreatDoor.Vc
open Go.RowKit
def xO (g:Gh) (base:Nat) (e:qI):Prop:= ∀i,i∈q9 e.upd->base<=i->g.J i=none/\∀n,g.cur i n=none
section
variable {P:Program}{o:Oper}{a:Act}{g:Gh}{w:pM}{H:rX}{T:sG}(hT:wW P T) (hH:s5 g w H)
include hT hH
theorem aAC {x:Operand}(ho:o.op= .move x\/o.op= .assign x) {sx:pW}(hx:rH g w sx (a.eval x)) {base:Nat}{e:qI}(hr:YL base (rO T o.type) sx=some e) (hf:xO g base e):r8 P o a g w H e:=by
 have hrun:(execOp a.eval o).run P w= .ok (.value (a.eval x)) w:=by rcases ho with ho|ho<;>simp [execOp,ho]
 generalize hst:rO T o.type=ot at hr;unfold YL at hr;split at hr
 .cases hr;have hv:a.eval x= .slice none 0 0:=hx.1;have hfr:=(hf base (by simp [q9]) (aSW _)).2;refine r8.value (v:= .slice none 0 0) (by rw[hrun,hv]) (rD.row (v:= .slice none 0 0) (xs:=[]) hH rfl (World.ownsRow_nil w 0 _ _) rfl (fun m _=>hfr m) (fun u hu=>by rw[hfr] at hu;cases hu) (.inl ⟨rfl,rfl,rfl,aSW _,fun _ _ _=>rfl⟩) (fun _ _ _=>rfl) (fun b hb=>by cases hb) (fun b hb=>by cases hb) ⟨⟨by simp [Gh.tok],.inl ⟨rfl,rfl⟩⟩,trivial⟩)
 .cases hr;have hv:a.eval x= .slice none 0 0:=hx.1;refine r8.value (v:= .slice none 0 0) (by rw[hrun,hv]) (rD.nilTok hH rfl (hf base (by simp [q9]) (aSW _)).2)
 .cases hr
 cases hr;exact r8.value hrun (.pure hH hx)
theorem aJI {u:Ty}{y:List u.den}{k:pK}{v:pN}{cs:pI}(h:CU g (.list u) y v k) (hc:cs=[v]):FZ g (.list u) y cs (xF k 0):=by
 intro q kk hm;cases k with
 |none=>simp [xF] at hm
 |some k=>
  simp only[xF,aST,aS7] at hm;obtain⟨rfl,rfl⟩:=hm;exact⟨u,y,v,by unfold qT;simp [tX],by rw[hc];rfl,h⟩
omit hT hH in
theorem a0u {w:pM}: ∀(ls:List (Nat×TypeId×Nat)) (i:Nat) (g:Gh) (H:rX),s5 g w H->(∀j,i<=j->j<i+ls.length->∀n,g.cur j n=none)->
  ∃g1,rD g w H ⟨[],(.any,none),DB ls i,[]⟩ g1 w undef/\g1.J=g.J/\(∀o k,(o,k)∈C2 ls i->g1.cur k 0=some (.slice none 0 0))/\(∀k,k<i->g1.cur k=g.cur k)
 |[],i,g,H,hH,_=>⟨g,.pure hH ⟨trivial,trivial⟩,rfl,fun _ _ h=>by simp [C2] at h,fun _ _=>rfl⟩
 |(o,e,c)::r,i,g,H,hH,hf=>by
  have e1:=rD.nilTok (side:=[]) (d:= .val (.list .bool) []) (rds:=[]) (base:=i) (e:=e) (c:=c) (u:= .bool) hH rfl (hf i (aSW _) pD);have hc1: ∀k n,k≠i->(g.tok i 0 (.slice none 0 0)).cur k n=g.cur k n:=fun k n hk=>by
   show (if k=i/\n=0 then _ else _)=_;rw[aSD (fun h=>hk h.1)]
  obtain⟨g1,k1,k2,k3,k4⟩:=a0u r (i+1) (g.tok i 0 (.slice none 0 0)) (qS [(i,pV.grow e c 0)] H) e1.heap (fun j h1 h2 n=>by rw[hc1 j n pB];exact hf j pB (by simp only[aSI];omega) n);refine⟨g1,e1.trans k1,k2.trans rfl,fun o' k hm=>?_,fun k hk=>?_⟩
  .simp only[C2,aSP,aS7] at hm;rcases hm with⟨rfl,rfl⟩ |hm
   .rw[k4 _ pB];show (if k=k/\0=0 then _ else _)=_;simp
   exact k3 o' k hm
  rw[k4 k pB];funext n;exact hc1 k n pB
omit hT hH in
theorem a0v: ∀{ls:List (Nat×TypeId×Nat)}{i o k:Nat},(o,k)∈C2 ls i->∃q∈ls,q.1=o
 |[],_,_,_,h=>by simp [C2] at h
 |(o',e,c)::r,i,o,k,h=>by
  simp only[C2,aSP,aS7] at h;rcases h with⟨h1,_⟩ |h
  .exact⟨(o',e,c),by simp,h1.symm⟩
  obtain⟨q,h1,h2⟩:=a0v h;exact⟨q,by simp [h1],h2⟩
omit hT hH in
theorem a0w {t:Ty}: ∀{ls:List (Nat×TypeId×Nat)},EM t ls=true->∀q∈ls,EL t q.1=true
 |[],_,_,h=>by cases h
 |(o,e,c)::r,h,q,hq=>by
  simp only[EM,aSV] at h;rcases aSP.1 hq with rfl|hq
  .exact h.1
  exact a0w h.2 q hq
omit hT hH in
theorem Q8: ∀(ls:List (Nat×TypeId×Nat)) (i j:Nat),j∈q9 (DB ls i)↔i<=j/\j<i+ls.length
 |[],i,j=>by simp only[DB,q9,aT2,aSY,false_iff];omega
 |(o,e,c)::r,i,j=>by
  simp only[DB,C9,Q8 r (i+1) j,q9,aST,aSI];omega
omit hT hH in
theorem a0x {w:pM}: ∀(R:List (Nat×Nat×Ty)) (i:Nat) (g:Gh) (H:rX),s5 g w H->(∀j,i<=j->j<i+R.length->∀n,g.cur j n=none)->
  ∃g1,rD g w H ⟨[],(.any,none),EN R i,[]⟩ g1 w undef/\g1.J=g.J/\(∀j,j<R.length->g1.cur (i+j) 0=some (.slice none 0 0))/\(∀k,k<i->g1.cur k=g.cur k)
 |[],i,g,H,hH,_=>⟨g,.pure hH ⟨trivial,trivial⟩,rfl,fun _ h=>by simp at h,fun _ _=>rfl⟩
 |(o,e,u)::r,i,g,H,hH,hf=>by
  have hfr:=hf i (aSW _) pD;have e1:=rD.row (side:=[]) (rds:=[]) (k:=i) (e:=e) (t:=u) (l:=[]) (n:=0) (s:=(.any,none)) (val:=undef) (v:= .slice none 0 0) (xs:=[]) hH rfl (World.ownsRow_nil w 0 _ _) rfl (fun m _=>hfr m) (fun u hu=>by rw[hfr] at hu;cases hu) (.inl ⟨rfl,rfl,rfl,aSW _,fun _ _ _=>rfl⟩) (fun _ _ _=>rfl) (fun b hb=>by cases hb) (fun b hb=>by cases hb) ⟨trivial,trivial⟩;have hc1: ∀k n,k≠i->(g.tok i 0 (.slice none 0 0)).cur k n=g.cur k n:=fun k n hk=>by
   show (if k=i/\n=0 then _ else _)=_;rw[aSD (fun h=>hk h.1)]
  obtain⟨g1,k1,k2,k3,k4⟩:=a0x r (i+1) (g.tok i 0 (.slice none 0 0)) (qS [(i,pV.row e u [] 0)] H) e1.heap (fun j h1 h2 n=>by rw[hc1 j n pB];exact hf j pB (by simp only[aSI];omega) n);refine⟨g1,e1.trans k1,k2.trans rfl,fun j hj=>?_,fun k hk=>?_⟩
  .cases j with
   |zero=>
    rw[aTP,k4 _ pB];show (if i=i/\0=0 then _ else _)=_;simp
   |succ j=>
    have:=k3 j (by simpa using hj);rwa [show i+1+j=i+(j+1) by omega] at this
  rw[k4 k pB];funext n;exact hc1 k n pB
omit hT hH in
theorem V4: ∀(R:List (Nat×Nat×Ty)) (i j:Nat),j∈q9 (EN R i)↔i<=j/\j<i+R.length
 |[],i,j=>by simp only[EN,q9,aT2,aSY,false_iff];omega
 |(o,e,c)::r,i,j=>by
  simp only[EN,C9,V4 r (i+1) j,q9,aST,aSI];omega
omit hT hH in
theorem a0y {α:Type}: ∀l:List α,PH l=l.length
 |[]=>rfl
 |_::l=>by simp only[PH,a0y l,aSI]
omit hT hH in
theorem aAD {g:Gh}{w:pM}: ∀{t:Ty}{x:t.den}{cs:pI}{o:Nat},Rd g w t x cs->∀q∈zG t x o,o<=q.1/\cs[q.1-o]? =some (.slice none 0 0):=by
 intro t
 induction t with
 |pair a b iha ihb=>
  intro x cs o r q hq;obtain⟨c1,c2,rfl,r1,r2⟩:=r;simp only[zG,G0] at hq;have hl:=sJ r1;rcases hq with hq|hq
  .obtain⟨h1,h2⟩:=iha r1 q hq;exact⟨h1,by rw[aSU (aSR.1 h2).1];exact h2⟩
  .obtain⟨h1,h2⟩:=ihb r2 q hq;refine⟨pB,?_⟩;rw[aSM pB,hl,show q.1-o-a.cells=q.1- (o+a.cells) by omega];exact h2
 |rl e u=>
  intro x cs o r q hq;cases x with
  |none=>
   simp only[zG,YN,aST] at hq;subst hq;refine⟨aSW _,?_⟩;rw[show cs=[.slice none 0 0] from r];simp
  |some z=>simp [zG,YN] at hq
 |_=>intro x cs o r q hq;simp [zG] at hq
omit hT hH in
theorem aJJ {g:Gh}{w:pM}: ∀{t:Ty}{x:t.den}{cs:pI}{o:Nat},Rd g w t x cs->∀q∈FS t x o,o<=q/\cs[q-o]? =some (.pointer none):=by
 intro t
 induction t with
 |pair a b iha ihb=>
  intro x cs o r q hq;obtain⟨c1,c2,rfl,r1,r2⟩:=r;simp only[FS,G0] at hq;have hl:=sJ r1;rcases hq with hq|hq
  .obtain⟨h1,h2⟩:=iha r1 q hq;exact⟨h1,by rw[aSU (aSR.1 h2).1];exact h2⟩
  .obtain⟨h1,h2⟩:=ihb r2 q hq;refine⟨pB,?_⟩;rw[aSM pB,hl,show q-o-a.cells=q- (o+a.cells) by omega];exact h2
 |mref=>
  intro x cs o r q hq;cases x with
  |none=>
   simp only[FS,YO,aST] at hq;subst hq;refine⟨aSW _,?_⟩;rw[show cs=[.pointer none] from r];simp
  |some z=>simp [FS,YO] at hq
 |_=>intro x cs o r q hq;simp [FS] at hq
omit hT hH in
theorem a0z {g:Gh}{w:pM}{t u:Ty}{x z:t.den}{y:u.den}{cs:pI}{o:Nat}{v:pN}(h:sB u y t x o=some z) (hy:Rd g w u y [v]) (hR:Rd g w t x cs) (hv:cs[o]? =some v):Rd g w t z cs:=by
 obtain⟨c1,c2,c3,rfl,rfl,h2,h3⟩:=Q2 hy hR h;have hu:=sJ hy;simp only[aTI] at hu;rw[<-hu] at h2;obtain⟨v',rfl⟩:=aTO.1 h2;have:(c1++[v']++c3)[c1.length]? =some v':=by simp
 rw[this] at hv;obtain rfl:=aSG hv;exact h3
omit hT hH in
theorem a0A {g:Gh}{w:pM}{t:Ty}{cs:pI}: ∀{R:List (Nat×Nat×Ty)}{i:Nat}{x z:t.den},BC t i R (some x)=some z->Rd g w t x cs->(∀q∈R,cs[q.1]? =some (.slice none 0 0))->(∀j,j<R.length->g.cur (i+j) 0=some (.slice none 0 0))->Rd g w t z cs
 |[],i,x,z,h,hR,_,_=>by simp only[BC,aSC] at h;exact h▸hR
 |(o,e,u)::r,i,x,z,h,hR,hc,hg=>by
  simp only[BC] at h;cases hs:sB (.rl e u) (some (i,0)) t x o with
  |none=>rw[hs] at h;cases r<;>simp [BC] at h
  |some x'=>
   rw[hs] at h;refine a0A h (a0z (v:= .slice none 0 0) hs ⟨_,by simpa using hg 0 pD,rfl,.inl ⟨rfl,rfl⟩⟩ hR (hc _ aS2)) (fun q hq=>hc q (aSQ _ hq)) (fun j hj=>?_);have:=hg (j+1) (by simpa using hj);rwa [show i+(j+1)=i+1+j by omega] at this
omit hT hH in
theorem aAE {g:Gh}{w:pM}{t:Ty}{cs:pI}{i:Nat}{p:Pl}(hp:g.J i=some p) (hp2:p.2=0): ∀{M:pL}{x z:t.den},HM t i M (some x)=some z->Rd g w t x cs->(∀q∈M,cs[q]? =some (.pointer none)/\ZZ p.3 q)->Rd g w t z cs
 |[],x,z,h,hR,_=>by simp only[HM,aSC] at h;exact h▸hR
 |q::r,x,z,h,hR,hc=>by
  simp only[HM] at h;cases hs:sB .mref (some (i,q)) t x q with
  |none=>rw[hs] at h;cases r<;>simp [HM] at h
  |some x'=>
   rw[hs] at h;exact aAE hp hp2 h (a0z (v:= .pointer none) hs ⟨p,hp,by rw[hp2,aTa];exact(hc _ aS2).2,.inl rfl⟩ hR (hc _ aS2).1) (fun q hq=>hc q (aSQ _ hq))
omit hT hH in
theorem V5 {k:Nat}: ∀{ls:List (Nat×TypeId×Nat)}{q:Nat×TypeId×Nat},q∈C3 k ls->q.1+1≠k
 |[],_,h=>by cases h
 |(o,e,c)::r,q,h=>by
  simp only[C3] at h;split at h
  .exact V5 h
  rename_i hne;rcases aSP.1 h with rfl|h
  .exact hne
  exact V5 h
omit hT in
theorem a0B {t:Ty}{y:t.den}{ls:List (Nat×TypeId×Nat)}{base:Nat}{e:qI}{cs:pI}{el:TypeId}(hr:PI base el t y ls (EM t ls)=some e) (hf:xO g base e) (hR:Rd g w t y cs) (hn: ∀q∈ls,∃k,xM k t 0 cs/\q.1+1≠k):
  ∃g',rD g w H e g' (w.alloc (.cells cs.toArray el)) (.pointer (some ⟨w.heap.size,0,none⟩)):=by
 cases hl:EM t ls with
 |false=>rw[hl] at hr;cases hr
 |true=>
  rw[hl] at hr;simp only[PI,a0y] at hr;have cR:=fun q hq=>aAD (o:=0) hR q hq;have cM: ∀q∈TD el t y,cs[q]? =some (.pointer none)/\ZZ (some (el,cs.length)) q:=by
   intro q hq;unfold TD at hq;split at hq
   .rename_i hb;have h0:=fun q hq=>aJJ (o:=0) hR q hq;have hl:=sJ hR;generalize FS t y 0=M at hq h0;rw[<-hl] at hq;unfold a9A at hq;split at hq
    .rename_i h2;simp only[aST] at hq;subst hq;exact⟨by simpa using(h0 0 pD).2,rfl,el,hb,by rw[h2]⟩
    cases hq
   cases hq
  generalize zG t y 0=R at hr cR;generalize TD el t y=M at hr cM;cases hz1:BC t (base+1+ls.length) R (some y) with
  |none=>
   rw[hz1] at hr;have:HM t base M none=none:=by cases M<;>rfl
   rw[this] at hr;cases hr
  |some z1=>
   rw[hz1] at hr;cases hz2:HM t base M (some z1) with
   |none=>rw[hz2] at hr;cases hr
   |some z=>
    rw[hz2] at hr;simp only[a9B,a0y] at hr;obtain rfl:=(aSG hr);have hfr: ∀j,base+1<=j->j<base+1+ls.length+R.length->g.J j=none/\∀n,g.cur j n=none:=fun j h1 h2=>hf j (by
     simp only[q9,aSP];right;rw[C9];by_cases h3:j<base+1+ls.length
     .exact .inr ((Q8 ls (base+1) j).2 ⟨h1,h3⟩)
     exact .inl ((V4 R (base+1+ls.length) j).2 ⟨pB,h2⟩)) pB
    have hf0:=hf base (by simp [q9]) (aSW _);obtain⟨g1,k1,k2,k3,k4⟩:=a0u ls (base+1) g H hH (fun j h1 h2=>(hfr j h1 pB).2);have hfr1: ∀j,base+1+ls.length<=j->j<base+1+ls.length+R.length->∀n,g1.cur j n=none:=by
     intro j h1 h2 n;have:=(k1.gho j (by simp only;rw[Q8];omega)).2;rw[this];exact(hfr j pB h2).2 n
    obtain⟨g2,m1,m2,m3,m4⟩:=a0x R (base+1+ls.length) g1 _ k1.heap hfr1;have hJ:(g2.var base w.heap.size (some (el,cs.length))).J base=some ⟨w.heap.size,0,some (el,cs.length)⟩:=by simp [Gh.var]
    have hle:Le g w (g2.var base w.heap.size (some (el,cs.length))) w:=by
     refine((k1.le.trans m1.le).trans ⟨fun _ _ h=>h,fun _ _ _=>rfl,fun i p h=>?_,fun _ _ _ h=>h⟩);show (if i=base then _ else _)=_;rw[aSD (fun e1=>by rw[e1,m2,k2,hf0.1] at h;cases h)];exact h
    have hRz:Rd (g2.var base w.heap.size (some (el,cs.length))) w t z cs:=aAE hJ rfl hz2 (a0A hz1 (w8 hle hR) (fun q hq=>by simpa using(cR q hq).2) (fun j hj=>m3 j hj)) cM;have htk:FZ g2 t z cs (C2 ls (base+1)):=by
     intro o k hm;obtain⟨q,hq,rfl⟩:=a0v hm;obtain⟨kx,hx1,hx2⟩:=hn q hq;obtain⟨u,h1,h2⟩:=aAm hx1 hRz (a0w hl q hq) pB;exact⟨u,[],_,h1,h2,m1.le.cur _ _ _ (k3 _ _ hm)⟩
    have e3:=rD.newVarJ (side:=[]) (rds:=[]) (base:=base) (toks:=C2 ls (base+1)) (e:=el) m1.heap hRz htk (by rw[m2,k2];exact hf0.1) (by rw[m4 base pB,k4 base pB];exact funext hf0.2);have e4:=rD.trans (side:=[]) (rds:=[]) k1 m1;exact⟨_,rD.trans (side:=[]) (rds:=[]) e4 (e3.congrH (H':=qS (qS (EN R (base+1+ls.length)) (DB ls (base+1))) H) (by simp only[KK]))⟩
theorem a0C {t:Ty}{y:t.den}{k:pK}{v:pN}(h:rH g w (.val t y,k) v):sW g w t y v/\CU g t y v k:=by
 refine⟨h.1,?_⟩;cases k with
 |none=>trivial
 |some k=>exact h.2
theorem aJK {t:TypeId}{x:Operand}(ho:o.op= .box t x) {sx:pW}(hx:rH g w sx (a.eval x)) {base:Nat}{e:qI}(hr:YP base t (rO T t) sx=some e) (hf:xO g base e):r8 P o a g w H e:=by
 generalize hst:rO T t=ot at hr;have hrun:(execOp a.eval o).run P w= .ok (.value (.pointer (some ⟨w.heap.size,0,none⟩))) (w.alloc (.cells (a.eval x).cells.toList.toArray t)):=by
  unfold execOp;rw[ho];simp only[Instr.box,Go.newVar,newRow,aSO,run_newObj,aSJ,aS1,aUb];rfl
 have one: ∀{u:Ty}{y:u.den},sW g w u y (a.eval x)->u.isRow=false->(a.eval x).cells.toList=[a.eval x]:=fun hv hrow=>by
  have h1:=zY (wX hrow hv) _ (aST.2 rfl);cases h:a.eval x<;>first|rfl|(rw[h] at h1;simp [Value.oneCell'] at h1)
 unfold YP at hr;split at hr
 .rename_i ti u y k;split at hr
  .obtain⟨hv,hk⟩:=a0C hT hH hx;have hR:=ET hv;unfold a9C at hr;split at hr
   .rename_i a' b' y' k' _;have hn:xM k' (.pair a' b') 0 (a.eval x).cells.toList:=hk;obtain⟨g',h⟩:=a0B (el:=t) hH hr hf hR (fun q hq=>⟨k',hn,V5 hq⟩);exact r8.value hrun h
   .rename_i u' y' k';cases hr;have hfr:=hf base (by simp [q9]) (aSW _);exact r8.value hrun (rD.newVar hH hR (aJI hT hH hk (one hv rfl)) hfr.1 (funext hfr.2))
   cases hr;have hfr:=hf base (by simp [q9]) (aSW _);exact r8.value hrun (rD.newVar hH hR (fun q k hm=>by cases hm) hfr.1 (funext hfr.2))
  cases hr
 cases hr
theorem aAF {t:TypeId}(run: ∀ti,rO T t=some ti->(execOp a.eval o).run P w= .ok (.value (.pointer (some ⟨w.heap.size,0,none⟩))) (w.alloc (.cells (tY ti.ty).toArray t))) {base:Nat}{e:qI}(hr:PJ base t (rO T t)=some e) (hf:xO g base e):r8 P o a g w H e:=by
 generalize hst:rO T t=ot at hr;unfold PJ at hr;split at hr
 .rename_i u el by' ar ls_;cases hr;have hf0:=hf base (by simp [q9]) (aSW _);have hf1:=hf (base+1) (by simp [q9]) pB;have hty:=sP hT hst;have e1:=rD.nilTok (side:=[]) (d:= .val (.list u) []) (rds:=[]) (base:=base+1) (e:=el) (c:=u.cells) (u:=u) hH rfl hf1.2;have hH1:=e1.heap;have htk:FZ (g.tok (base+1) 0 (.slice none 0 0)) (.list u) [] [.slice none 0 0] [(0,base+1)]:=by
   intro q kk hm;simp only[aST,aS7] at hm;obtain⟨rfl,rfl⟩:=hm;exact⟨u,[],.slice none 0 0,by unfold qT;simp [tX],rfl,by simp [Gh.tok]⟩
  have e2:=rD.newVar (side:=[]) (rds:=[]) (base:=base) (toks:=[(0,base+1)]) (e:=t) hH1 (DE (g.tok (base+1) 0 (.slice none 0 0)) w (.list u)) htk hf0.1 (by
   funext n;show (if base=base+1/\n=0 then _ else _)=_;rw[aSD pB];exact hf0.2 n)
  exact r8.value (run _ hst) (rD.trans (side:=[]) (rds:=[]) e1 e2)
 .rename_i ti hno;obtain⟨g',h⟩:=a0B (el:=t) hH hr hf (DE g w ti.ty) (fun q _=>⟨0,UX _ _,pB⟩);exact r8.value (run _ hst) h
 cases hr
theorem aJL {t:TypeId}(ho:o.op= .alloc t) {base:Nat}{e:qI}(hr:PJ base t (rO T t)=some e) (hf:xO g base e):r8 P o a g w H e:=by
 have run: ∀ti,rO T t=some ti->(execOp a.eval o).run P w= .ok (.value (.pointer (some ⟨w.heap.size,0,none⟩))) (w.alloc (.cells (tY ti.ty).toArray t)):=by
  intro ti hti;obtain⟨i,hi,hsz,hz⟩:=DF (sP hT hti);have hc:(xN ti.ty).cells=(tY ti.ty).toArray:=by
   have:=ET (KL g w ti.ty);unfold xN;cases h:ti.ty<;>simp [Ty.isRow,tY,Value.cells]
  unfold execOp;rw[ho];simp only[Instr.alloc,zeroValue,typeInfo,Go.newVar,newRow,aSO,aTz,hi,hz,hc,run_newObj,aSJ,aS1];rfl
 exact aAF hT hH run hr hf
theorem aJM {t:TypeId}{x:Operand}(ho:o.op= .box t x) {sx:pW}(hx:rH g w sx (a.eval x)) (hfix: ∀ti:Option TI,rH g w (MM ti sx) (a.eval x)) {base:Nat}{e:qI}(hr:YQ base t (rO T t) sx=some e) (hf:xO g base e):r8 P o a g w H e:=by
 generalize hst:rO T t=ot at hr;unfold YQ at hr;split at hr
 .rename_i u el by' ls_ k;obtain⟨g',h⟩:=a0B (el:=t) hH hr hf (show Rd g w (.rl el u) none [.slice none 0 0] from rfl) (fun q hq=>by cases hq);have hv:a.eval x= .slice none 0 0:=hx.1;refine r8.value ?_ h;unfold execOp;rw[ho];simp only[Instr.box,Go.newVar,newRow,aSO,run_newObj,aSJ,aS1,hv];rfl
 .rename_i u el by' ar ls_ k;rw[<-hst] at hr;refine aAF hT hH (fun ti hti=>?_) hr hf;rw[hst] at hti;cases hti;have hv:a.eval x= .slice none 0 0:=hx.1;unfold execOp;rw[ho];simp only[Instr.box,Go.newVar,newRow,aSO,run_newObj,aSJ,aS1,hv];rfl
 rw[<-hst] at hr;exact aJK hT hH ho (hfix _) hr hf
omit hT hH in
theorem aJN {t:Ty}{y:t.den}{k:pK}{v:pN}(h:CU g t y v k):CU g t y v (EI t k):=by
 cases t with
 |list u=>exact h
 |_=>trivial
omit hT hH in
theorem aAG {off:Nat}: ∀{l:pG}{o k:Nat},(o,k)∈MV off l->∃q,o=off+q/\(q,k)∈l
 |[],_,_,h=>by cases h
 |(q,k')::r,o,k,h=>by
  simp only[MV,aSP,aS7] at h;rcases h with⟨rfl,rfl⟩ |h
  .exact⟨q,rfl,aS2⟩
  obtain⟨q',h1,h2⟩:=aAG h;exact⟨q',h1,aSQ _ h2⟩
omit hT hH in
theorem aAH {v t:Ty}{y:t.den}: ∀{u:Ty}{x z:u.den}{o q:Nat}{l:(Ty.list v).den},sB t y u x o=some z->qT (.list v) t y q=some l->q<t.cells->qT (.list v) u z (o+q)=some l:=by
 intro u
 induction u with
 |pair a b iha ihb=>
  intro x z o q l h g hq;by_cases hu:o=0/\t= .pair a b
  .obtain⟨rfl,rfl⟩:=hu;unfold sB at h;rw[aUu rfl] at h;simp only[tX,aSC] at h;subst h;simpa using g
  .have keyh:(if o<a.cells then(sB t y a x.1 o).map (fun q=>(q,x.2)) else(sB t y b x.2 (o-a.cells)).map (fun q=>(x.1,q)))=some z:=by
    cases o with
    |zero=>
     unfold sB at h;rw[aT0 (fun e=>hu ⟨rfl,e⟩)] at h;simpa using h
    |succ o=>simpa[sB] using h
   have keyg: ∀m,qT (.list v) (.pair a b) z m=(if m<a.cells then qT (.list v) a z.1 m else qT (.list v) b z.2 (m-a.cells)):=by
    intro m;cases m with
    |zero=>
     conv=>lhs;unfold qT
     rw[aT0 (by intro e;cases e),Nat.zero_sub]
    |succ m=>simp [qT]
   rw[keyg];by_cases ho:o<a.cells
   .rw[aSB ho] at keyh;obtain⟨z',hz',rfl⟩:=aSS.1 keyh;have hfit:o+t.cells<=a.cells:=by
     have: ∀{u:Ty}{x z:u.den}{o:Nat},sB t y u x o=some z->o+t.cells<=u.cells:=by
      intro u
      induction u with
      |pair a b iha ihb=>
       intro x z o h;have key: ∀o,(if o<a.cells then(sB t y a x.1 o).map (fun q=>(q,x.2)) else(sB t y b x.2 (o-a.cells)).map (fun q=>(x.1,q)))=some z->o+t.cells<=a.cells+b.cells:=by
        intro o h;by_cases ho:o<a.cells
        .rw[aSB ho] at h;obtain⟨z',hz',_⟩:=aSS.1 h;have:=iha hz';omega
        rw[aSD ho] at h;obtain⟨z',hz',_⟩:=aSS.1 h;have:=ihb hz';omega
       cases o with
       |zero=>
        unfold sB at h;split at h
        .rename_i e;subst e;simp
        .exact key 0 (by simpa using h)
       |succ o=>exact key (o+1) (by simpa[sB] using h)
      |_=>
       intro x z o h;cases o with
       |zero=>
        unfold sB at h;split at h
        .rename_i e;subst e;simp
        .simp at h
       |succ o=>simp [sB] at h
     exact this hz'
    rw[aSB pB];exact iha hz' g hq
   .rw[aSD ho] at keyh;obtain⟨z',hz',rfl⟩:=aSS.1 keyh;rw[aSD pB,show o+q-a.cells=o-a.cells+q from by omega];exact ihb hz' g hq
 |_=>
  intro x z o q l h g hq;cases o with
  |zero=>
   unfold sB at h;split at h
   .rename_i e;subst e;simp only[tX,aSC] at h
    try subst h
    simpa using g
   .simp at h
  |succ o=>simp [sB] at h
omit hT hH in
theorem aAI {v:Ty}: ∀{t:Ty}{x:t.den}{q:Nat}{l:(Ty.list v).den},qT (.list v) t x q=some l->q<t.cells:=by
 intro t
 induction t with
 |pair s t ihs iht=>
  intro x q l g;have key: ∀q,(if q<s.cells then qT (.list v) s x.1 q else qT (.list v) t x.2 (q-s.cells))=some l->q<s.cells+t.cells:=by
   intro q g;by_cases h:q<s.cells
   .omega
   rw[aSD h] at g;have:=iht g;omega
  cases q with
  |zero=>
   unfold qT at g;rw[aT0 (by intro e;cases e)] at g;exact key 0 (by simpa using g)
  |succ q=>exact key (q+1) (by simpa[qT] using g)
 |unit=>
  intro x q l g;cases q with
  |zero=>unfold qT at g;rw[aT0 (by intro e;cases e)] at g;cases g
  |succ q=>simp [qT] at g
 |_=>
  intro x q l g;cases q with
  |zero=>simp [Ty.cells]
  |succ q=>simp [qT] at g
omit hT in
theorem rD.retok {i:Nat}{u:Ty}{z:u.den}{toks nt:pG}{p:Pl}(hb:pY H i=some (.cells u z toks)) (hp:g.J i=some p)
  (hn: ∀cs,Rd g w u z cs->w.rangeAt p.1 p.2 cs->FZ g u z cs nt):rD g w H ⟨[],(.any,none),[(i,.cells u z (qS nt toks))],[]⟩ g w undef:=by
 obtain⟨p',cs,hp',hR,hra,hth,hns,htk⟩:=hH.blk i _ hb;rw[hp] at hp';obtain rfl:=aSG hp';have get: ∀j blk,j∈q9 [(i,pV.cells u z (qS nt toks))]->pY (qS [(i,pV.cells u z (qS nt toks))] H) j=some blk->j=i/\blk= .cells u z (qS nt toks):=by
  intro j blk hi hg;simp only[q9,aST] at hi;subst hi;simp only[qS,pY,aT5,aSC] at hg;exact⟨rfl,hg.symm⟩
 have perm: ∀j blk b o,j∈q9 [(i,pV.cells u z (qS nt toks))]->pY (qS [(i,pV.cells u z (qS nt toks))] H) j=some blk->rY g j blk b o->w.heap.size<=b\/sI g H (q9 [(i,pV.cells u z (qS nt toks))]) b o:=by
  intro j blk b o hi hg ho;obtain⟨rfl,rfl⟩:=get j blk hi hg;exact .inr ⟨j,_,hi,hb,ho⟩
 have le:Le g w g w:=⟨fun _ _ h=>h,fun _ _ _=>rfl,fun _ _ h=>h,fun _ _ _ h=>h⟩;have fr:Fr (sI g H (q9 [(i,pV.cells u z (qS nt toks))])) w w g.S g.S:=⟨rfl,rfl,rfl,aSW _,fun _ _ _=>rfl,fun _ _ _ _=>⟨rfl,rfl⟩,fun _ _ h=> .inl h,fun _ _ h=> .inl h⟩;refine⟨le,⟨trivial,trivial⟩,hH.upd le fr perm (fun _ _=>⟨rfl,rfl⟩) (fun j blk hi hg=>?_) (fun i j bi bj b o hi hj hij hgi hgj _ _=>hij ((get i bi hi hgi).1.trans (get j bj hj hgj).1.symm)) (fun b o h=>hH.sl b o h),fr,perm,fun _ _=>⟨rfl,rfl⟩,fun j u' y' us h=>?_⟩
 .obtain⟨rfl,rfl⟩:=get j blk hi hg;refine⟨p,cs,hp,hR,hra,hth,hns,fun q kk hm=>?_⟩;rcases(G0.1 hm) with hm|hm
  .exact hn cs hR hra q kk hm
  exact htk q kk hm
 simp only[qS,pY] at h;split at h
 .rename_i e1;subst e1;simp only[aSC,pV.cells.injEq] at h;obtain⟨rfl,_⟩:=h;exact .inl ⟨z,toks,hb⟩
 exact .inl ⟨y',us,h⟩
omit hT hH in
theorem aJO {g:Gh}{t a b:Ty}{y:t.den}{v:pN}{k:pK}(h:k.isSome=true) (ht:t= .pair a b) (hk:CU g t y v k): ∃m,k=some m/\xM m t 0 v.cells.toList:=by
 subst ht;cases k with
 |none=>cases h
 |some k=>exact⟨k,rfl,hk⟩
omit hT hH in
theorem aJP {base i off:Nat}{b:Option pV}{ls:List (Nat×TypeId×Nat)}{t:Ty}{y:t.den}{k:pK}{e:qI}(h:FU base i off b ls t y k=some e):
  (∃(s:Ty) (x:s.den) (toks:pG) (z:s.den),b=some (.cells s x toks)/\sB t y s x off=some z/\k.isSome=true/\(∃a c,t= .pair a c)/\∃m,k=some m/\EM t (C3 m ls)=true/\
   e=⟨[],(.any,none),(i,.cells s z (qS (MV off (C2 (C3 m ls) base)) (sZ toks off t.cells)))::qS (DB (C3 m ls) base) [(i,.cells s z (sZ toks off t.cells))],[i]⟩)\/TP t y k i off b=some e:=by
 unfold FU at h;split at h
 .rename_i q r a c y' k';cases hok:EM (.pair a c) (C3 k' (q::r)) with
  |false=>rw[hok] at h;unfold TQ at h;split at h<;>first|cases h|(rename_i h2;cases h2)
  |true=>
   rw[hok] at h;unfold TQ at h;split at h
   .rename_i s x toks _;cases hset:sB (.pair a c) y' s x off with
    |none=>rw[hset] at h;cases h
    |some z=>
     rw[hset] at h;exact .inl ⟨s,x,toks,z,rfl,hset,rfl,⟨a,c,rfl⟩,_,rfl,hok,(aSG h).symm⟩
   cases h
 exact .inr h
omit hT hH in
theorem aAJ {i off k n el:Nat}{u v:Ty}{x:v.den}{ts:pG}{ls:List (Nat×TypeId×Nat)}{y:Option qI}{e:qI}(h:Z9 H i off k n el u v x ts ls y=some e):y=some e\/Z8 i (y6 el u (some (k,n)) v x off)=some e\/PP i off k n u v x (sZ ts off 1) (pY H k)=some e:=by
 cases y with
 |some r=>exact .inl h
 |none=>cases ls with
  |nil=>exact .inr (.inl h)
  |cons q r=>exact .inr (.inr h)
omit hT hH in
theorem aJQ {v:Ty}{e:Nat}{u:Ty}{y:pJ}: ∀{t:Ty}{x z:t.den}{o q:Nat}{l:(Ty.list v).den},sB (.rl e u) y t x o=some z->qT (.list v) t x q=some l->q≠o:=by
 intro t
 induction t with
 |pair a b iha ihb=>
  intro x z o q l h g;have keyh:(if o<a.cells then(sB (.rl e u) y a x.1 o).map (fun q=>(q,x.2)) else(sB (.rl e u) y b x.2 (o-a.cells)).map (fun q=>(x.1,q)))=some z:=by
   cases o with
   |zero=>
    unfold sB at h;rw[aT0 (by intro e;cases e)] at h;simpa using h
   |succ o=>simpa[sB] using h
  have keyg:(if q<a.cells then qT (.list v) a x.1 q else qT (.list v) b x.2 (q-a.cells))=some l:=by
   cases q with
   |zero=>
    unfold qT at g;rw[aT0 (by intro e;cases e)] at g;simpa using g
   |succ q=>simpa[qT] using g
  intro hqo;subst hqo;by_cases hq:q<a.cells
  .rw[aSB hq] at keyh keyg;obtain⟨z',hz',_⟩:=aSS.1 keyh;exact iha hz' keyg rfl
  .rw[aSD hq] at keyh keyg;obtain⟨z',hz',_⟩:=aSS.1 keyh;exact ihb hz' keyg rfl
 |rl e' u'=>
  intro x z o q l h g hqo;cases q with
  |zero=>
   unfold qT at g;split at g
   .rename_i e1;cases e1
   .cases g
  |succ q=>simp [qT] at g
 |_=>
  intro x z o q l h g hqo;cases o with
  |zero=>
   unfold sB at h;split at h
   .rename_i e1;cases e1
   .cases h
  |succ o=>simp [sB] at h
omit hT hH in
theorem aAK {n:Nat}: ∀{l:List (Nat×pV)},TS n l=true->∀j,j∈q9 l->j<n
 |[],_,j,h=>by cases h
 |(i,b)::r,h,j,hj=>by
  simp only[TS] at h;split at h
  .simp only[q9,aSP] at hj;rcases hj with rfl|hj
   .assumption
   exact aAK h j hj
  cases h
omit hT in
theorem aAL {v:Ty}{t:Ty}: ∀{R:List (Nat×Nat×Ty)}{i:Nat}{x z:t.den}{q:Nat}{l:(Ty.list v).den},BC t i R (some x)=some z->qT (.list v) t x q=some l->qT (.list v) t z q=some l
 |[],i,x,z,q,l,h,g=>by simp only[BC,aSC] at h;exact h▸g
 |(o,e,u)::r,i,x,z,q,l,h,g=>by
  simp only[BC] at h;cases hs:sB (.rl e u) (some (i,0)) t x o with
  |none=>rw[hs] at h;cases r<;>simp [BC] at h
  |some x'=>
   rw[hs] at h;have hne:=aJQ hs g;exact aAL h (V3 hH hs g (fun⟨h1,h2⟩=>by simp only[Ty.cells] at h2;omega))
omit hT in
theorem rD.reread {i:Nat}{u:Ty}{z z2:u.den}{toks0 toks:pG}{p:Pl}(hb:pY H i=some (.cells u z toks0)) (hp:g.J i=some p) (hsub: ∀x∈toks,x∈toks0)
  (hn: ∀cs,Rd g w u z cs->w.rangeAt p.1 p.2 cs->Rd g w u z2 cs) (hl: ∀(v:Ty) q (l:(Ty.list v).den),qT (.list v) u z q=some l->qT (.list v) u z2 q=some l):rD g w H ⟨[],(.any,none),[(i,.cells u z2 toks)],[]⟩ g w undef:=by
 obtain⟨p',cs,hp',hR,hra,hth,hns,htk⟩:=hH.blk i _ hb;rw[hp] at hp';obtain rfl:=aSG hp';have get: ∀j blk,j∈q9 [(i,pV.cells u z2 toks)]->pY (qS [(i,pV.cells u z2 toks)] H) j=some blk->j=i/\blk= .cells u z2 toks:=by
  intro j blk hi hg;simp only[q9,aST] at hi;subst hi;simp only[qS,pY,aT5,aSC] at hg;exact⟨rfl,hg.symm⟩
 have perm: ∀j blk b o,j∈q9 [(i,pV.cells u z2 toks)]->pY (qS [(i,pV.cells u z2 toks)] H) j=some blk->rY g j blk b o->w.heap.size<=b\/sI g H (q9 [(i,pV.cells u z2 toks)]) b o:=by
  intro j blk b o hi hg ho;obtain⟨rfl,rfl⟩:=get j blk hi hg;exact .inr ⟨j,_,hi,hb,ho⟩
 have le:Le g w g w:=⟨fun _ _ h=>h,fun _ _ _=>rfl,fun _ _ h=>h,fun _ _ _ h=>h⟩;have fr:Fr (sI g H (q9 [(i,pV.cells u z2 toks)])) w w g.S g.S:=⟨rfl,rfl,rfl,aSW _,fun _ _ _=>rfl,fun _ _ _ _=>⟨rfl,rfl⟩,fun _ _ h=> .inl h,fun _ _ h=> .inl h⟩;refine⟨le,⟨trivial,trivial⟩,hH.upd le fr perm (fun _ _=>⟨rfl,rfl⟩) (fun j blk hi hg=>?_) (fun i j bi bj b o hi hj hij hgi hgj _ _=>hij ((get i bi hi hgi).1.trans (get j bj hj hgj).1.symm)) (fun b o h=>hH.sl b o h),fr,perm,fun _ _=>⟨rfl,rfl⟩,fun j u' y' us h=>?_⟩
 .obtain⟨rfl,rfl⟩:=get j blk hi hg;refine⟨p,cs,hp,hn cs hR hra,hra,hth,hns,fun q kk hm=>?_⟩;obtain⟨v,l,vv,h1,h2,h3⟩:=htk q kk (hsub _ hm);exact⟨v,l,vv,hl v q l h1,h2,h3⟩
 simp only[qS,pY] at h;split at h
 .rename_i e1;subst e1;simp only[aSC,pV.cells.injEq] at h;obtain⟨rfl,_⟩:=h;exact .inl ⟨z,toks0,hb⟩
 exact .inl ⟨y',us,h⟩
omit hT in
theorem aJR {base:Nat}{e0 e:qI}(hr:PO base (some e0)=some e) {w':pM}{g1:Gh}{i:Nat}{v:Ty}{z:v.den}{ts:pG}{U:List (Nat×pV)}(he:e0.upd=(i,.cells v z ts)::U) (hs:e0.side=[]) (hl:e0.slot=(.any,none)) (h0:rD g w H e0 g1 w' undef) (hf:xO g base e):
  e.side=[]/\∃g',rD g w H e g' w' undef:=by
 obtain⟨sd,s,up,rd⟩:=e0;simp only at he hs hl;subst he hs hl;simp only[PO] at hr;split at hr
 case isFalse=>cases hr
 rename_i hbe;have hno:=aAK hbe;cases hz:BC v base (zG v z 0) (some z) with
 |none=>rw[hz] at hr;cases hr
 |some z2=>
  rw[hz] at hr;simp only[TR,aSC] at hr;subst hr;refine⟨rfl,?_⟩;obtain⟨p,cs,hp,hR,hra,_,_,_⟩:=h0.heap.blk i (.cells v z ts) (by simp [qS,pY]);have hfree: ∀j,base<=j->j<base+(zG v z 0).length->∀n,g1.cur j n=none:=by
   intro j h1 h2 n;have hj:j∉q9 ((i,pV.cells v z ts)::U):=fun h=>by have:=hno j h;omega
   rw[(h0.gho j hj).2];exact(hf j (by simp only[q9,aSP];right;rw[C9];exact .inl ((V4 _ base j).2 ⟨h1,h2⟩)) h1).2 n
  obtain⟨g2,m1,m2,m3,m4⟩:=a0x (zG v z 0) base g1 _ h0.heap hfree;have hb3:pY (qS (EN (zG v z 0) base) (qS ((i,pV.cells v z ts)::U) H)) i=some (.cells v z ts):=by
   rw[A0 (fun h=>by
    have h1:=(V4 _ base i).1 h;have h2:=hno i (by simp [q9]);omega)]
   simp [qS,pY]
  have cR:=fun cs (hR:Rd g2 w' v z cs) q hq=>aAD (o:=0) hR q hq;have e3:=rD.reread (z2:=z2) (p:=p) m1.heap hb3 (by rw[m2];exact hp) (fun _ h=>h) (fun cs hRc _=>a0A hz hRc (fun q hq=>by simpa using(cR cs hRc q hq).2) (fun j hj=>m3 j hj)) (fun v' q l hg=>aAL hH hz hg);have e4:=rD.trans (side:=[]) (rds:=[]) h0 m1;have e5:=rD.trans (side:=[]) (rds:=[i]) e4 (e3.congrH (H':=qS (qS (EN (zG v z 0) base) ((i,pV.cells v z ts)::U)) H) (by simp only[KK]));exact⟨_,e5⟩
omit hT hH in
theorem aJS {i:Nat}{d:DV}{r3 r4:Nat×Nat}{sd:List Prop}{y:Nat×Nat×(Nat×Nat)×(Nat×Nat)}(h:TV i d r3 r4=some (sd,y)) (hs: ∀p∈sd,p) {v:pN}(hd:yH g w (.apd d) v):ES g w y [v]:=by
 obtain⟨b,u,rfl,hS,hc,hu⟩:=hd;unfold TV at h;split at h
 .rename_i j o;obtain⟨p,hp,rfl⟩:=wZ hu;unfold a9J at h;split at h
  .rename_i hji;subst hji;split at h
   .rename_i ho;subst ho;cases h;exact .inr ⟨pC,b,_,rfl,hS,hc,fun _=>⟨p,hp,rfl⟩,fun q=>absurd q pC,fun q=>absurd q pC,fun q=>absurd q pC⟩
   split at h
   .rename_i ho;subst ho;cases h;exact .inr ⟨pC,b,_,rfl,hS,hc,fun q=>absurd q pC,fun _=>⟨p,hp,rfl⟩,fun q=>absurd q pC,fun q=>absurd q pC⟩
   cases h
  cases h
 .rename_i k n c ix o;obtain⟨bb,cap,hcur,h0,h1,rfl⟩:=hu;unfold a9K at h;split at h
  .rename_i hc1;subst hc1;split at h
   .rename_i ho;subst ho;split at h
    .rename_i hk;cases h;have e1:=hs _ (aS2);have e2:=hs _ (aSQ _ aS2);rw[hk,e1] at hcur;refine .inr ⟨pC,b,_,rfl,hS,hc,fun q=>absurd q pC,fun q=>absurd q pC,fun _=>⟨bb,cap,by rw[hk];exact hcur,pB,by congr 1;omega⟩,fun q=>absurd q pC⟩
    cases h
   cases h
  split at h
  .rename_i hc2;subst hc2;split at h
   .rename_i ho;subst ho;split at h
    .rename_i hk;cases h;have e1:=hs _ (aS2);have e2:=hs _ (aSQ _ aS2);rw[hk,e1] at hcur;refine .inr ⟨pC,b,_,rfl,hS,hc,fun q=>absurd q pC,fun q=>absurd q pC,fun q=>absurd q pC,fun _=>⟨bb,cap,by rw[hk];exact hcur,pB,by congr 1;omega⟩⟩
    cases h
   cases h
  cases h
 cases h
theorem aJT {t:TypeId}{x y:Operand}(ho:o.op= .store t x y) {sx sy:pW}(hx:rH g w sx (a.eval x)) (hy:rH g w sy (a.eval y)) {base:Nat}{e:qI}(hr:TX base H (rO T t) sx sy=some e) (hside: ∀p∈e.side,p) (hf:xO g base e):r8 P o a g w H e:=by
 generalize hst:rO T t=ot at hr;unfold TX at hr;split at hr
 .rename_i ti i off k kk n k2;generalize hb:pY H i=ob at hr;unfold MW at hr;split at hr
  .rename_i u el _ _ _ v x' toks;rcases aAJ hr with hq|hq|hq
   case inr.inr hq=>
    clear hr;generalize hk:pY H kk=ok at hq;unfold PP at hq;split at hq
    case h_2=>cases hq
    rename_i el2 t2 l2 m2;split at hq
    case isFalse=>cases hq
    rename_i htu;subst htu;generalize hset:sB (.list t2) l2 v x' off=oz at hq;cases oz with
    |none=>cases hq
    |some z'=>
     simp only[TT,aSC] at hq;subst hq;have hnm:n=m2:=hside _ (aST.2 rfl);subst hnm;have hty:=sP hT hst;obtain⟨p,hp,hv⟩:=wZ hx.1;obtain⟨h1,h2⟩:=hy.1;obtain⟨g1,k1,k2,k3,k4⟩:=aAr hH hk;have hik:i≠kk:=fun e1=>by rw[e1,hk] at hb;cases hb
     have hb1:pY (qS [(kk,pV.grow el2 t2.cells n)] H) i=some (.cells v x' toks):=by
      simp only[qS,pY];rw[aSD (Ne.symm hik)];exact hb
     have hR:Rd g1 w (.list t2) l2 [a.eval y]:=k4 _ ⟨_,by rw[k2];exact h1,rfl,h2⟩;obtain⟨heff,hth⟩:=rD.store (side:=[]) (rds:=[i]) (k:=none) (v:=a.eval y) k3.heap hb1 (by rw[k1];exact hp) hset hR trivial (fun _ _ _=>rfl) (fun _=>rfl);have hce:(a.eval y).cells= #[a.eval y]:=by rcases h2 with⟨h2,_⟩ |⟨_,_,h2,_⟩<;>(rw[h2];rfl)
     refine r8.skip (w':=w.setCells p.1 (p.2+off) [a.eval y]) ?_ (rD.trans (side:=[n=n]) (rds:=[i,kk]) k3 heff);obtain⟨inf,hi,hsz,_⟩:=DF hty;have hcells:=run_storeCells_cells (P:=P) p.1 (p.2+off) [a.eval y] 0 w (fun j hj=>by simpa using(hth j hj).1) (fun j hj=>by simpa using(hth j hj).2) (fun v hv=>zY hR v hv);simp only[aTP] at hcells;have hs2:(a.eval y).cells.size=inf.size:=by rw[hsz,hce];rfl
     have hcl:(a.eval y).cells.toList=[a.eval y]:=by rw[hce]
     simp only[execOp,ho,hv,Instr.storeAt,Instr.sureAddr,storeVar,aSO,aS1,aSJ,sizeOf,typeInfo,aTz,hi,hs2,ne_eq,not_true_eq_false,aUy,hcl,hcells]
   case inr.inl hq=>
    replace hr:=hq;generalize hset:y6 el u (some (kk,n)) v x' off=oz at hr;cases oz with
    |none=>cases hr
    |some z'=>
     cases hr;have hty:=sP hT hst;obtain⟨p,hp,hv⟩:=wZ hx.1;obtain⟨h1,h2⟩:=hy.1;have hR:Rd g w (.rl el u) (some (kk,n)) [a.eval y]:=⟨_,h1,rfl,h2⟩;obtain⟨heff,hth⟩:=zK.openS (side:=[]) (rds:=[1000000000,i]) hH hb hp hset hR rfl rfl;have hce:(a.eval y).cells= #[a.eval y]:=by rcases h2 with⟨h2,_⟩ |⟨_,_,h2,_⟩<;>(rw[h2];rfl)
     refine r8.skipW (w':=w.setCells p.1 (p.2+off) [a.eval y]) ?_ heff;obtain⟨inf,hi,hsz,_⟩:=DF hty;have hcells:=run_storeCells_cells (P:=P) p.1 (p.2+off) [a.eval y] 0 w (fun j hj=>by simpa using(hth j hj).1) (fun j hj=>by simpa using(hth j hj).2) (fun v hv=>zY hR v hv);simp only[aTP] at hcells;have hs2:(a.eval y).cells.size=inf.size:=by rw[hsz,hce];rfl
     have hcl:(a.eval y).cells.toList=[a.eval y]:=by rw[hce]
     simp only[execOp,ho,hv,Instr.storeAt,Instr.sureAddr,storeVar,aSO,aS1,aSJ,sizeOf,typeInfo,aTz,hi,hs2,ne_eq,not_true_eq_false,aUy,hcl,hcells]
   replace hr:=hq;generalize hset:sB (.rl el u) (some (kk,n)) v x' off=oz at hr;cases oz with
   |none=>cases hr
   |some z'=>
    cases hr;have hty:=sP hT hst;obtain⟨p,hp,hv⟩:=wZ hx.1;obtain⟨h1,h2⟩:=hy.1;have hR:Rd g w (.rl el u) (some (kk,n)) [a.eval y]:=⟨_,h1,rfl,h2⟩;obtain⟨heff,hth⟩:=rD.store (side:=[]) (rds:=[i]) (k:=none) (v:=a.eval y) hH hb hp hset hR trivial (fun _ _ _=>rfl) (fun _=>rfl);have hce:(a.eval y).cells= #[a.eval y]:=by rcases h2 with⟨h2,_⟩ |⟨_,_,h2,_⟩<;>(rw[h2];rfl)
    refine r8.skip (w':=w.setCells p.1 (p.2+off) [a.eval y]) ?_ heff;obtain⟨inf,hi,hsz,_⟩:=DF hty;have hcells:=run_storeCells_cells (P:=P) p.1 (p.2+off) [a.eval y] 0 w (fun j hj=>by simpa using(hth j hj).1) (fun j hj=>by simpa using(hth j hj).2) (fun v hv=>zY hR v hv);simp only[aTP] at hcells;have hs2:(a.eval y).cells.size=inf.size:=by rw[hsz,hce];rfl
    have hcl:(a.eval y).cells.toList=[a.eval y]:=by rw[hce]
    simp only[execOp,ho,hv,Instr.storeAt,Instr.sureAddr,storeVar,aSO,aS1,aSJ,sizeOf,typeInfo,aTz,hi,hs2,ne_eq,not_true_eq_false,aUy,hcl,hcells]
  cases hr
 .rename_i ti i off _ d _;generalize hb:pY H i=ob at hr;generalize hty0:ti.ty=ty0 at hr;unfold Z5 at hr;split at hr
  case h_2=>cases hr
  rename_i v x' toks;generalize hden:TV i d (TU (C0 v x' 8)) (TU (C0 v x' 11))=od at hr;cases od with
  |none=>cases hr
  |some q=>
   obtain⟨sd,yy⟩:=q;simp only[Z4] at hr;generalize hset:sB .ap yy v x' off=oz at hr;cases oz with
   |none=>cases hr
   |some z'=>
    simp only[Z3,aSC] at hr;subst hr;have hty:=sP hT hst;obtain⟨p,hp,hv⟩:=wZ hx.1;have hR:Rd g w .ap yy [a.eval y]:=aJS hden hside hy.1;obtain⟨heff,hth⟩:=rD.store (side:=sd) (rds:=[i]) (k:=none) (v:=a.eval y) hH hb hp hset hR trivial (fun _ _ _=>rfl) (fun _=>rfl);have hce:(a.eval y).cells= #[a.eval y]:=by
     obtain⟨b,u,e1,_⟩:=hy.1;rw[e1];rfl
    refine r8.skip (w':=w.setCells p.1 (p.2+off) [a.eval y]) ?_ heff;obtain⟨inf,hi,hsz,_⟩:=DF hty;have hcells:=run_storeCells_cells (P:=P) p.1 (p.2+off) [a.eval y] 0 w (fun j hj=>by simpa using(hth j hj).1) (fun j hj=>by simpa using(hth j hj).2) (fun v hv=>zY hR v hv);simp only[aTP] at hcells;have hs2:(a.eval y).cells.size=inf.size:=by rw[hsz,hce,hty0];rfl
    have hcl:(a.eval y).cells.toList=[a.eval y]:=by rw[hce]
    simp only[execOp,ho,hv,Instr.storeAt,Instr.sureAddr,storeVar,aSO,aS1,aSJ,sizeOf,typeInfo,aTz,hi,hs2,ne_eq,not_true_eq_false,aUy,hcl,hcells]
 .rename_i ti k n c i o' _ u z kk;split at hr
  .rename_i hu;subst hu;generalize hk:pY H k=ob at hr;unfold TW at hr;split at hr
   .rename_i e' t' l m;split at hr
    .rename_i hc;generalize hset:sB ti.ty z t' (qE t' l i) o'=oz at hr;cases oz with
     |none=>cases hr
     |some z'=>
      cases hr;have hnm:=hside _ (aST.2 rfl);obtain⟨b,cap,xs,c1,c2,c3,hv,hcur,hown,hF,hl,hi,h0,e1,e2,e3,e4⟩:=aAu hT hH hx.1 hk hnm hc;subst hnm;have hty:=sP hT hst;obtain⟨hvy,hky⟩:=a0C hT hH hy;have hR:=ET hvy;have hRl:=sJ hR;obtain⟨d1,d2,d3,f1,f2,f3,f4⟩:=Q2 hR e4 hset;obtain⟨_,_,_,_,hv0,hown0,_,hnone,hseal⟩: ∃(_:True) (_:True) (v0:pN) (xs0:pI),g.cur k n=some v0/\w.ownsRow 0 e' t'.cells v0 n xs0/\tU (Rd g w t') t'.cells l xs0/\(∀m,n<m->g.cur k m=none)/\∀b,v0.ownBlock=some b->∀o,¬g.S b o:=by
       obtain⟨_,v0,xs0,q1,q2,q3,q4,q5⟩:=hH.blk k _ hk;exact⟨trivial,trivial,v0,xs0,q1,q2,q3,q4,q5⟩
      rw[hcur] at hv0;obtain rfl:=aSG hv0;rcases hown.2 with⟨h5,_⟩ |⟨q,cap',cur,h5,_,hg,hnc,hcm,hcs,htake⟩
      .cases h5
      simp only[aUc,aSC,Addr.mk.injEq,and_true,true_and] at h5;obtain⟨rfl,rfl⟩:=h5;have hxl:=hown.1;have hnew:=sJ f4;simp only[aSH] at hnew;have hc2l:c2.length=t'.cells:=by rw[e3,hc]
      have hd:d1.length+d2.length+d3.length=t'.cells:=by rw[<-hc2l,f1];simp only[aSH]
      have hx1:c1.length+c2.length+c3.length=n*t'.cells:=by rw[<-hxl,e1];simp only[aSH]
      have hall:cur.toList=(c1++(d1++d2++d3)++c3)++cur.toList.drop (n*t'.cells):=by
       conv=>lhs;rw[<-aTQ (n*t'.cells) cur.toList,htake,e1,f1]
      obtain⟨D,hD⟩: ∃D,D=cur.toList.drop (n*t'.cells):=⟨_,rfl⟩;rw[<-hD] at hall;have hall2:cur.toList=(c1++d1)++(d2++(d3++c3++D)):=by rw[hall];simp only[aSN]
      have hpos:i.toNat*c+o'=(c1++d1).length:=by rw[aSH,e2,f2]
      have hD2:(a.eval y).cells.toList.length=d2.length:=by rw[hRl,f3]
      have hfit:i.toNat*c+o'+0+(a.eval y).cells.toList.length<=cur.size:=by
       have:cur.size=cur.toList.length:=by simp
       rw[this,hall2,aTP,hpos,hD2];simp only[aSH];omega
      have hst2:=run_storeCells_at P b (i.toNat*c+o') e' (a.eval y).cells.toList 0 cur w hg hfit (fun v hv=>zY hR v hv);have hrow:cur.toList.take (i.toNat*c+o'+0)++(a.eval y).cells.toList++cur.toList.drop (i.toNat*c+o'+0+(a.eval y).cells.toList.length)=(c1++(d1++(a.eval y).cells.toList++d3)++c3)++D:=by
       rw[aTP,hpos,hD2,hall2,aUj,List.drop_append,List.drop_of_length_le pB,List.nil_append,aTr,List.drop_left];simp only[aSN]
      rw[hrow] at hst2;obtain⟨inf,hinf,hsz,_⟩:=DF hty;have hs2:(a.eval y).cells.size=inf.size:=by rw[hsz,<-hRl,aTx]
      have hnewlen:((c1++(d1++(a.eval y).cells.toList++d3)++c3)++D).length=cur.size:=by
       have:cur.size=cur.toList.length:=by simp
       rw[this,hall];simp only[aSH];omega
      have hxs':(c1++(d1++(a.eval y).cells.toList++d3)++c3).length=n*t'.cells:=by
       rw[<-hx1];simp only[aSH];rw[f1];simp only[aSH];omega
      have hown':(w.setRow b ((c1++(d1++(a.eval y).cells.toList++d3)++c3)++D).toArray).ownsRow 0 e' t'.cells (.slice (some ⟨b,0,none⟩) n cap) n (c1++(d1++(a.eval y).cells.toList++d3)++c3):=
       ⟨hxs',.inr ⟨b,cap,_,rfl,aTv _,aUH w b cur _ e' _ hg,hnc,hcm,by rw[aTG,hnewlen,hcs],by rw[<-hxs'];exact aUj⟩⟩
      have hF':tU (Rd g w t') t'.cells (l.set i.toNat z') (c1++(d1++(a.eval y).cells.toList++d3)++c3):=by
       obtain⟨q1,q2,q3,r1,r2,r3,r4⟩:=V2 hF f4 (sJ f4) hi;have s1:q1=c1/\q2=c2/\q3=c3:=by
        have h6:q1++(q2++q3)=c1++(c2++c3):=by rw[<-aSN,<-r1,e1,aSN]
        obtain⟨h7,h8⟩:=aUd h6 (by rw[r2,e2,hc]);obtain⟨h9,h10⟩:=aUd h8 (by rw[r3,e3,hc]);exact⟨h7,h9,h10⟩
       obtain⟨rfl,rfl,rfl⟩:=s1;exact r4
      have hownk: ∀o,sI g H [k] b o:=fun o=>⟨k,_,by simp,hk,_,hcur,rfl⟩;refine r8.skip (w':=w.setRow b ((c1++(d1++(a.eval y).cells.toList++d3)++c3)++D).toArray) ?_ (rD.row (v:= .slice (some ⟨b,0,none⟩) n cap) hH (by rw[List.length_set];exact hl) hown' hF' hnone (fun u hu=>by rw[hcur] at hu;exact(aSG hu).symm)
       (.inr ⟨some b,⟨rfl,rfl,rfl,by simp,fun q _ hq=>aUm w b q _ (fun e=>hq (by rw[e]))⟩,fun b' hb' o=>by cases hb';exact hownk o⟩) (fun b' o hS=>?_) hseal (fun b' hb'=>by cases hb';exact .inr hownk) ⟨trivial,trivial⟩)
      .simp only[execOp,ho,hv,Instr.storeAt,Instr.sureAddr,storeVar,aSO,aS1,aSJ,sizeOf,typeInfo,aTz,hinf,hs2,ne_eq,not_true_eq_false,aUy,hst2]
      have hne:b'≠b:=fun e=>hseal b rfl o (e▸hS);exact aS0 (a:=⟨b',o,none⟩) (aUm w b b' _ hne)
    cases hr
   cases hr
  cases hr
 .rename_i ti i off k u z kk;split at hr
  .rename_i hu;subst hu;generalize hb:pY H i=ob at hr;have hty:=sP hT hst;obtain⟨p,hp,hv⟩:=wZ hx.1;obtain⟨hvy,hky⟩:=a0C hT hH hy;have hR:=ET hvy;have hone:ti.ty.isRow=false->(a.eval y).cells.toList=[a.eval y]:=fun hrow=>by
    have h1:=zY (wX hrow hvy) _ (aST.2 rfl);cases h:a.eval y<;>first|rfl|(rw[h] at h1;simp [Value.oneCell'] at h1)
   have hrun:w.there p.1 (p.2+off) (a.eval y).cells.toList.length->(execOp a.eval o).run P w= .ok .skip (w.setCells p.1 (p.2+off) (a.eval y).cells.toList):=by
    intro hth;obtain⟨inf,hi,hsz,_⟩:=DF hty;have hlen:=sJ hR;have hcells:=run_storeCells_cells (P:=P) p.1 (p.2+off) (a.eval y).cells.toList 0 w (fun j hj=>by simpa using(hth j hj).1) (fun j hj=>by simpa using(hth j hj).2) (fun v hv=>zY hR v hv);simp only[aTP] at hcells;have hs2:(a.eval y).cells.size=inf.size:=by rw[hsz,<-hlen,aTx]
    simp only[execOp,ho,hv,Instr.storeAt,Instr.sureAddr,storeVar,aSO,aS1,aSJ,sizeOf,typeInfo,aTz,hi,hs2,ne_eq,not_true_eq_false,aUy,hcells]
   have fin: ∀{e0:qI}{g1:Gh}{w':pM}{j:Nat}{v:Ty}{zz:v.den}{ts:pG}{U:List (Nat×pV)},FU base i off ob ti.ls ti.ty z kk=some e0->e0.upd=(j,.cells v zz ts)::U->e0.side=[]->e0.slot=(.any,none)->(execOp a.eval o).run P w= .ok .skip w'->rD g w H e0 g1 w' undef->r8 P o a g w H e:=by
    intro e0 g1 w' j v zz ts U h0 h1 h2 h3 h5 h6;rw[h0] at hr;cases hb':K2 ti.ty with
    |false=>
     rw[hb'] at hr;cases hr;exact r8.skip h5 h6
    |true=>
     rw[hb'] at hr;obtain⟨_,g',h7⟩:=aJR hH hr h1 h2 h3 h6 (fun q hq hle=>hf q hq pB);exact r8.skip h5 h7
   obtain⟨e0,hr0⟩: ∃e0,FU base i off ob ti.ls ti.ty z kk=some e0:=by
    cases h:FU base i off ob ti.ls ti.ty z kk with
    |some e0=>exact⟨e0,rfl⟩
    |none=>
     rw[h] at hr;cases hb':K2 ti.ty<;>rw[hb'] at hr<;>cases hr
   have hf0: ∀q,q∈q9 e0.upd->q∈q9 e.upd:=by
    rw[hr0] at hr;cases hb':K2 ti.ty with
    |false=>rw[hb'] at hr;cases hr;exact fun _ h=>h
    |true=>
     rw[hb'] at hr;obtain⟨sd,s,up,rd⟩:=e0;simp only[Z2] at hr;unfold PO at hr;split at hr
     .rename_i heq;cases heq;split at hr
      case isFalse=>cases hr
      generalize hzz:BC _ _ _ _=ozz at hr;cases ozz with
      |none=>cases hr
      |some z2=>
       simp only[TR,aSC] at hr;subst hr;intro q hq;simp only[q9,aSP];right;rw[C9];exact .inr hq
     cases hr
   replace hf:xO g base e0:=fun q hq hle=>hf q (hf0 q hq) hle;rcases aJP hr0 with⟨s,x',toks,z',hb',hset,hsome,⟨pa,pb,hpair⟩,mk_,hmk,hok,rfl⟩ |hr1
   .rw[hb'] at hb;have hn:xM mk_ ti.ty 0 (a.eval y).cells.toList:=by
     obtain⟨m',e1,e2⟩:=aJO hsome hpair hky;rw[hmk] at e1;obtain rfl:=aSG e1;exact e2
    have hlx:=fun q hq=>V5 (k:=mk_) (ls:=ti.ls) (q:=q) hq;generalize C3 mk_ ti.ls=lsm at hf hok hlx hr0;obtain⟨heff,hth⟩:=rD.store (side:=[]) (rds:=[i]) (k:=none) (v:=undef) hH hb hp hset hR trivial (fun _ _ _=>rfl) (fun h=>by rw[hpair] at h;cases h);have hfr: ∀j,base<=j->j<base+lsm.length->∀n,g.cur j n=none:=fun j h1 h2=>(hf j (by
     simp only[q9,aSP];right;rw[C9];exact .inl ((Q8 _ base j).2 ⟨h1,h2⟩)) h1).2
    obtain⟨g1,k1,k2,k3,k4⟩:=a0u lsm base g _ heff.heap hfr;have e2:=rD.trans (side:=[]) (rds:=[]) heff k1;have hib:i<base:=by
     rcases aTD i base with h|h
     .exact h
     have:=(hf i (by simp [q9]) h).1;rw[hp] at this;cases this
    have hiN:i∉q9 (DB lsm base):=fun h=>by
     have:=(Q8 _ base i).1 h;omega
    have hb3:pY (qS (qS (DB lsm base) [(i,pV.cells s z' (sZ toks off ti.ty.cells))]) H) i=some (.cells s z' (sZ toks off ti.ty.cells)):=by
     rw[KK,A0 hiN];simp [qS,pY]
    have hyl:=sJ hR;have e3:=rD.retok (p:=p) (nt:=MV off (C2 lsm base)) e2.heap hb3 (by rw[k2];exact hp) (fun cs hRz hra o k hm=>by
     obtain⟨q,rfl,hq⟩:=aAG hm;obtain⟨en,he,rfl⟩:=a0v hq;obtain⟨u,h1,h2⟩:=aAm hn hR (a0w hok en he) (by have:=hlx en he;omega);have hql:en.1<(a.eval y).cells.toList.length:=(aSR.1 h2).1;have h3:=aAH hset h1 pB;refine⟨u,[],.slice none 0 0,h3,?_,k3 _ _ hq⟩;have hlen:=sJ hRz;have hlt:=aAI h3;have hc:cs[off+en.1]? =some cs[off+en.1]:=aSK pB;have hr1:=hra _ _ hc;have hr2:=aT3 p.1 (a.eval y).cells.toList (p.2+off) w (fun j hj=>(hth j hj).1) en.1 hql;rw[aTj] at hr2;rw[hr2] at hr1;rw[hc,<-hr1,<-h2,aSK hql])
    exact fin (w':=w.setCells p.1 (p.2+off) (a.eval y).cells.toList) hr0 rfl rfl rfl (hrun hth) (rD.trans (side:=[]) (rds:=[i]) e2 e3)
   cases ob with
   |none=>cases hr1
   |some bl=>
   cases bl with
   |cells s q toks=>
    simp only[TP] at hr1;generalize hset:sB ti.ty z s q off=oz at hr1;cases oz with
    |none=>cases hr1
    |some z'=>
     simp only[MU,aSC] at hr1;subst hr1;obtain⟨heff,hth⟩:=rD.store (side:=[]) (rds:=[i]) hH hb hp hset hR (aJN hky) (fun a b e=>by rw[e];rfl) hone;exact fin (w':=w.setCells p.1 (p.2+off) (a.eval y).cells.toList) hr0 rfl rfl rfl (hrun hth) heff
   |_=>cases hr1
  cases hr
 cases hr
omit hT in
theorem rD.poke {k:Nat}{e:TypeId}{t:Ty}{l:List t.den}{m:Nat}(hk:pY H k=some (.row e t l m)) {b cap:Nat}(hcur:g.cur k m=some (.slice (some ⟨b,0,none⟩) m cap)) {i:Int}(h0:0<=i) (h1:i<(m:Int)) {o':Nat}{uT:Ty}{y:uT.den}{z':t.den}(hset:sB uT y t (qE t l i) o'=some z') {u:pN}(hy:Rd g w uT y [u]):
  rD g w H ⟨[],(.any,none),[(k,.row e t (l.set i.toNat z') m)],[]⟩ (g.tok k m (.slice (some ⟨b,0,none⟩) m cap)) (w.setCells b (i.toNat*t.cells+o') [u]) undef:=by
 obtain⟨hl,v0,xs,hv0,hown,hF,hnone,hseal⟩:=hH.blk k _ hk;rw[hcur] at hv0;obtain rfl:=aSG hv0;have hi:i.toNat<l.length:=by rw[hl];omega
 obtain⟨c1,c2,c3,e1,e2,e3,e4⟩:=V0 hF (aAq h0 hi);obtain⟨d1,d2,d3,f1,f2,f3,f4⟩:=Q2 hy e4 hset;rcases hown.2 with⟨h5,_⟩ |⟨q,cap',cur,h5,_,hg,hnc,hcm,hcs,htake⟩
 .cases h5
 simp only[aUc,aSC,Addr.mk.injEq,and_true,true_and] at h5;obtain⟨rfl,rfl⟩:=h5;have hxl:=hown.1;have hnew:=sJ f4;have hyl:=sJ hy;simp only[aSH,aTI] at hnew hyl;have hd:d1.length+d2.length+d3.length=t.cells:=by rw[<-e3,f1];simp only[aSH]
 have hx1:c1.length+c2.length+c3.length=m*t.cells:=by rw[<-hxl,e1];simp only[aSH]
 have hall:cur.toList=(c1++(d1++d2++d3)++c3)++cur.toList.drop (m*t.cells):=by
  conv=>lhs;rw[<-aTQ (m*t.cells) cur.toList,htake,e1,f1]
 obtain⟨D,hD⟩: ∃D,D=cur.toList.drop (m*t.cells):=⟨_,rfl⟩;rw[<-hD] at hall;obtain⟨x2,rfl⟩: ∃x2,d2=[x2]:=aTO.1 pB;have hall2:cur.toList=(c1++d1)++(x2::(d3++c3++D)):=by rw[hall];simp only[aSN,List.cons_append,List.nil_append]
 have hpos:i.toNat*t.cells+o'=(c1++d1).length:=by rw[aSH,e2,f2]
 have hw:w.setCells b (i.toNat*t.cells+o') [u]=w.setRow b ((c1++(d1++[u]++d3)++c3)++D).toArray:=by
  show w.setCell ⟨b,i.toNat*t.cells+o',none⟩ u=_;rw[setCell_eq_setRow w b _ cur e (0,0) u hg];congr 1;apply aTF.1;rw[Array.toList_setIfInBounds,hall2,hpos,List.set_append_right _ _ (aSW _),aT7,List.set_cons_zero];simp only[aSN,List.cons_append,List.nil_append]
 have hnewlen:((c1++(d1++[u]++d3)++c3)++D).length=cur.size:=by
  have:cur.size=cur.toList.length:=by simp
  rw[this,hall];simp only[aSH,aTI]
 have hxs':(c1++(d1++[u]++d3)++c3).length=m*t.cells:=by
  rw[<-hx1,f1];simp only[aSH,aTI]
 have hown':(w.setRow b ((c1++(d1++[u]++d3)++c3)++D).toArray).ownsRow 0 e t.cells (.slice (some ⟨b,0,none⟩) m cap) m (c1++(d1++[u]++d3)++c3):=
  ⟨hxs',.inr ⟨b,cap,_,rfl,aTv _,aUH w b cur _ e _ hg,hnc,hcm,by rw[aTG,hnewlen,hcs],by rw[<-hxs'];exact aUj⟩⟩
 have hF':tU (Rd g w t) t.cells (l.set i.toNat z') (c1++(d1++[u]++d3)++c3):=by
  obtain⟨q1,q2,q3,r1,r2,r3,r4⟩:=V2 hF f4 (sJ f4) hi;have s1:q1=c1/\q2=c2/\q3=c3:=by
   have h6:q1++(q2++q3)=c1++(c2++c3):=by rw[<-aSN,<-r1,e1,aSN]
   obtain⟨h7,h8⟩:=aUd h6 (by rw[r2,e2]);obtain⟨h9,h10⟩:=aUd h8 (by rw[r3,e3]);exact⟨h7,h9,h10⟩
  obtain⟨rfl,rfl,rfl⟩:=s1;exact r4
 have hownk: ∀o,sI g H [k] b o:=fun o=>⟨k,_,by simp,hk,_,hcur,rfl⟩;rw[hw];refine rD.row (v:= .slice (some ⟨b,0,none⟩) m cap) hH (by rw[List.length_set];exact hl) hown' hF' hnone (fun u hu=>by rw[hcur] at hu;exact(aSG hu).symm)
  (.inr ⟨some b,⟨rfl,rfl,rfl,by simp,fun q _ hq=>aUm w b q _ (fun e=>hq (by rw[e]))⟩,fun b' hb' o=>by cases hb';exact hownk o⟩) (fun b' o hS=>?_) hseal (fun b' hb'=>by cases hb';exact .inr hownk) ⟨trivial,trivial⟩
 have hne:b'≠b:=fun e=>hseal b rfl o (e▸hS);exact aS0 (a:=⟨b',o,none⟩) (aUm w b b' _ hne)
omit hT in
theorem rD.below {w1:pM}(h:Below w.heap.size w w1):rD g w H ⟨[],(.any,none),[],[]⟩ g w1 undef:=by
 have le:Le g w g w1:=⟨fun _ _ h=>h,fun b o hS=>aS0 (a:=⟨b,o,none⟩) (h.block b (hH.sl b o hS)),fun _ _ h=>h,fun _ _ _ h=>h⟩;have fr:Fr (sI g H (q9 [])) w w1 g.S g.S:=⟨h.os,h.tape,h.output,h.size,fun b hb _=>h.block b hb,fun b o hb _=>⟨aS0 (a:=⟨b,o,none⟩) (h.block b hb),aTq (a:=⟨b,o,none⟩) (h.block b hb)⟩,fun _ _ h=> .inl h,fun b s hs=> .inl ((BJ (h.block b (BI hs))).trans hs)⟩;exact⟨le,⟨trivial,trivial⟩,hH.upd le fr (fun _ _ _ _ hi=>(by cases hi)) (fun _ _=>⟨rfl,rfl⟩) (fun _ _ hi=>(by cases hi)) (fun _ _ _ _ _ _ hi=>(by cases hi)) (fun b o hS=>aTd (hH.sl b o hS) h.size),fr,fun _ _ _ _ hi=>(by cases hi),fun _ _=>⟨rfl,rfl⟩,fun _ _ y us h=> .inl ⟨y,us,h⟩⟩
theorem aAM {t:Ty}{n:Nat}{ev:Operand->pN}{ρ:Operand->pW}: ∀(ps:List (Nat×Operand)) (l z:List t.den) (cs:pI),tU (Rd g w t) t.cells l cs->l.length=n->(∀q∈ps,rH g w (ρ q.2) (ev q.2))->B8 t n (some l) (u1 ρ ps)=some z->
  ∃cs',Instr.fill (fun i=>some (i*t.cells,t.cells)) cs.toArray (ps.map fun q=>(q.1,ev q.2))=some cs'.toArray/\tU (Rd g w t) t.cells z cs'/\z.length=n
 |[],l,z,cs,r,hl,_,h=>by
  simp only[u1,B8,aSC] at h;subst h;exact⟨cs,rfl,r,hl⟩
 |(i,q)::ps,l,z,cs,r,hl,hq,h=>by
  have h0:=hq (i,q) pD;generalize hs:ρ q=s at h0;simp only[u1,hs] at h;obtain⟨d,k⟩:=s;cases d with
  |val u y=>
   simp only[B8,a9n] at h;by_cases hc:u=t/\i<n
   .rw[aUu hc] at h;obtain⟨rfl,hi⟩:=hc;simp only[tX] at h;have hR:=ET h0.1;obtain⟨c1,c2,c3,rfl,h2,h3,h4⟩:=V2 (i:=i) r hR (sJ hR) pB;obtain⟨cs',k1,k2,k3⟩:=aAM ps (l.set i y) z _ h4 (by simpa using hl) (fun q hq'=>hq q (by simp [hq'])) h;refine⟨cs',?_,k2,k3⟩;simp only[aTV];rw[aAl rfl (by have:=sJ hR;simpa using this) (c1:=c1) (c2:=c2) (c3:=c3) pD h2 h3];exact k1
   .rw[aT0 hc] at h;cases ps with
    |nil=>simp [u1,B8] at h
    |cons p ps=>simp [u1,B8] at h
  |_=>simp [B8] at h
theorem a0D {t:TypeId}{n:Nat}{ps:Array (Nat×Operand)}(ho:o.op= .buildSlice t n ps) {ρ:Operand->pW}(hρ: ∀q∈ps.toList,rH g w (ρ q.2) (a.eval q.2)) {u:Ty}{el:TypeId}{by':Nat}{ar:Bool}{ls:List (Nat×TypeId×Nat)}(hst:rO T t=some ⟨.list u,el,by',ar,ls⟩) {l:List u.den}
  (hb:B8 u n (some (CS u n)) (u1 ρ ps.toList)=some l) (hn:n<=16777216/\n*u.cells<=16777216):
  ∃cs':pI,tU (Rd g w u) u.cells l cs'/\l.length=n/\(execOp a.eval o).run P w= .ok (.value (.slice (some ⟨w.heap.size,0,none⟩) n n)) (w.alloc (.cells cs'.toArray el)):=by
    obtain⟨h2,h3,_⟩:=(sP hT hst).2;obtain⟨ei,hei,hz⟩:=aSS.1 h3;simp only[aS7] at hz;obtain⟨cs',k1,k2,k3⟩:=aAM hT hH ps.toList (CS u n) l _ (aAz n) (aAA u n) hρ hb;refine⟨cs',k2,k3,?_⟩;have hzc:(xN u).cells=(tY u).toArray:=by
     unfold xN;cases h:u<;>simp [Ty.isRow,tY,Value.cells]
    have hmap:(ps.map fun(q:Nat×Operand)=>(q.1,a.eval q.2)).toList=ps.toList.map fun q=>(q.1,a.eval q.2):=by simp
    have hzl:(tY u).length=u.cells:=sJ (DE g w u);have hrow: ∀z:Array pN,(n*u.cells≠0->z=(tY u).toArray)->(Array.range (n*u.cells)).map (fun i=>z[i%z.size]!)=(List.flatten (List.replicate n (tY u))).toArray:=by
     intro z hz0;by_cases h0:n*u.cells=0
     .rw[h0];have:List.flatten (List.replicate n (tY u))=[]:=aS9 (by simp [hzl,h0]);rw[this];simp
     rw[hz0 h0];have hpos:0<u.cells:=Nat.pos_of_ne_zero (fun h=>h0 (by rw[h];simp));apply aTF.1;apply List.ext_getElem?;intro j;have key: ∀(m j:Nat),j<m*u.cells->(List.flatten (List.replicate m (tY u)))[j]? =(tY u)[j%u.cells]? :=by
      intro m
      induction m with
      |zero=>intro j h;simp at h
      |succ m ih=>
       intro j h;rw[List.replicate_succ,aUx];by_cases hj:j<u.cells
       .rw[aSU pB,Nat.mod_eq_of_lt hj]
       rw[aSM pB,hzl,ih (j-u.cells) (by rw[aTW] at h;omega)];congr 1
       conv=>rhs;rw[<-Nat.sub_add_cancel (Nat.le_of_not_lt hj),Nat.add_mod_right]
     by_cases hj:j<n*u.cells
     .have hm:j%u.cells<(tY u).length:=by rw[hzl];exact Nat.mod_lt _ hpos
      simp only[Array.toList_map,Array.toList_range,List.getElem?_map,List.getElem?_range hj,Option.map_some,aTG,hzl];rw[key n j hj,aSK hm];simp [getElem!_pos,hm]
     rw[aTX pE,aTX (by simp [hzl];omega)]
    have hlim: ¬(n*u.cells>2^24):=by have:=hn.2;omega
    by_cases h0:n*u.cells=0
    .simp only[execOp,ho,Instr.buildSlice,aSO,aSX h2,aSJ,sizeOf,typeInfo,aTz,hei,hz.1,aS1,aSD hlim,aSB h0];rw[hrow #[] (fun h=>absurd h0 h),hmap,k1];simp only[newRow,aSO,run_newObj,aSJ,aS1];rfl
    simp only[execOp,ho,Instr.buildSlice,aSO,aSX h2,aSJ,sizeOf,typeInfo,aTz,hei,hz.1,aS1,aSD hlim,aSD h0,zeroValue,hz.2.2,hzc];rw[hrow (tY u).toArray (fun _=>rfl),hmap,k1];simp only[newRow,aSO,run_newObj,aSJ,aS1];rfl
theorem aJU {t:TypeId}{n:Nat}{ps:Array (Nat×Operand)}(ho:o.op= .buildSlice t n ps) {ρ:Operand->pW}(hρ: ∀q∈ps.toList,rH g w (ρ q.2) (a.eval q.2)) {base:Nat}{e:qI}(hr:YU base n (u1 ρ ps.toList) (rO T t)=some e) (hf:xO g base e):r8 P o a g w H e:=by
 generalize hst:rO T t=ot at hr;unfold YU at hr;split at hr
 .rename_i u el by' ls_;split at hr
  .rename_i hn0;generalize hb:B8 u n (some (CS u n)) (u1 ρ ps.toList)=ol at hr;cases ol with
   |none=>cases hr
   |some l=>
    simp only[a9D] at hr;split at hr
    .rename_i hn;cases hr;obtain⟨cs',k2,k3,hrun⟩:=a0D hT hH ho hρ hst hb hn.2;have hfr:=(hf base (by simp [q9]) (aSW _)).2;have hlen:=KH k2;have hown:(w.alloc (.cells cs'.toArray el)).ownsRow 0 el u.cells (.slice (some ⟨w.heap.size,0,none⟩) n n) n cs':=⟨by rw[hlen,k3],.inr ⟨w.heap.size,n,cs'.toArray,rfl,aTv _,aUF w _,aSW _,by unfold maxLen;omega,by simp [hlen,k3],by simp [<-k3,<-hlen]⟩⟩;refine r8.value hrun (rD.row (v:= .slice (some ⟨w.heap.size,0,none⟩) n n) (xs:=cs') hH k3 hown k2 (fun m _=>hfr m) (fun u hu=>by rw[hfr] at hu;cases hu) (.inl (World.grownBy_alloc w _ _)) (fun b o h=>aS0 (a:=⟨b,o,none⟩) (aTc _ _ _ (hH.sl b o h))) (fun b hb o hs=>?_) (fun b hb=>?_) ⟨⟨by simp [Gh.tok],.inr ⟨_,_,rfl,aSW _⟩⟩,trivial⟩)
     .cases hb;exact aUg _ (hH.sl _ _ hs)
     cases hb;exact .inl (aSW _)
    cases hr
  rename_i hn0;generalize hb:B8 u n (some (CS u n)) (u1 ρ ps.toList)=ol at hr;cases ol with
  |none=>cases hr
  |some l=>
   simp only[TG] at hr;split at hr
   .rename_i hn;cases hr;obtain⟨cs',k2,k3,hrun⟩:=a0D hT hH ho hρ hst hb hn;have hfr:=hf base (by simp [q9]) (aSW _);exact r8.value (v:= .slice (some ⟨w.heap.size,0,none⟩) n n) (w':=w.alloc (.cells cs'.toArray el)) hrun (rD.lit hH rfl k3 k2 (by unfold maxLen;omega) hfr.2)
   cases hr
 .rename_i u el by' ls_;generalize hb:B8 u n (some (CS u n)) (u1 ρ ps.toList)=ol at hr;cases ol with
  |none=>cases hr
  |some l=>
   simp only[TG] at hr;split at hr
   .rename_i hn;cases hr;obtain⟨cs',k2,k3,hrun⟩:=a0D hT hH ho hρ hst hb hn;have hfr:=hf base (by simp [q9]) (aSW _);exact r8.value (v:= .slice (some ⟨w.heap.size,0,none⟩) n n) (w':=w.alloc (.cells cs'.toArray el)) hrun (rD.lit hH rfl k3 k2 (by unfold maxLen;omega) hfr.2)
   cases hr
 cases hr
theorem aJV {args:Array Operand}{tys:Array TypeId}(ho:o.op= .call ⟨.builtin .append,args,tys⟩) {ρ:Operand->pW}(hρ: ∀x∈args.toList,rH g w (ρ x) (a.eval x)) {e:qI}
  {t:TypeId}(htt:tys= #[t,t]) (hr:U5 H (rO T t) (vL ρ args.toList)=some e) (hs: ∀p∈e.side,p):r8 P o a g w H e:=by
 subst htt;generalize hst:rO T t=ot at hr;generalize hss:vL ρ args.toList=ss at hr;unfold U5 at hr;split at hr
 .rename_i u el by' ar ls_ k n _ b1 r _;split at hr
  .rename_i hbu;subst hbu;generalize hk:pY H k=ob at hr;unfold U4 at hr;split at hr
   .rename_i e' t' l m;split at hr
    .rename_i hbt;subst hbt;split at hr
     .rename_i hec;obtain⟨rfl,hpos,hb1⟩:=hec;simp only[tX] at hr;cases hr;have hnm:=hs _ (by simp:(n=m)∈_);subst hnm;have hby:=hs _ (by simp:((n+List.length r)*by'<=140737488355328)∈_);obtain⟨v,vr,hv,hs1,hs2⟩:=UZ hT hH hρ hss;obtain⟨h2,h3,_⟩:=(sP hT hst).2;obtain⟨ei,hei,hz⟩:=aSS.1 h3;simp only[aS7] at hz;obtain⟨cs,hx⟩:=G1 (a:=a) hT hH ho;obtain⟨hl,v0,xs,hv0,hown,hF0,hnone,hseal⟩:=hH.blk k _ hk;obtain⟨hcur,hshape⟩:=hs1.1;rw[hv0] at hcur;obtain rfl:=aSG hcur;obtain⟨adr,capr,hvr,hler,hlr⟩:=EU hs2.1;have hlen2:(l++r).length=n+List.length r:=by rw[aSH,hl]
      rw[hlen2];have hownk: ∀q,v0.ownBlock=some q->∀o,sI g H [k] q o:=fun q hq o=>⟨k,_,by simp,hk,v0,hv0,hq⟩;by_cases hm:List.length r=0
      .obtain rfl:r=[]:=aS9 hm;refine r8.value (v:=v0) (w':=w) ?_ (rD.row (v:=v0) (xs:=xs) hH hlen2 hown (by rw[List.append_nil];exact hF0) hnone (fun u hu=>by
        have h5:g.cur k n=some u:=hu;rw[hv0] at h5;exact(aSG h5).symm) (.inl ⟨rfl,rfl,rfl,aSW _,fun _ _ _=>rfl⟩) (fun _ _ _=>rfl) hseal (fun q hq=> .inr (hownk q hq)) ⟨⟨by simp [Gh.tok],hshape⟩,trivial⟩)
       obtain⟨adl,capl,hvl,hlel⟩: ∃adl capl,v0= .slice adl n capl/\n<=capl:=by
        rcases hshape with⟨h,rfl⟩ |⟨b,cap,h,h'⟩
        .exact⟨_,_,h,aSW _⟩
        exact⟨_,_,h,h'⟩
       rw[hx,hv,hvr,hvl];have ha0:(#[Value.slice adl n capl,Value.slice adr (List.length ([]:List b1.den)) capr]:Array pN)[0]? =some (.slice adl n capl):=rfl;have ha1:(#[Value.slice adl n capl,Value.slice adr (List.length ([]:List b1.den)) capr]:Array pN)[1]? =some (.slice adr 0 capr):=rfl;have ht0:(#[t,t]:Array TypeId)[0]? =some t:=rfl;have ht1:(#[t,t]:Array TypeId)[1]? =some t:=rfl;simp only[builtin,Builtin.append_,ht0,ht1,ha0,ha1,aSO,aSX h2,aSJ,aS1,sizeOf,typeInfo,aTz,hei];cases adr<;>cases adl<;>simp [Builtin.lenOf,Builtin.firstCells,loadCells,loadCellsFrom,storeCells,hlel]
      obtain⟨b,off,rfl,hL⟩: ∃b o,adr=some ⟨b,o,none⟩/\yG (Rd g w b1) w g.S b1.cells b o r:=by
       rcases hlr with rfl|h
       .exact absurd rfl hm
       exact h
      obtain⟨news,hF,hra,_⟩:=Q6 hL;obtain⟨q,cap,w',hrun,hown',hq,hg,hcap,hcell⟩:=aAB (P:=P) w t o.type e' ei (xN b1) b1.cells by' h2 hei hz.2.2 hz.1 hz.2.1 (by
       have:=sJ (ET (KL g w b1));simpa using this) v0 n xs hown ⟨b,off,none⟩ (List.length r) capr news (KH hF) (fun j u hu=>by rw[aTK];exact hra j u hu) (a0r (fun _ _ h=>zY h) hF) pB
       (by
        have:=Nat.mul_le_mul_left (n+List.length r) hb1;unfold maxLen;omega) hby
      refine r8.value (v:= .slice (some ⟨q,0,none⟩) (n+List.length r) cap) (w':=w') ?_ (rD.row (v:= .slice (some ⟨q,0,none⟩) (n+List.length r) cap) (xs:=xs++news) hH hlen2 hown' (a0d hF0 hF) (fun m hm'=>hnone m pB) (fun u hu=>by
       rw[hnone _ pB] at hu;cases hu) (.inr ⟨v0.ownBlock,hg,fun b hb o=>hownk b hb o⟩) (fun b o hS=>hcell b o (hH.sl b o hS) (fun hb=>absurd hS (hseal b hb o))) (fun b hb o hS=>?_) (fun b hb=>?_) ⟨⟨by simp [Gh.tok],.inr ⟨q,cap,rfl,hcap⟩⟩,trivial⟩)
      .rw[hx,hv,hvr];simp only[builtin,aSO,hrun,aSJ,aS1]
      .cases hb;rcases hq with h|h
       .rw[h] at hS;exact aUg _ (hH.sl _ _ hS)
       exact hseal _ h o hS
      cases hb;rcases hq with h|h
      .exact .inl (aT4 h.symm)
      exact .inr (hownk _ h)
     cases hr
    cases hr
   cases hr
  cases hr
 .rename_i u el by' ar ls_ a1 l k b1 r k2;split at hr
  .rename_i hab;obtain⟨rfl,rfl⟩:=hab;simp only[tX] at hr;generalize hk:pY H k=ob at hr;unfold U3 at hr;split at hr
   .rename_i e' c n;split at hr
    .rename_i hec;obtain⟨rfl,hcc,hpos,hb1⟩:=hec;cases hr;rw[aSH];have hln:=hs _ (by simp:(List.length l=n)∈_);have hby:=hs _ (by simp:((List.length l+List.length r)*by'<=140737488355328)∈_);obtain⟨v,vr,hv,hs1,hs2⟩:=UZ hT hH hρ hss;obtain⟨h2,h3,_⟩:=(sP hT hst).2;obtain⟨ei,hei,hz⟩:=aSS.1 h3;simp only[aS7] at hz;obtain⟨cs,hx⟩:=G1 (a:=a) hT hH ho;obtain⟨v0,xs,hv0,hown,hnone,hseal⟩:=hH.blk k _ hk;have hcur:g.cur k (List.length l)=some v:=hs1.2;rw[hln,hv0] at hcur;obtain rfl:=aSG hcur;obtain⟨adr,capr,hvr,hler,hlr⟩:=EU hs2.1;obtain⟨adl,capl,hvl,hlel,hll⟩:=EU hs1.1;by_cases hm:List.length r=0
     ·
      obtain rfl:r=[]:=aS9 hm;have hlr:List.length l+List.length ([]:List b1.den)=n:=by rw[hln];rfl
      have hget: ∀i,pY (qS [(k,pV.grow e' c (List.length l+List.length ([]:List b1.den)))] H) i=pY H i:=by
       intro i;simp only[qS,pY];by_cases hi:k=i
       .subst hi;rw[aSB rfl,hlr];exact hk.symm
       rw[aSD hi]
      have hkeep:rD g w H ⟨[List.length l=n,(List.length l+List.length ([]:List b1.den))*by'<=140737488355328],(.val (.list b1) (l++[]),some k),[(k,.grow e' c (List.length l+List.length ([]:List b1.den)))],[k]⟩ g w v0:=by
       refine⟨.refl _ _,?_,⟨fun i b h=>hH.blk i b ((hget i).symm.trans h),fun i j bi bj b o' hij h1 h2=>hH.dis i j bi bj b o' hij ((hget i).symm.trans h1) ((hget j).symm.trans h2),hH.sl,hH.tab.1,fun i blk b o' h ho'=>hH.tab.2 i blk b o' ((hget i).symm.trans h) ho'⟩,.refl _ _ _,fun i blk b o' hi hg ho'=> .inr ⟨i,blk,hi,(hget i).symm.trans hg,ho'⟩,fun _ _=>⟨rfl,rfl⟩,fun i u' y us h=> .inl ⟨y,us,(hget i).symm.trans h⟩⟩;rw[List.append_nil];exact hs1
      refine r8.value (v:=v0) (w':=w) ?_ hkeep;rw[hx,hv,hvr,hvl];have ha0:(#[Value.slice adl (List.length l) capl,Value.slice adr (List.length ([]:List b1.den)) capr]:Array pN)[0]? =some (.slice adl (List.length l) capl):=rfl;have ha1:(#[Value.slice adl (List.length l) capl,Value.slice adr (List.length ([]:List b1.den)) capr]:Array pN)[1]? =some (.slice adr 0 capr):=rfl;have ht0:(#[t,t]:Array TypeId)[0]? =some t:=rfl;have ht1:(#[t,t]:Array TypeId)[1]? =some t:=rfl;simp only[builtin,Builtin.append_,ht0,ht1,ha0,ha1,aSO,aSX h2,aSJ,aS1,sizeOf,typeInfo,aTz,hei];cases adr<;>cases adl<;>simp [Builtin.lenOf,Builtin.firstCells,loadCells,loadCellsFrom,storeCells,hlel]
     obtain⟨b,off,rfl,hL⟩: ∃b o,adr=some ⟨b,o,none⟩/\yG (Rd g w b1) w g.S b1.cells b o r:=by
      rcases hlr with rfl|h
      .exact absurd rfl hm
      exact h
     obtain⟨news,hF,hra,_⟩:=Q6 hL;have hxs:tU (Rd g w b1) b1.cells l xs:=by
      by_cases h0:List.length l=0
      .obtain rfl:l=[]:=aS9 h0;have:xs=[]:=aS9 (by rw[hown.1,<-hln];simp);exact this
      rcases hll with rfl|⟨b0,off0,rfl,hL0⟩
      .exact absurd rfl h0
      obtain⟨ls,hF0,hra0,_⟩:=Q6 hL0;rcases hown.2 with⟨e1,e2⟩ |⟨q,cap,cur,e1,e2⟩
      .exact absurd (hln.trans e2) h0
      rw[hvl] at e1;simp only[aUc,aSC,Addr.mk.injEq] at e1;obtain⟨⟨rfl,rfl,_⟩,_,rfl⟩:=e1;have hvn:v0= .slice (some ⟨b0,0,none⟩) n capl:=by rw[hvl,hln]
      have hrx:=a0s (hvn▸hown);have:ls=xs:=by
       have hl1:=KH hF0;have hl2:=hown.1;apply List.ext_getElem?;intro j;by_cases hj:j<ls.length
       .have h1:=hra0 j ls[j] (aSK hj);have hj':j<xs.length:=by rw[hl2,hcc,<-hln,<-hl1];exact hj
        have h2:=hrx j xs[j] (aSK hj');rw[h1] at h2;rw[aSK hj,aSK hj',aSG h2]
       rw[aTX pB,aTX (by rw[hl2,hcc,<-hln,<-hl1];omega)]
      rw[<-this];exact hF0
     obtain⟨q,cap,w',hrun,hown',hq,hg,hcap,hcell⟩:=aAB (P:=P) w t o.type e' ei (xN b1) c by' h2 hei hz.2.2 (by rw[hz.1,hcc]) hz.2.1 (by
      have:=sJ (ET (KL g w b1));rw[hcc];simpa using this) v0 n xs hown ⟨b,off,none⟩ (List.length r) capr news (by rw[KH hF,hcc]) (fun j u hu=>by rw[aTK];exact hra j u hu) (a0r (fun _ _ h=>zY h) hF) pB
      (by
       have:=Nat.mul_le_mul_left (List.length l+List.length r) hb1;unfold maxLen;omega) (by rw[<-hln];exact hby)
     refine r8.value (v:= .slice (some ⟨q,0,none⟩) (n+List.length r) cap) (w':=w') ?_ (by
      have:=rD.append (side:=[List.length l=n,(List.length l+List.length r)*by'<=140737488355328]) (rds:=[k]) hH hk hcc hln hv0 hown hnone hseal (hcc▸hxs) (hcc▸hF) pB hown' hq hg hcap hcell;rw[hln];rw[hln] at this;exact this)
     rw[hx,hv,hvr];simp only[builtin,aSO,hrun,aSJ,aS1]
    cases hr
   cases hr
  cases hr
 cases hr
end
def A1:Ty->TypeDesc
 | .int k=> .int k
 | .str=> .string
 |_=> .bool
theorem a0E {P:Program}{t:TypeId}{ti:TI}(h:sU P t ti) (hk:DC ti.ty=true):P.underlying t=some (A1 ti.ty):=by
 have h2:=h.2;unfold wV at h2;obtain⟨ty,el,by',ar,ls⟩:=ti;cases ty<;>simp only[DC,aTS] at hk<;>exact h2
theorem aJW {g:Gh}{w:pM}{k:Ty}(hk:DC k=true) {a x:k.den}{v u:pN}(ha:sW g w k a v) (hx:sW g w k x u):Instr.sameNow (A1 k) v u=some (FW k a x)/\(FW k a x=true->u=v):=by
 cases k with
 |int k=>
  rw[wC ha,wC hx];simp only[A1,Instr.sameNow,aT5,FW];refine⟨?_,fun h=>?_⟩
  .congr 1
  .rw[aTn h]
 |str=>
  rw[wY ha,wY hx];simp only[A1,Instr.sameNow,FW];refine⟨?_,fun h=>?_⟩
  .congr 1;rw[aUf,MapKept.bytes_beq,aSL];constructor
   .intro h;have:=aS4 (fun z:ByteArray=>z.data.toList) h;simpa using this
   intro h;rw[h]
  .rw[aTn h]
 |bool=>
  rw[vB ha,vB hx];simp only[A1,Instr.sameNow,FW];refine⟨trivial,fun h=>?_⟩;rw[aTU.1 h]
 |_=>simp [DC] at hk
theorem a0F {g:Gh}{w:pM}{k v:Ty}(hk:DC k=true) {a:k.den}{key:pN}(ha:sW g w k a key): ∀{l:List (k.den×v.den)}{es:List MapEntry}(i:Nat),DD g w k v l es->
  (ER k v l a=false->Instr.findNow (A1 k) key es i=some none/\sD k v l a=v.zero/\∀b val born,sW g w v b val->DD g w k v (sS k v a b l) (es++[⟨key,val,born⟩]))/\
  (ER k v l a=true->∃j e,es[j]? =some e/\Instr.findNow (A1 k) key es i=some (some (i+j,e.val))/\sW g w v (sD k v l a) e.val/\e.key=key/\∀b val,sW g w v b val->DD g w k v (sS k v a b l) (es.modify j fun e=>{e with key:=key,val:=val}))
 |[],es,i,h=>by
  rw[show es=[] from h];exact⟨fun _=>⟨rfl,rfl,fun b val born hb=>⟨_,[],rfl,ha,hb,rfl⟩⟩,fun h=>by simp [ER] at h⟩
 |(x,y)::l,_,i,⟨e,es',rfl,h1,h2,h3⟩=>by
  obtain⟨s1,s2⟩:=aJW hk ha h1;cases hq:FW k a x with
  |true=>
   rw[hq] at s1;refine⟨fun h=>by simp [ER,hq] at h,fun _=>⟨0,e,rfl,?_,?_,s2 hq,fun b val hb=>?_⟩⟩
   .simp only[Instr.findNow,s1,aTP]
   .simp only[sD,hq,aT5];exact h2
   .simp only[sS,hq,aT5];exact⟨_,es',rfl,ha,hb,h3⟩
  |false=>
   rw[hq] at s1;obtain⟨f1,f2⟩:=a0F (v:=v) hk ha (i+1) h3;refine⟨fun h=>?_,fun h=>?_⟩
   .simp only[ER,hq] at h;obtain⟨g1,g2,g3⟩:=f1 (by simpa using h);refine⟨by simp only[Instr.findNow,s1];exact g1,by simp only[sD,hq];simpa using g2,fun b val born hb=>?_⟩;simp only[sS,hq];exact⟨e,_,rfl,h1,h2,g3 b val born hb⟩
   simp only[ER,hq] at h;obtain⟨j,e',g1,g2,g3,g4,g5⟩:=f2 (by simpa using h);refine⟨j+1,e',by simpa using g1,by simp only[Instr.findNow,s1];rw[g2];congr 3;omega,by simp only[sD,hq];simpa using g3,g4,fun b val hb=>?_⟩;simp only[sS,hq];exact⟨e,_,rfl,h1,h2,g5 b val hb⟩
def KP (ok:Bool) (z:pN):Option (Nat×pN)->pN
 |some (_,v)=>if ok then .tuple #[v,.bool true] else v
 |none=>if ok then .tuple #[z,.bool false] else z
section
variable {P:Program}{o:Oper}{a:Act}{g:Gh}{w:pM}{H:rX}{T:sG}(hT:wW P T) (hH:s5 g w H)
include hT hH
theorem rD.newMap {side:List Prop}{rds:pL}{base:Nat}{k v:Ty}(hf:g.J base=none) (hc:g.cur base=fun _=>none):
  rD g w H ⟨side,(.val .mp (some base),none),[(base,.map k v [])],rds⟩ (g.var base w.heap.size none) (w.alloc (.map #[] 0)) (.map (some w.heap.size)):=by
 have hJ:(g.var base w.heap.size none).J base=some ⟨w.heap.size,0,none⟩:=by simp [Gh.var]
 have le:Le g w (g.var base w.heap.size none) (w.alloc (.map #[] 0)):=⟨fun _ _ h=>h,fun b o h=>aS0 (a:=⟨b,o,none⟩) (aTc _ _ _ (hH.sl b o h)),fun i p h=>by
  show (if i=base then _ else _)=_;rw[aSD (fun e1=>by rw[e1,hf] at h;cases h)];exact h,fun _ _ _ h=>h⟩
 have fr:Fr (sI g H (q9 [(base,pV.map k v [])])) w (w.alloc (.map #[] 0)) g.S (g.var base w.heap.size none).S:=
  ⟨rfl,rfl,rfl,by simp,fun b hb _=>aTc _ _ _ hb,fun b o hb _=>⟨aS0 (a:=⟨b,o,none⟩) (aTc _ _ _ hb),aTq (a:=⟨b,o,none⟩) (aTc _ _ _ hb)⟩,fun b o h=> .inl h,fun b s h=> .inl ((BJ (aTc _ _ _ (BI h))).trans h)⟩
 have gho: ∀i,i∉q9 [(base,pV.map k v [])]->(g.var base w.heap.size none).J i=g.J i/\(g.var base w.heap.size none).cur i=g.cur i:=fun i hi=>⟨by
  show (if i=base then _ else _)=_;rw[aSD (fun e1=>hi (by simp [q9,e1]))],rfl⟩
 have get: ∀i blk,i∈q9 [(base,pV.map k v [])]->pY (qS [(base,pV.map k v [])] H) i=some blk->i=base/\blk= .map k v []:=by
  intro i blk hi hg;simp only[q9,aST] at hi;subst hi;simp only[qS,pY,aT5,aSC] at hg;exact⟨rfl,hg.symm⟩
 have perm: ∀i blk b o,i∈q9 [(base,pV.map k v [])]->pY (qS [(base,pV.map k v [])] H) i=some blk->rY (g.var base w.heap.size none) i blk b o->w.heap.size<=b\/sI g H (q9 [(base,pV.map k v [])]) b o:=by
  intro i blk b o hi hg ho;obtain⟨rfl,rfl⟩:=get i blk hi hg;obtain⟨p,hp,h1⟩:=ho;rw[hJ] at hp;obtain rfl:=aSG hp;exact .inl (aT4 h1.symm)
 refine⟨le,⟨.inr ⟨rfl,_,hJ,rfl⟩,trivial⟩,hH.upd le fr perm gho (fun i blk hi hg=>?_) (fun i j bi bj b o hi hj hij hgi hgj _ _=>hij ((get i bi hi hgi).1.trans (get j bj hj hgj).1.symm)) (fun b o h=>aTd (hH.sl b o h) pD),fr,perm,gho,fun i u' y us h=>by
  simp only[qS,pY] at h;split at h
  .cases h
  exact .inl ⟨y,us,h⟩⟩
 obtain⟨rfl,rfl⟩:=get i blk hi hg;refine⟨⟨w.heap.size,0,none⟩,#[],0,hJ,rfl,?_,rfl,fun o hs=>aUg _ (hH.sl _ _ hs)⟩;show (w.heap.push (.map #[] 0))[w.heap.size]? =_;rw[aUt]
theorem aJX {t:TypeId}{r:Option Operand}(ho:o.op= .makeMap t r) {base:Nat}{e:qI}(hr:ZR T base (rO T t) r=some e) (hf:xO g base e):r8 P o a g w H e:=by
 generalize hst:rO T t=ot at hr;unfold ZR at hr;split at hr
 .rename_i el fl ar ls_;unfold a9S at hr;split at hr
  .split at hr
   .cases hr;have hfr:=hf base (by simp [q9]) (aSW _);refine r8.value (v:= .map (some w.heap.size)) (w':=w.alloc (.map #[] 0)) ?_ (rD.newMap hT hH hfr.1 (funext hfr.2));unfold execOp;rw[ho];simp only[Instr.makeMap,aSO,run_newObj,aSJ,aS1,Option.map_none];rfl
   cases hr
  cases hr
 cases hr
theorem aJY {xt el fl:TypeId}{ok:Bool}{r:Nat}{es:Array MapEntry}{cl:Nat}{key z res:pN}{kd:TypeDesc}(hm:P.underlying xt=some (.map el fl)) (hb:w.heap[r]? =some (.map es cl)) (hkd:P.underlying el=some kd) (hsim: ∀ty,kd≠.interface ty) (hna: ∀n t,kd≠.array n t) (hns: ∀f,kd≠.struct f)
  {q:Option (Nat×pN)}(hq:Instr.findNow kd key es.toList 0=some q) (hz:(zeroValue fl).run P w= .ok z w)
  (hres:res=KP ok z q):(Instr.lookup xt (.map (some r)) key ok).run P w= .ok res w:=by
 have hck: ∀em,(Instr.checkKey em 10000 el key).run P w= .ok () w:=by
  intro em;unfold Instr.checkKey;simp only[aSO,aSX hkd,aSJ];cases kd<;>first|rfl|(exact absurd rfl (hsim _)) |(exact absurd rfl (hna _ _)) |(exact absurd rfl (hns _))
 have hfk:(Instr.findKey el key es.toList).run P w= .ok q w:=by
  unfold Instr.findKey;simp only[aSO,aSX hkd,aSJ,hq,aS1]
 subst hres;unfold Instr.lookup;simp only[aSO,aSX hm,aSJ,MapKept.run_getObj_map hb,aS1,hck,hfk];cases q with
 |none=>cases ok<;>simp [hz,aSO,aSJ,KP]
 |some q=>cases ok<;>simp [aSO,aSJ,KP]
theorem aJZ {xt el fl:TypeId}{ok:Bool}{key z:pN}{kd:TypeDesc}(hm:P.underlying xt=some (.map el fl)) (hkd:P.underlying el=some kd) (hsim: ∀ty,kd≠.interface ty) (hna: ∀n t,kd≠.array n t) (hns: ∀f,kd≠.struct f)
  (hz:(zeroValue fl).run P w= .ok z w):(Instr.lookup xt (.map none) key ok).run P w= .ok (KP ok z none) w:=by
 have hck: ∀em,(Instr.checkKey em 10000 el key).run P w= .ok () w:=by
  intro em;unfold Instr.checkKey;simp only[aSO,aSX hkd,aSJ];cases kd<;>first|rfl|(exact absurd rfl (hsim _)) |(exact absurd rfl (hna _ _)) |(exact absurd rfl (hns _))
 have hfk:(Instr.findKey el key ([]:List MapEntry)).run P w= .ok none w:=by
  unfold Instr.findKey;simp only[aSO,aSX hkd,aSJ,Instr.findNow,aS1]
 unfold Instr.lookup;simp only[aSO,aSX hm,aSJ,aS1,hck,hfk];cases ok<;>simp [hz,aSO,aSJ,KP,hfk]
theorem rD.updMap {side:List Prop}{rds:pL}{i:Nat}{k v:Ty}{l l':List (k.den×v.den)}{p:Pl}{es es':Array MapEntry}{cl cl':Nat}(hi:pY H i=some (.map k v l)) (hp:g.J i=some p) (hp0:p.2=0) (hb:w.heap[p.1]? =some (.map es cl)) (hS: ∀o,¬g.S p.1 o) (hM:DD g w k v l' es'.toList):
  rD g w H ⟨side,(.any,none),[(i,.map k v l')],rds⟩ g {w with heap:=w.heap.setIfInBounds p.1 (.map es' cl')} undef:=by
 have hlt:p.1<w.heap.size:=(aS6.1 hb).1;have hoth: ∀b,b≠p.1->(w.heap.setIfInBounds p.1 (.map es' cl'))[b]? =w.heap[b]? :=fun b hne=>by rw[aTN (Ne.symm hne)]
 have hown: ∀o,sI g H (q9 [(i,pV.map k v l')]) p.1 o:=fun o=>⟨i,_,by simp [q9],hi,p,hp,rfl⟩;have le:Le g w g {w with heap:=w.heap.setIfInBounds p.1 (.map es' cl')}:=⟨fun _ _ h=>h,fun b o h=>aS0 (a:=⟨b,o,none⟩) (hoth b (fun e=>hS o (e▸h))),fun _ _ h=>h,fun _ _ _ h=>h⟩
 have fr:Fr (sI g H (q9 [(i,pV.map k v l')])) w {w with heap:=w.heap.setIfInBounds p.1 (.map es' cl')} g.S g.S:=
  ⟨rfl,rfl,rfl,by simp,fun b _ hn=>hoth b (fun e=>hn 0 (e▸hown 0)),fun b o _ hn=>⟨aS0 (a:=⟨b,o,none⟩) (hoth b (fun e=>hn (e▸hown o))),aTq (a:=⟨b,o,none⟩) (hoth b (fun e=>hn (e▸hown o)))⟩,fun b o h=> .inl h,fun b s h=>(by
   by_cases e:b=p.1
   .exact .inr fun o=>e▸hown o
   exact .inl ((BJ (hoth b e)).trans h))⟩
 have get: ∀j blk,j∈q9 [(i,pV.map k v l')]->pY (qS [(i,pV.map k v l')] H) j=some blk->j=i/\blk= .map k v l':=by
  intro j blk hj hg;simp only[q9,aST] at hj;subst hj;simp only[qS,pY,aT5,aSC] at hg;exact⟨rfl,hg.symm⟩
 have perm: ∀j blk b o,j∈q9 [(i,pV.map k v l')]->pY (qS [(i,pV.map k v l')] H) j=some blk->rY g j blk b o->w.heap.size<=b\/sI g H (q9 [(i,pV.map k v l')]) b o:=by
  intro j blk b o hj hg ho;obtain⟨rfl,rfl⟩:=get j blk hj hg;obtain⟨q,hq,rfl⟩:=ho;rw[hp] at hq;obtain rfl:=aSG hq;exact .inr (hown o)
 refine⟨le,⟨trivial,trivial⟩,hH.upd le fr perm (fun _ _=>⟨rfl,rfl⟩) (fun j blk hj hg=>?_) (fun j j' bi bj b o hj hj' hij hgi hgj _ _=>hij ((get j bi hj hgi).1.trans (get j' bj hj' hgj).1.symm)) (fun b o h=>by simpa using hH.sl b o h),fr,perm,fun _ _=>⟨rfl,rfl⟩,fun j u' y us h=>by
  simp only[qS,pY] at h;split at h
  .cases h
  exact .inl ⟨y,us,h⟩⟩
 obtain⟨rfl,rfl⟩:=get j blk hj hg;exact⟨p,es',cl',hp,hp0,by simp [aUl,hlt],a0c le hM,hS⟩
theorem aAN {i:Nat}{k:pK}{v:pN}(h:rH g w (.val .mp (some i),k) v): ∃p,g.J i=some p/\v= .map (some p.1):=by
 obtain⟨p,h1,e⟩:=wX rfl h.1;simp only[aTk,and_true] at e;exact⟨p,h1,e⟩
theorem a0G {k:Ty}:(∀ty,A1 k≠.interface ty)/\(∀n t,A1 k≠.array n t)/\(∀f,A1 k≠.struct f):=by
 cases k<;>exact⟨fun _ h=>by simp [A1] at h,fun _ _ h=>by simp [A1] at h,fun _ h=>by simp [A1] at h⟩
theorem aJ0 {t:TypeId}{x y:Operand}{ok:Bool}(ho:o.op= .lookup t x y ok) {sx sy:pW}(hx:rH g w sx (a.eval x)) (hy:rH g w sy (a.eval y)) {e:qI}(hr:UD T H ok (rO T t) sx sy=some e):r8 P o a g w H e:=by
 generalize hst:rO T t=ot at hr;unfold UD at hr;split at hr
 .rename_i el fl ar ls_ i kk;generalize hk:rO T el=ok1 at hr;generalize hv:rO T fl=ok2 at hr;unfold ZS at hr;split at hr
  .rename_i kt vt k a' _;split at hr
   .rename_i hkt;unfold UC at hr;split at hr
    .rename_i k' v' l hb;split at hr
     .rename_i hkv;obtain⟨rfl,rfl⟩:=hkv;split at hr
      .rename_i hkey;obtain⟨p,es,cl,hp,hp0,hh,hM,hS⟩:=hH.blk i _ hb;obtain⟨p',hp',hxv⟩:=aAN hT hH hx;rw[hp] at hp';obtain rfl:=aSG hp';have hm:=(sP hT hst).2;simp only[wV] at hm;have hkd:=a0E (sP hT hk) (hkt▸hkey);obtain⟨iv,hi1,hi2,hi3⟩:=DF (sP hT hv);have hz:(zeroValue fl).run P w= .ok (xN vt.ty) w:=by
        simp only[zeroValue,typeInfo,aSO,aTz,hi1,hi3,aSJ,aS1]
       obtain⟨f1,f2⟩:=a0F (v:=vt.ty) hkey hy.1 0 hM;rw[<-hkt] at hkd;obtain⟨p1,p2,p3⟩:=a0G hT hH (k:=k);have go: ∀{q res},Instr.findNow (A1 k) (a.eval y) es.toList 0=some q->res=KP ok (xN vt.ty) q->(execOp a.eval o).run P w= .ok (.value res) w:=by
        intro q res h1 h2;unfold execOp;rw[ho];simp only[hxv,aSO,aJY hT hH hm hh hkd p1 p2 p3 h1 hz h2,aSJ,aS1]
       cases hmh:ER k vt.ty l a' with
       |false=>
        obtain⟨g1,g2,_⟩:=f1 hmh;cases ok with
        |true=>
         cases hr;refine r8.pure hH (v:= .tuple #[xN vt.ty,.bool false]) (go g1 rfl) ?_;simp only[ML,hmh,g2];exact⟨[_,_],rfl,_,[_],rfl,KL g w _,trivial,_,[],rfl,vC g w false,trivial,rfl⟩
        |false=>
         cases hr;refine r8.pure hH (v:=xN vt.ty) (go g1 rfl) ?_;simp only[ML,g2];exact KL g w _
       |true=>
        obtain⟨j,e',g1,g2,g3,g4,g5⟩:=f2 hmh;cases ok with
        |true=>
         cases hr;refine r8.pure hH (v:= .tuple #[e'.val,.bool true]) (go g2 rfl) ?_;simp only[ML,hmh];exact⟨[_,_],rfl,_,[_],rfl,g3,trivial,_,[],rfl,vC g w true,trivial,rfl⟩
        |false=>
         cases hr;refine r8.pure hH (v:=e'.val) (go g2 rfl) ?_;simp only[ML];exact g3
      cases hr
     cases hr
    cases hr
   cases hr
  cases hr
 .rename_i el fl ar ls_ kk;generalize hk:rO T el=ok1 at hr;generalize hv:rO T fl=ok2 at hr;unfold a9T at hr;split at hr
  .rename_i kt vt k a' _;split at hr
   .rename_i hkt;split at hr
    .rename_i hkey;have hxv:a.eval x= .map none:=by
      have e1:=wX rfl hx.1;simpa[Rd,KG] using e1
     have hm:=(sP hT hst).2;simp only[wV] at hm;have hkd:=a0E (sP hT hk) (hkt▸hkey);obtain⟨iv,hi1,hi2,hi3⟩:=DF (sP hT hv);have hz:(zeroValue fl).run P w= .ok (xN vt.ty) w:=by
      simp only[zeroValue,typeInfo,aSO,aTz,hi1,hi3,aSJ,aS1]
     rw[<-hkt] at hkd;obtain⟨p1,p2,p3⟩:=a0G hT hH (k:=k);have go:(execOp a.eval o).run P w= .ok (.value (KP ok (xN vt.ty) none)) w:=by
      unfold execOp;rw[ho];simp only[hxv,aSO,aJZ hT hH hm hkd p1 p2 p3 hz,aSJ,aS1]
     cases ok with
     |true=>
      cases hr;exact r8.pure hH (v:= .tuple #[xN vt.ty,.bool false]) go ⟨[_,_],rfl,_,[_],rfl,KL g w _,trivial,_,[],rfl,vC g w false,trivial,rfl⟩
     |false=>
      cases hr;exact r8.pure hH (v:=xN vt.ty) go (KL g w _)
    cases hr
   cases hr
  cases hr
 cases hr
theorem aJ1 {g:Gh}{w:pM}{k:Ty}(hk:DC k=true) {x:k.den}{v:pN}(h:sW g w k x v) (n:Nat):Instr.sameBits n v v=true:=by
 cases k with
 |int k=>rw[wC h];cases n<;>simp [Instr.sameBits]
 |str=>rw[wY h];cases n<;>simp [Instr.sameBits,MapKept.bytes_beq]
 |bool=>rw[vB h];cases n<;>simp [Instr.sameBits]
 |_=>simp [DC] at hk
omit hT hH in
theorem aAO {T:sG}{ti:Option TI}{s:pW}{v:pN}(h:rH g w s v):rH g w (UF T ti s) v:=by
 unfold UF;split
 .unfold a9U;split
  .rename_i f x _;refine⟨.inr ⟨rfl,?_⟩,trivial⟩;rcases h.1 with⟨h1,_⟩ |⟨h1,vs,h2,h3⟩
   .cases h1
   rw[show vs=[] from h2] at h3;exact h3
  exact h
 exact h
theorem aAP {t:TypeId}{m x y:Operand}(ho:o.op= .mapUpdate t m x y\/o.op= .insert t m x y) {sm sx sy:pW}(hm:rH g w sm (a.eval m)) (hx:rH g w sx (a.eval x)) (hy:rH g w sy (a.eval y)) {e:qI}(hr:N0 T H (rO T t) sm sx sy=some e):r8 P o a g w H e:=by
 generalize hst:rO T t=ot at hr;unfold N0 at hr;split at hr
 .rename_i el fl ar ls_ i kk;generalize hk:rO T el=ok1 at hr;unfold UE at hr;split at hr
  .rename_i kt k a' _ u b _;split at hr
   .rename_i hkt;unfold MZ at hr;split at hr
    .rename_i k' v' l hb;split at hr
     .rename_i hkv;obtain⟨rfl,rfl⟩:=hkv;split at hr
      .rename_i hkey;cases hr;obtain⟨p,es,cl,hp,hp0,hh,hM,hS⟩:=hH.blk i _ hb;obtain⟨p',hp',hxv⟩:=aAN hT hH hm;rw[hp] at hp';obtain rfl:=aSG hp';have hmt:=(sP hT hst).2;simp only[wV] at hmt;have hkd:=a0E (sP hT hk) (hkt▸hkey);rw[<-hkt] at hkd;obtain⟨p1,p2,p3⟩:=a0G hT hH (k:=k);have hck:(Instr.checkKey false 10000 el (a.eval x)).run P w= .ok () w:=by
        unfold Instr.checkKey;simp only[aSO,aSX hkd,aSJ];generalize A1 k=kd at p1 p2 p3;cases kd<;>first|rfl|(exact absurd rfl (p1 _)) |(exact absurd rfl (p2 _ _)) |(exact absurd rfl (p3 _))
       have hfk: ∀{q},Instr.findNow (A1 k) (a.eval x) es.toList 0=some q->(Instr.findKey el (a.eval x) es.toList).run P w= .ok q w:=by
        intro q hq;unfold Instr.findKey;simp only[aSO,aSX hkd,aSJ,hq,aS1]
       obtain⟨f1,f2⟩:=a0F (v:=u) hkey hx.1 0 hM;cases hmh:ER k u l a' with
       |false=>
        obtain⟨g1,_,g3⟩:=f1 hmh;refine r8.skip (w':={w with heap:=w.heap.setIfInBounds p.1 (.map (es.push ⟨a.eval x,a.eval y,cl⟩) (cl+1))}) ?_ (rD.updMap hT hH hb hp hp0 hh hS ?_)
        .unfold execOp;rcases ho with ho|ho<;>rw[ho]<;>
          simp only[Instr.mapUpdate,hxv,aSO,aSX hmt,aSJ,MapKept.run_getObj_map hh,hck,hfk g1,MapKept.run_setObj_map _ hh,aS1]
        .simp only[ML,Array.toList_push];exact g3 b _ _ hy.1
       |true=>
        obtain⟨j,e',g1,g2,g3,g4,g5⟩:=f2 hmh;rw[aTa] at g2;refine r8.skip (w':={w with heap:=w.heap.setIfInBounds p.1 (.map (es.modify j fun e=>{e with key:=a.eval x,val:=a.eval y}) cl)}) ?_ (rD.updMap hT hH hb hp hp0 hh hS ?_)
        .have hj:es[j]? =some e':=by rw[<-aTE];exact g1
         unfold execOp;rcases ho with ho|ho<;>rw[ho]<;>
          simp only[Instr.mapUpdate,hxv,aSO,aSX hmt,aSJ,MapKept.run_getObj_map hh,hck,hfk g2,hj,Option.map_some,aT1,g4,Instr.keyThatStays,aJ1 hT hH hkey hx.1,aT5,MapKept.run_setObj_map _ hh,aS1]
        simp only[ML,Array.toList_modify];exact g5 b _ hy.1
      cases hr
     cases hr
    cases hr
   cases hr
  cases hr
 cases hr
end
theorem aAQ {P:Program}{w:pM}{r:Nat}{s:ByteArray}{n:Nat}(hb:w.heap[r]? =some (.stringIter s n)):(getObj r).run P w= .ok (.stringIter s n) w:=by
 simp [getObj,Sem.run,hb]
theorem aJ2 {P:Program}{w:pM}{r:Nat}{s:ByteArray}{n:Nat}(o:Obj) (hb:w.heap[r]? =some (.stringIter s n)):(setObj r o).run P w= .ok () {w with heap:=w.heap.setIfInBounds r o}:=by
 simp [setObj,Sem.run,hb]
section
variable {P:Program}{o:Oper}{a:Act}{g:Gh}{w:pM}{H:rX}{T:sG}(hT:wW P T) (hH:s5 g w H)
include hT hH
theorem rD.newIter {side:List Prop}{rds:pL}{base:Nat}{s:p7}(hf:g.J base=none) (hc:g.cur base=fun _=>none):
  rD g w H ⟨side,(.val .ref (some (base,0)),none),[(base,.iter s 0)],rds⟩ (g.var base w.heap.size none) (w.alloc (.stringIter ⟨s.toArray⟩ 0)) (.pointer (some ⟨w.heap.size,0,none⟩)):=by
 have hJ:(g.var base w.heap.size none).J base=some ⟨w.heap.size,0,none⟩:=by simp [Gh.var]
 have le:Le g w (g.var base w.heap.size none) (w.alloc (.stringIter ⟨s.toArray⟩ 0)):=⟨fun _ _ h=>h,fun b o h=>aS0 (a:=⟨b,o,none⟩) (aTc _ _ _ (hH.sl b o h)),fun i p h=>by
  show (if i=base then _ else _)=_;rw[aSD (fun e1=>by rw[e1,hf] at h;cases h)];exact h,fun _ _ _ h=>h⟩
 have fr:Fr (sI g H (q9 [(base,pV.iter s 0)])) w (w.alloc (.stringIter ⟨s.toArray⟩ 0)) g.S (g.var base w.heap.size none).S:=
  ⟨rfl,rfl,rfl,by simp,fun b hb _=>aTc _ _ _ hb,fun b o hb _=>⟨aS0 (a:=⟨b,o,none⟩) (aTc _ _ _ hb),aTq (a:=⟨b,o,none⟩) (aTc _ _ _ hb)⟩,fun b o h=> .inl h,fun b s h=> .inl ((BJ (aTc _ _ _ (BI h))).trans h)⟩
 have gho: ∀i,i∉q9 [(base,pV.iter s 0)]->(g.var base w.heap.size none).J i=g.J i/\(g.var base w.heap.size none).cur i=g.cur i:=fun i hi=>⟨by
  show (if i=base then _ else _)=_;rw[aSD (fun e1=>hi (by simp [q9,e1]))],rfl⟩
 have get: ∀i blk,i∈q9 [(base,pV.iter s 0)]->pY (qS [(base,pV.iter s 0)] H) i=some blk->i=base/\blk= .iter s 0:=by
  intro i blk hi hg;simp only[q9,aST] at hi;subst hi;simp only[qS,pY,aT5,aSC] at hg;exact⟨rfl,hg.symm⟩
 have perm: ∀i blk b o,i∈q9 [(base,pV.iter s 0)]->pY (qS [(base,pV.iter s 0)] H) i=some blk->rY (g.var base w.heap.size none) i blk b o->w.heap.size<=b\/sI g H (q9 [(base,pV.iter s 0)]) b o:=by
  intro i blk b o hi hg ho;obtain⟨rfl,rfl⟩:=get i blk hi hg;obtain⟨p,hp,h1⟩:=ho;rw[hJ] at hp;obtain rfl:=aSG hp;exact .inl (aT4 h1.symm)
 refine⟨le,⟨.inr ⟨rfl,_,hJ,rfl⟩,trivial⟩,hH.upd le fr perm gho (fun i blk hi hg=>?_) (fun i j bi bj b o hi hj hij hgi hgj _ _=>hij ((get i bi hi hgi).1.trans (get j bj hj hgj).1.symm)) (fun b o h=>aTd (hH.sl b o h) pD),fr,perm,gho,fun i u' y us h=>by
  simp only[qS,pY] at h;split at h
  .cases h
  exact .inl ⟨y,us,h⟩⟩
 obtain⟨rfl,rfl⟩:=get i blk hi hg;refine⟨⟨w.heap.size,0,none⟩,hJ,rfl,?_,fun o hs=>aUg _ (hH.sl _ _ hs)⟩;show (w.heap.push (.stringIter ⟨s.toArray⟩ 0))[w.heap.size]? =_;rw[aUt]
theorem rD.updIter {side:List Prop}{rds:pL}{i:Nat}{s:p7}{n n':Nat}{d:pW}{val:pN}{p:Pl}(hi:pY H i=some (.iter s n)) (hp:g.J i=some p) (hp0:p.2=0) (hb:w.heap[p.1]? =some (.stringIter ⟨s.toArray⟩ n)) (hS: ∀o,¬g.S p.1 o) (hd:rH g {w with heap:=w.heap.setIfInBounds p.1 (.stringIter ⟨s.toArray⟩ n')} d val):
  rD g w H ⟨side,d,[(i,.iter s n')],rds⟩ g {w with heap:=w.heap.setIfInBounds p.1 (.stringIter ⟨s.toArray⟩ n')} val:=by
 have hlt:p.1<w.heap.size:=(aS6.1 hb).1;have hoth: ∀b,b≠p.1->(w.heap.setIfInBounds p.1 (.stringIter ⟨s.toArray⟩ n'))[b]? =w.heap[b]? :=fun b hne=>by rw[aTN (Ne.symm hne)]
 have hown: ∀o,sI g H (q9 [(i,pV.iter s n')]) p.1 o:=fun o=>⟨i,_,by simp [q9],hi,p,hp,rfl⟩;have le:Le g w g {w with heap:=w.heap.setIfInBounds p.1 (.stringIter ⟨s.toArray⟩ n')}:=⟨fun _ _ h=>h,fun b o h=>aS0 (a:=⟨b,o,none⟩) (hoth b (fun e=>hS o (e▸h))),fun _ _ h=>h,fun _ _ _ h=>h⟩
 have fr:Fr (sI g H (q9 [(i,pV.iter s n')])) w {w with heap:=w.heap.setIfInBounds p.1 (.stringIter ⟨s.toArray⟩ n')} g.S g.S:=
  ⟨rfl,rfl,rfl,by simp,fun b _ hn=>hoth b (fun e=>hn 0 (e▸hown 0)),fun b o _ hn=>⟨aS0 (a:=⟨b,o,none⟩) (hoth b (fun e=>hn (e▸hown o))),aTq (a:=⟨b,o,none⟩) (hoth b (fun e=>hn (e▸hown o)))⟩,fun b o h=> .inl h,fun b s h=>(by
   by_cases e:b=p.1
   .exact .inr fun o=>e▸hown o
   exact .inl ((BJ (hoth b e)).trans h))⟩
 have get: ∀j blk,j∈q9 [(i,pV.iter s n')]->pY (qS [(i,pV.iter s n')] H) j=some blk->j=i/\blk= .iter s n':=by
  intro j blk hj hg;simp only[q9,aST] at hj;subst hj;simp only[qS,pY,aT5,aSC] at hg;exact⟨rfl,hg.symm⟩
 have perm: ∀j blk b o,j∈q9 [(i,pV.iter s n')]->pY (qS [(i,pV.iter s n')] H) j=some blk->rY g j blk b o->w.heap.size<=b\/sI g H (q9 [(i,pV.iter s n')]) b o:=by
  intro j blk b o hj hg ho;obtain⟨rfl,rfl⟩:=get j blk hj hg;obtain⟨q,hq,rfl⟩:=ho;rw[hp] at hq;obtain rfl:=aSG hq;exact .inr (hown o)
 refine⟨le,hd,hH.upd le fr perm (fun _ _=>⟨rfl,rfl⟩) (fun j blk hj hg=>?_) (fun j j' bi bj b o hj hj' hij hgi hgj _ _=>hij ((get j bi hj hgi).1.trans (get j' bj hj' hgj).1.symm)) (fun b o h=>by simpa using hH.sl b o h),fr,perm,fun _ _=>⟨rfl,rfl⟩,fun j u' y us h=>by
  simp only[qS,pY] at h;split at h
  .cases h
  exact .inl ⟨y,us,h⟩⟩
 obtain⟨rfl,rfl⟩:=get j blk hj hg;exact⟨p,hp,hp0,by simp [aUl,hlt],hS⟩
theorem aJ3 {t:TypeId}{x:Operand}(ho:o.op= .range t x) {sx:pW}(hx:rH g w sx (a.eval x)) {base:Nat}{e:qI}(hr:ZU base (rO T t) sx=some e) (hf:xO g base e):r8 P o a g w H e:=by
 generalize hst:rO T t=ot at hr;unfold ZU at hr;split at hr
 .rename_i el b ar ls s k;cases hr;have hfr:=hf base (by simp [q9]) (aSW _);have hv:=wY hx.1;have hu:=(sP hT hst).2;simp only[wV] at hu;refine r8.value (v:= .pointer (some ⟨w.heap.size,0,none⟩)) (w':=w.alloc (.stringIter ⟨s.toArray⟩ 0)) ?_ (rD.newIter hT hH hfr.1 (funext hfr.2));unfold execOp;rw[ho];simp only[Instr.range,hv,aSO,aSX hu,run_newObj,aSJ,aS1];rfl
 cases hr
theorem aJ4 {x:Operand}{b:Bool}(ho:o.op= .next x b) {sx:pW}(hx:rH g w sx (a.eval x)) {e:qI}(hr:UG H b sx=some e):r8 P o a g w H e:=by
 unfold UG at hr;split at hr
 .rename_i i k;unfold ZV at hr;split at hr
  .rename_i s n hb;cases hr;obtain⟨p,hp,hp0,hh,hS⟩:=hH.blk i _ hb;obtain⟨q,hq,hv⟩:=wZ hx.1;rw[hp] at hq;obtain rfl:=aSG hq;rw[hp0] at hv;by_cases hl:n<s.length
   .have hsz:n<(⟨s.toArray⟩:ByteArray).size:=by simpa[ByteArray.size] using hl
    refine r8.value (v:= .tuple #[.bool true,.int .i64 (n:Int),.int .i32 (wS s n)]) (w':={w with heap:=w.heap.setIfInBounds p.1 (.stringIter ⟨s.toArray⟩ (AK s n))}) ?_ (rD.updIter hT hH hb hp hp0 hh hS ⟨⟨fun _=>rfl,fun h=>absurd hl (of_decide_eq_false h)⟩,trivial⟩)
    unfold execOp;rw[ho];have hrn:AK s n=n+(Utf8.decode ⟨s.toArray⟩ n).2:=by unfold AK ZT;rw[aSB hl]
    simp only[Instr.next,hv,aSO,aAQ hh,aSJ,hsz,aT5,aJ2 _ hh,aS1,hrn];rfl
   have hsz: ¬n<(⟨s.toArray⟩:ByteArray).size:=by simpa[ByteArray.size] using hl
   have hrn:AK s n=n:=by unfold AK;rw[aSD hl]
   have hw:({w with heap:=w.heap.setIfInBounds p.1 (.stringIter ⟨s.toArray⟩ (AK s n))}:pM)=w:=by
    rw[hrn];have:w.heap.setIfInBounds p.1 (.stringIter ⟨s.toArray⟩ n)=w.heap:=by
     obtain⟨h1,h2⟩:=aS6.1 hh;apply Array.ext_getElem?;intro j;rw[aUl];split
     .rename_i hj;subst hj;first|rw[hh] |rw[aSB h1,hh]
     rfl
    rw[this]
   refine r8.value (v:= .tuple #[.bool false]) (w':={w with heap:=w.heap.setIfInBounds p.1 (.stringIter ⟨s.toArray⟩ (AK s n))}) ?_ (rD.updIter hT hH hb hp hp0 hh hS ⟨⟨fun h=>absurd (aTn h) hl,fun _=>rfl⟩,trivial⟩)
   rw[hw];unfold execOp;rw[ho];simp only[Instr.next,hv,aSO,aAQ hh,aSJ,hsz,aUy,aS1]
  cases hr
 cases hr
end
def qP:Nat->List pV->rX
 |_,[]=>[]
 |c,b::L=>(c,b)::qP (c+1) L
theorem V6: ∀(L:List pV) (c i:Nat),pY (qP c L) i=if c<=i then L[i-c]? else none
 |[],c,i=>by simp [qP,pY]
 |b::L,c,i=>by
  simp only[qP,pY];by_cases h:c=i
  .subst h;simp
  rw[aSD h,V6 L (c+1) i];by_cases h2:c<=i
  .rw[aSB h2,aSB pB];obtain⟨d,hd⟩: ∃d,i-c=d+1:=⟨i-c-1,pB⟩;rw[hd,aTp];congr 1;omega
  rw[aSD h2,aSD pB]
theorem x6 (L:List pV) (i:Nat):pY (qP 0 L) i=L[i]? :=by rw[V6];simp
def y8 (g:Gh) (H:rX) (b o:Nat):Prop:= ∃i blk,pY H i=some blk/\rY g i blk b o
def vD (g:Gh) (w:pM):List pW->pI->Prop
 |[],vs=>vs=[]
 |s::ss,vs=> ∃v vs',vs=v::vs'/\rH g w s v/\vD g w ss vs'
def Q9 (g:Gh) (w:pM):List pW->pN->Prop
 |[s],v=>rH g w s v
 |l,v=> ∃vs:pI,v= .tuple vs.toArray/\vD g w l vs
structure EV (g:Gh) (w:pM) (L:List pV) (r:qH) (g':Gh) (w':pM) (v:pN):Prop where
 shut: ∀b o,g.S b o->g'.S b o/\w'.cell? ⟨b,o,none⟩=w.cell? ⟨b,o,none⟩
 heap:s5 g' w' (qP 0 r.H)
 ret:Q9 g' w' r.ret v
 fr:Fr (y8 g (qP 0 L)) w w' g.S g'.S
 perm: ∀i blk b o,r.H[i]? =some blk->rY g' i blk b o->w.heap.size<=b\/y8 g (qP 0 L) b o
 J: ∀(i:Nat) t x ts,L[i]? =some (.cells t x ts)->g'.J i=g.J i
 ty: ∀(i:Nat) t x ts u y us,L[i]? =some (.cells t x ts)->r.H[i]? =some (.cells u y us)->u=t
 Jt: ∀i p,i<L.length->g.J i=some p->g'.J i=some p
 cur: ∀i n u,i<L.length->g.cur i n=some u->g'.cur i n=some u
def yJ (P:Program) (f:FuncId) (C:List pW->List pV->Option qH):Prop:=
 (∀args w,(callFunc f args).run P w= .ok (.enter f args) w)/\
 ∀(g:Gh) (w:pM) (args:List pW) (vals:pI) (L:List pV) (r:qH),s5 g w (qP 0 L)->vD g w args vals->C args L=some r->(∀p∈r.side,p)->
  Calls P f vals.toArray w (fun e w'=> ∃v g',e= .returned v/\EV g w L r g' w' v)
def V7 (P:Program) (f:FuncId) (F:(t:Ty)->List t.den->Option (List t.den)):Prop:=
 ∀(g:Gh) (w:pM) (e:TypeId) (t:Ty) (l l':List t.den) (v:pN) (n:Nat) (xs:pI),EH w->w.ownsRow 0 e t.cells v n xs->tU (Rd g w t) t.cells l xs->l.length=n->n<4611686018427387904->F t l=some l'->
  Calls P f #[v] w (fun en w'=>en= .returned (.tuple #[])/\l'.length=n/\∃xs',w'.ownsRow 0 e t.cells v n xs'/\tU (Rd g w t) t.cells l' xs'/\w.grownBy w' v.ownBlock)
def DG (P:Program) (Γ:sV):Prop:= ∀f s,f<1000000000->Γ f=some s->yJ P f s.C/\∀F,s.row=some F->V7 P f F
theorem aAR {g:Gh}{w:pM}{t:Ty}{x:t.den}{v:pN}{k:pK}(h:rH g w (.val t x,k) v):rH g w (.val t x,EI t k) v:=by
 refine⟨h.1,?_⟩;cases t with
 |list u=>exact h.2
 |_=>trivial
theorem aJ5 {t:Ty}{k:pK}: ∀c,EI t k=some c->∃u,t= .list u:=by
 cases t with
 |list u=>exact fun _ _=>⟨u,rfl⟩
 |_=>intro c h;cases h
theorem V8 {g g':Gh}{w:pM}(hS:g'.S=g.S) {t:Ty}(hp:t.pure=true) {x:t.den}{v:pN}{k k':pK}(hl: ∀c,k=some c->∃u,t= .list u) (h:rH g w (.val t x,k) v) (hk: ∀c,k=some c->∃c',k'=some c'/\∀n u,g.cur c n=some u->g'.cur c' n=some u) (hk0:k=none->k'=none):rH g' w (.val t x,k') v:=by
 have hv:sW g' w t x v:=h.1.imp (fun⟨a,cs,e,q⟩=>⟨a,cs,e,vT hS hp q⟩) (fun⟨a,q⟩=>⟨a,vT hS hp q⟩);refine⟨hv,?_⟩;cases k with
 |none=>rw[hk0 rfl];trivial
 |some c=>
  obtain⟨c',rfl,h2⟩:=hk c rfl;have h1:=h.2;cases t with
  |list u=>exact h2 _ _ h1
  |pair a b=>obtain⟨u,e⟩:=hl c rfl;cases e
  |_=>exact h1.elim
section
variable {P:Program}{o:Oper}{a:Act}{g:Gh}{w:pM}{H:rX}{T:sG}{Γ:sV}(hT:wW P T) (hΓ:DG P Γ) (hH:s5 g w H)
include hT hΓ hH
theorem a0H {ti:Option TI}{s:pW}{v:pN}(h:rH g w s v):rH g w (MM ti s) v:=by
 unfold MM;split
 .have:v= .slice none 0 0:=h.1;subst this;exact⟨.inr ⟨rfl,none,0,rfl,aSW _,.inl rfl⟩,trivial⟩
 .have e:v= .nilFunc:=by
   have:=wX rfl h.1;simpa[Rd,HW] using this
  subst e;exact⟨.inr ⟨rfl,.inl ⟨rfl,rfl⟩⟩,trivial⟩
 exact h
theorem V9 {ρ:Operand->pW}: ∀{xs:List Operand}{ts:List TypeId},xs.length=ts.length->(∀x∈xs,rH g w (ρ x) (a.eval x))->vD g w (BF T ρ xs ts) (xs.map a.eval)
 |[],[],_,_=>rfl
 |x::xs,t::ts,h,hx=>⟨_,_,rfl,a0H hT hΓ hH (hx x pD),V9 (by simpa using h) (fun y hy=>hx y (by simp [hy]))⟩
theorem aJ6 {l m:List pW}{vs us:pI}(h:vD g w l vs) (k:vD g w m us):vD g w (l++m) (vs++us):=by
 induction l generalizing vs with
 |nil=>rw[show vs=[] from h];exact k
 |cons s l ih=>
  obtain⟨v,vs',rfl,h1,h2⟩:=h;exact⟨v,_,rfl,h1,ih h2⟩
theorem aAS: ∀{caps:pG}{vs:pI},y7 g caps vs->vD g w (ZH caps) vs
 |[],_,h=>h
 |(i,o)::caps,_,⟨p,vs',h1,h2,h3⟩=>⟨_,_,h2,⟨.inr ⟨rfl,p,h1,rfl⟩,trivial⟩,aAS h3⟩
end
theorem VA {P:Program}{o:Oper}{a:Act}{f:FuncId}{fop:Operand}{args:Array Operand}{tys:Array TypeId}(ho:o.op= .call ⟨.value fop,args,tys⟩) {caps:pI}(hf:a.eval fop= .func (.func f) #[] caps.toArray)
  (hen: ∀args w,(callFunc f args).run P w= .ok (.enter f args) w) {w:pM}{K:Act->pM->Prop}{Q:Exit->Act->pM->Prop}
  (h:Calls P f ((args.toList.map a.eval)++caps).toArray w (fun e w'=> ∃v,e= .returned v/\K (a.put o.dst v) w')):o.wp P a w K Q:=by
 unfold Oper.wp;have:(execOp a.eval o).run P w= .ok (.enter f ((args.toList.map a.eval)++caps).toArray) w:=by
  unfold execOp;rw[ho];simp only[resolve,hf,Deferred.ofValue,aSO,aS1,aSJ,invoke];rw[hen];congr 2;apply aTF.1;simp
 rw[this];unfold Oper.upon;refine h.mono fun e w' ⟨v,he,hk⟩=>?_;subst he;exact hk
def uR (g:Gh):Option rJ->Option Pl
 |some (.box i _ _ _ o)=>(g.J i).map fun p=>⟨p.1,p.2+o,p.3⟩
 |some (.tok k)=>g.J k
 |none=>none
def zL (g:Gh):Option rJ->Nat->Option pN
 |some (.tok k),n=>g.cur k n
 |_,_=>none
def uS (g:Gh) (ws:List rJ):Gh:=⟨g.S,fun c=>uR g ws[c]?,fun c n=>zL g ws[c]? n⟩
def VB (H:rX) (ws:List rJ):rJ->pV->Prop
 | .box i u x toks o,.cells t y ts=>pY H i=some (.cells u x toks)/\qT t u x o=some y/\∀q n,(q,n)∈ts->∃k,ws[n]? =some (.tok k)/\wR toks (o+q)=some k/\q<t.cells
 | .tok k,.grow e c m=>pY H k=some (.grow e c m)
 | .tok k,.map s t l=>pY H k=some (.map s t l)/\s.pure=true/\t.pure=true
 | .tok k,.row e t l n=>pY H k=some (.row e t l n)/\t.pure=true
 |_,_=>False
structure G2 (H:rX) (ws:List rJ) (L:List pV):Prop where
 len:ws.length=L.length
 ok: ∀(c:Nat) wh b,ws[c]? =some wh->L[c]? =some b->VB H ws wh b
 nodup:(s7 ws).Nodup
def a0I (ws:List rJ) (t:Ty) (x y:t.den):Prop:=(t.pure=true/\y=x)\/C1 ws t x=some y
def VC (H:rX) (ws:List rJ):rJ->pV->Prop
 | .box i u x toks o,.cells t y ts=>pY H i=some (.cells u x toks)/\(∃y0,qT t u x o=some y0/\a0I ws t y0 y)/\∀q n,(q,n)∈ts->∃k,ws[n]? =some (.tok k)/\wR toks (o+q)=some k/\q<t.cells
 | .tok k,.grow e c m=>pY H k=some (.grow e c m)
 | .tok k,.map s t l=>pY H k=some (.map s t l)/\s.pure=true/\t.pure=true
 | .tok k,.row e t l n=>pY H k=some (.row e t l n)/\t.pure=true
 |_,_=>False
def N8 {i o:Nat}: ∀{ws:List rJ}{c0:Nat}{c q:Nat},CT i o ws c0=some (c,q)->∃d u x toks oc,c=c0+d/\ws[d]? =some (.box i u x toks oc)/\o=oc+q
 |[],_,_,_,h=>by simp [CT] at h
 | .box j u x toks oc::r,c0,c,q,h=>by
  simp only[CT] at h;split at h
  .rename_i hc;simp only[aSC,aS7] at h;obtain⟨rfl,rfl⟩:=h;obtain⟨rfl,h2⟩:=hc;exact⟨0,u,x,toks,oc,rfl,rfl,pB⟩
  .obtain⟨d,u',x',toks',oc',h1,h2,h3⟩:=N8 h;exact⟨d+1,u',x',toks',oc',pB,by simpa using h2,h3⟩
 | .tok k::r,c0,c,q,h=>by
  simp only[CT] at h;obtain⟨d,u',x',toks',oc',h1,h2,h3⟩:=N8 h;exact⟨d+1,u',x',toks',oc',pB,by simpa using h2,h3⟩
def I2 {i:Nat}: ∀{ws:List rJ}{c0 c:Nat},vR i ws c0=some c->∃d,c=c0+d/\ws[d]? =some (.tok i)
 |[],_,_,h=>by simp [vR] at h
 | .tok j::r,c0,c,h=>by
  simp only[vR] at h;split at h
  .rename_i hc;simp only[aSC] at h;subst h;subst hc;exact⟨0,rfl,rfl⟩
  .obtain⟨d,h1,h2⟩:=I2 h;exact⟨d+1,pB,by simpa using h2⟩
 | .box _ _ _ _ _::r,c0,c,h=>by
  simp only[vR] at h;obtain⟨d,h1,h2⟩:=I2 h;exact⟨d+1,pB,by simpa using h2⟩
def a0J {α β:Type}{a:Option α}{b:Option β}{p:α×β}(h:EK a b=some p):a=some p.1/\b=some p.2:=by
 cases a<;>cases b<;>simp [EK] at h
 subst h;exact⟨rfl,rfl⟩
def aJ7 {x y:Option (Nat×pG)}(h:P8 x=some y):y=x/\∀f l,x=some (f,l)->l=[]:=by
 unfold P8 at h;split at h
 .cases h;exact⟨rfl,fun _ _ h=>by cases h⟩
 .cases h;exact⟨rfl,fun _ _ h=>by cases h;rfl⟩
 cases h
def aJ8 {g g':Gh}{x:Option (Nat×pG)}{cs:pI}(hx: ∀f l,x=some (f,l)->l=[]) (h:HW g x cs):HW g' x cs:=by
 cases x with
 |none=>exact h
 |some q=>
  obtain⟨f,l⟩:=q;obtain rfl:=hx f l rfl;exact h
def VD {g g':Gh}{w:pM}(hS:g'.S=g.S) (f:(t:Ty)->t.den->Option t.den)
  (hp: ∀a b x,f (.pair a b) x=EK (if a.pure=true then some x.1 else f a x.1) (if b.pure=true then some x.2 else f b x.2))
  (hl: ∀t x,f (.list t) x=if t.pure=true then some x else none) (hb: ∀x,f .bool x=some x) (hi: ∀k x,f (.int k) x=some x) (hs: ∀x,f .str x=some x) (hu: ∀x,f .unit x=some x) (hfn: ∀x,f .fn x=some x) (hrl: ∀e t x y cs,f (.rl e t) x=some y->BG g x cs->BG g' y cs) (hmr: ∀x y cs,f .mref x=some y->PZ g x cs->PZ g' y cs) (hap: ∀x y cs,f .ap x=some y->ES g w x cs->ES g' w y cs)
  (hr: ∀x y cs,f .ref x=some y->PY g x cs->PY g' y cs) (hm: ∀x y cs,f .mp x=some y->KG g x cs->KG g' y cs) (hc: ∀x,f .clo x=P8 x):
  ∀{t:Ty}{x y:t.den}{cs:pI},Rd g w t x cs->f t x=some y->Rd g' w t y cs
 | .bool,_,_,_,r,h=>by rw[hb] at h;cases h;exact r
 | .int _,_,_,_,r,h=>by rw[hi] at h;cases h;exact r
 | .str,_,_,_,r,h=>by rw[hs] at h;cases h;exact r
 | .unit,_,_,_,r,h=>by rw[hu] at h;cases h;exact r
 | .rl e t,x,y,_,r,h=>hrl e t x y _ h r
 | .fn,_,_,_,r,h=>by rw[hfn] at h;cases h;exact r
 | .mref,x,y,_,r,h=>hmr x y _ h r
 | .ap,x,y,_,r,h=>hap x y _ h r
 | .list t,x,y,_,r,h=>by
  rw[hl] at h;split at h
  .rename_i hpu;cases h;exact vT hS (t:= .list t) (by simpa[Ty.pure] using hpu) r
  .cases h
 | .ref,x,y,_,r,h=>hr x y _ h r
 | .clo,x,y,_,r,h=>by
  rw[hc] at h;obtain⟨rfl,h2⟩:=aJ7 h;exact aJ8 h2 r
 | .mp,x,y,_,r,h=>hm x y _ h r
 | .pair a b,x,y,_,⟨c1,c2,e,r1,r2⟩,h=>by
  rw[hp] at h;obtain⟨h1,h2⟩:=a0J h;refine⟨c1,c2,e,?_,?_⟩
  .split at h1
   .rename_i hpu;exact(aSG h1)▸vT hS hpu r1
   exact VD hS f hp hl hb hi hs hu hfn hrl hmr hap hr hm hc r1 h1
  split at h2
  .rename_i hpu;exact(aSG h2)▸vT hS hpu r2
  exact VD hS f hp hl hb hi hs hu hfn hrl hmr hap hr hm hc r2 h2
def a0K (f:(t:Ty)->t.den->Option t.den)
  (hp: ∀a b x,f (.pair a b) x=EK (if a.pure=true then some x.1 else f a x.1) (if b.pure=true then some x.2 else f b x.2))
  (hl: ∀t x,f (.list t) x=if t.pure=true then some x else none) {u:Ty}: ∀{t:Ty}{x y:t.den}{o:Nat}{l:List u.den},f t x=some y->qT (.list u) t x o=some l->qT (.list u) t y o=some l:=by
 intro t
 induction t with
 |pair a b iha ihb=>
  intro x y o l h hg;rw[hp] at h;obtain⟨h1,h2⟩:=a0J h;have key: ∀z:(Ty.pair a b).den,∀q,qT (.list u) (.pair a b) z q=if q<a.cells then qT (.list u) a z.1 q else qT (.list u) b z.2 (q-a.cells):=by
   intro z q;cases q with
   |zero=>
    conv=>lhs;unfold qT
    rw[aT0 (by intro e;cases e),Nat.zero_sub]
   |succ q=>simp [qT]
  rw[key] at hg|-;split
  .rename_i ho;rw[aSB ho] at hg;split at h1
   .rw[<-aSG h1];exact hg
   exact iha h1 hg
  .rename_i ho;rw[aSD ho] at hg;split at h2
   .rw[<-aSG h2];exact hg
   .exact ihb h2 hg
 |list v=>
  intro x y o l h hg;rw[hl] at h;split at h
  .cases h;exact hg
  .cases h
 |_=>
  intro x y o l h hg;cases o with
  |zero=>
   unfold qT at hg;split at hg
   .rename_i e;cases e
   .cases hg
  |succ o=>simp [qT] at hg
def aAT {c n3 n4:Nat}{a:pJ}{b d:pK}{y:Nat×Nat×(Nat×Nat)×(Nat×Nat)}(h:T5 c n3 n4 a b d=some y): ∃i k3 k4,a=some (i,0)/\b=some k3/\d=some k4/\y=(c,i,(k3,n3),(k4,n4)):=by
 unfold T5 at h;split at h
 .exact⟨_,_,_,rfl,rfl,rfl,(aSG h).symm⟩
 cases h
def a0L {g g':Gh}{w w':pM}{c i k3 k4 n3 n4 i' k3' k4':Nat}{cs:pI}(hS: ∀b o,g.S b o->g'.S b o/\w'.cell? ⟨b,o,none⟩=w.cell? ⟨b,o,none⟩) (hJ: ∀p,g.J i=some p->∃q,g'.J i'=some q/\q.1=p.1/\q.2=p.2) (h3: ∀v,g.cur k3 n3=some v->g'.cur k3' n3=some v) (h4: ∀v,g.cur k4 n4=some v->g'.cur k4' n4=some v)
  (h:ES g w (c,i,(k3,n3),(k4,n4)) cs):ES g' w' (c,i',(k3',n3),(k4',n4)) cs:=by
 rcases h with h|⟨h0,b,α,e,s1,s2,a1,a2,a3,a4⟩
 .exact .inl h
 refine .inr ⟨h0,b,α,e,(hS _ _ s1).1,(hS _ _ s1).2.trans s2,fun q=>?_,fun q=>?_,fun q=>?_,fun q=>?_⟩
 .obtain⟨p,p1,p2⟩:=a1 q;obtain⟨r,r1,r2,r3⟩:=hJ p p1;exact⟨r,r1,by rw[p2,r2,r3]⟩
 .obtain⟨p,p1,p2⟩:=a2 q;obtain⟨r,r1,r2,r3⟩:=hJ p p1;exact⟨r,r1,by rw[p2,r2,r3]⟩
 .obtain⟨bb,cap,p1,p2⟩:=a3 q;exact⟨bb,cap,h3 _ p1,p2⟩
 obtain⟨bb,cap,p1,p2⟩:=a4 q;exact⟨bb,cap,h4 _ p1,p2⟩
def aJ9 {g:Gh}{w:pM}{ws:List rJ}{t:Ty}{x y:t.den}{cs:pI}(r:Rd g w t x cs) (h:C1 ws t x=some y):Rd (uS g ws) w t y cs:=by
 refine VD (g:=g) (g':=uS g ws) rfl (C1 ws) (fun a b x=>rfl) (fun t x=>rfl) (fun _=>rfl) (fun _ _=>rfl) (fun _=>rfl) (fun _=>rfl) (fun _=>rfl) (fun _ _ x y cs h r=>?_) (fun x y cs h r=>?_) (fun x y cs h r=>?_) (fun x y cs h r=>?_) (fun x y cs h r=>?_) (fun _=>rfl) r h
 rotate_left 2
 .obtain⟨c,i,⟨k3,n3⟩,⟨k4,n4⟩⟩:=x;simp only[C1,a9q] at h;obtain⟨i',k3',k4',e1,e2,e3,rfl⟩:=aAT h;obtain⟨d,u,x,toks,oc,rfl,h2,h0⟩:=N8 e1;obtain⟨d3,rfl,h3⟩:=I2 e2;obtain⟨d4,rfl,h4⟩:=I2 e3;obtain rfl:oc=0:=by omega
  refine a0L (g:=g) (g':=uS g ws) (fun _ _ h=>⟨h,rfl⟩) (fun p hp=>⟨⟨p.1,p.2+0,p.3⟩,?_,rfl,rfl⟩) (fun v hv=>?_) (fun v hv=>?_) r
  .show uR g ws[0+d]? =_;rw[aTa,h2];simp [uR,hp]
  .show zL g ws[0+d3]? n3=_;rw[aTa,h3];exact hv
  show zL g ws[0+d4]? n4=_;rw[aTa,h4];exact hv
 rotate_left 2
 .cases x with
  |none=>cases h;exact r
  |some q=>
   obtain⟨k,n⟩:=q;simp only[C1,a9p] at h;cases hc:vR k ws 0 with
   |none=>rw[hc] at h;cases h
   |some c=>
    rw[hc] at h;cases h;obtain⟨d,rfl,h2⟩:=I2 hc;obtain⟨v,hv,hs⟩:=r;refine⟨v,?_,hs⟩;show zL g ws[0+d]? n=_;rw[aTa,h2];exact hv
 .cases x with
  |none=>cases h;exact r
  |some q=>
   obtain⟨i,o⟩:=q;simp only[C1,T0] at h;cases hc:CT i o ws 0 with
   |none=>rw[hc] at h;cases h
   |some q=>
    obtain⟨c,q⟩:=q;rw[hc] at h;cases h;obtain⟨d,u,x,toks,oc,rfl,h2,rfl⟩:=N8 hc;obtain⟨p,hp,hv⟩:=r;refine⟨⟨p.1,p.2+oc,p.3⟩,?_,by have:=hv.1;rwa [<-aTj] at this,hv.2.imp id fun hv=>by rw[hv];simp [aTj]⟩;show uR g ws[0+d]? =_;rw[aTa,h2];simp [uR,hp]
 .cases x with
  |none=>cases h;exact r
  |some q=>
   obtain⟨i,o⟩:=q;simp only[C1,T0] at h;cases hc:CT i o ws 0 with
   |none=>rw[hc] at h;cases h
   |some q=>
    obtain⟨c,q⟩:=q;rw[hc] at h;cases h;obtain⟨d,u,x,toks,oc,rfl,h2,rfl⟩:=N8 hc;obtain⟨p,hp,hv⟩:=r;refine⟨⟨p.1,p.2+oc,p.3⟩,?_,by rw[hv];simp [aTj]⟩;show uR g ws[0+d]? =_;rw[aTa,h2];simp [uR,hp]
 cases x with
 |none=>cases h;exact r
 |some i=>
  simp only[C1,a9o] at h;cases hc:vR i ws 0 with
  |none=>rw[hc] at h;cases h
  |some c=>
   rw[hc] at h;cases h;obtain⟨d,rfl,h2⟩:=I2 hc;obtain⟨p,hp,hv⟩:=r;refine⟨p,?_,hv⟩;show uR g ws[0+d]? =_;rw[aTa,h2];exact hp
def aKa {g:Gh}{w:pM}{ws:List rJ}{t:Ty}{x y:t.den}{cs:pI}(h:a0I ws t x y) (r:Rd g w t x cs):Rd (uS g ws) w t y cs:=by
 rcases h with⟨hp,rfl⟩ |h
 .exact vT (g:=g) (g':=uS g ws) rfl hp r
 exact aJ9 r h
def aKb {ws:List rJ}{t u:Ty}{x y:t.den}{o:Nat}{l:List u.den}(h:a0I ws t x y) (hg:qT (.list u) t x o=some l):qT (.list u) t y o=some l:=by
 rcases h with⟨_,rfl⟩ |h
 .exact hg
 exact a0K (C1 ws) (fun _ _ _=>rfl) (fun _ _=>rfl) h hg
structure QA (H:rX) (ws:List rJ) (L:List pV):Prop where
 len:ws.length=L.length
 ok: ∀(c:Nat) wh b,ws[c]? =some wh->L[c]? =some b->VC H ws wh b
 nodup:(s7 ws).Nodup
def a0M: ∀(ws:List rJ) (c:Nat),(s7 ws)[c]? =(ws[c]?).map rJ.id
 |[],c=>by simp [s7]
 |w::ws,0=>rfl
 |w::ws,c+1=>by simpa[s7] using a0M ws c
def I3: ∀ws ws':List rJ,s7 (ws++ws')=s7 ws++s7 ws'
 |[],_=>rfl
 |w::ws,ws'=>by simp [s7,I3 ws ws']
def G3: ∀{i:Nat}{l:pL},zV i l=true↔i∈l
 |i,[]=>by simp [zV]
 |i,j::r=>by
  simp only[zV,aSP];by_cases h:i=j
  .simp [h]
  rw[aSD h,G3];simp [h]
def VE {ws:List rJ}(h:(s7 ws).Nodup) {c c':Nat}{x y:rJ}(hx:ws[c]? =some x) (hy:ws[c']? =some y) (he:x.id=y.id):c=c':=by
 have h1:(s7 ws)[c]? =some x.id:=by rw[a0M,hx];rfl
 have h2:(s7 ws)[c']? =some x.id:=by rw[a0M,hy,he];rfl
 obtain⟨l1,e1⟩:=aSR.1 h1;obtain⟨l2,e2⟩:=aSR.1 h2;have hp:=aTh.1 h;rcases Nat.lt_trichotomy c c' with h3|h3|h3
 .exact absurd (e1.trans e2.symm) (hp c c' l1 l2 h3)
 .exact h3
 exact absurd (e2.trans e1.symm) (hp c' c l2 l1 h3)
def aAU: ∀{toks:pG}{q k:Nat},wR toks q=some k->(q,k)∈toks
 |[],_,_,h=>by simp [wR] at h
 |(q',k')::r,q,k,h=>by
  simp only[wR] at h;split at h
  .rename_i e;subst e;simp only[aSC] at h;subst h;simp
  exact aSQ _ (aAU h)
def aKc {v t:Ty}: ∀{u:Ty}{x:u.den}{o q:Nat}{y:t.den}{l:(Ty.list v).den},qT t u x o=some y->qT (.list v) u x (o+q)=some l->q<t.cells->qT (.list v) t y q=some l:=by
 intro u
 induction u with
 |pair a b iha ihb=>
  intro x o q y l h g hq;by_cases hu:o=0/\t= .pair a b
  .obtain⟨rfl,rfl⟩:=hu;unfold qT at h;rw[aUu rfl] at h;simp only[tX,aSC] at h;subst h;simpa using g
  .have keyh:(if o<a.cells then qT t a x.1 o else qT t b x.2 (o-a.cells))=some y:=by
    cases o with
    |zero=>
     unfold qT at h;rw[aT0 (fun e=>hu ⟨rfl,e.symm⟩)] at h;simpa using h
    |succ o=>simpa[qT] using h
   have keyg: ∀z,qT (.list v) (.pair a b) x z=(if z<a.cells then qT (.list v) a x.1 z else qT (.list v) b x.2 (z-a.cells)):=by
    intro z;cases z with
    |zero=>
     conv=>lhs;unfold qT
     rw[aT0 (by intro e;cases e),Nat.zero_sub]
    |succ z=>simp [qT]
   rw[keyg] at g;by_cases ho:o<a.cells
   .rw[aSB ho] at keyh;have hfit:o+t.cells<=a.cells:=by
     have: ∀{u:Ty}{x:u.den}{o:Nat}{y:t.den},qT t u x o=some y->o+t.cells<=u.cells:=by
      intro u
      induction u with
      |pair a b iha ihb=>
       intro x o y h;have key: ∀o,(if o<a.cells then qT t a x.1 o else qT t b x.2 (o-a.cells))=some y->o+t.cells<=a.cells+b.cells:=by
        intro o h;by_cases ho:o<a.cells
        .rw[aSB ho] at h;have:=iha h;omega
        rw[aSD ho] at h;have:=ihb h;omega
       cases o with
       |zero=>
        unfold qT at h;split at h
        .rename_i e;subst e;simp
        .exact key 0 (by simpa using h)
       |succ o=>exact key (o+1) (by simpa[qT] using h)
      |_=>
       intro x o y h;cases o with
       |zero=>
        unfold qT at h;split at h
        .rename_i e;subst e;simp
        .simp at h
       |succ o=>simp [qT] at h
     exact this keyh
    rw[aSB pB] at g;exact iha keyh g hq
   .rw[aSD ho] at keyh;rw[aSD pB,show o+q-a.cells=o-a.cells+q from by omega] at g;exact ihb keyh g hq
 |_=>
  intro x o q y l h g hq;cases o with
  |zero=>
   unfold qT at h;split at h
   .rename_i e;subst e;simp only[tX,aSC] at h
    try subst h
    simpa using g
   .simp at h
  |succ o=>simp [qT] at h
def aKd {g:Gh}{w:pM}{H:rX}{ws:List rJ}{L:List pV}(hH:s5 g w H) (hm:QA H ws L):s5 (uS g ws) w (qP 0 L):=by
 have wsL: ∀c b,pY (qP 0 L) c=some b->∃wh,ws[c]? =some wh/\VC H ws wh b:=by
  intro c b h;rw[x6] at h;have hlt:c<ws.length:=hm.len▸(aSR.1 h).1;exact⟨ws[c],aSK hlt,hm.ok c _ b (aSK hlt) h⟩
 have own: ∀c b wh,ws[c]? =some wh->VC H ws wh b->∀bb oo,rY (uS g ws) c b bb oo->∃blk,pY H wh.id=some blk/\rY g wh.id blk bb oo:=by
  intro c b wh hwh hw bb oo ho;cases wh with
  |box i u x toks off=>
   cases b with
   |cells t y ts=>
    obtain⟨h1,⟨y0,h2,h3⟩,h4⟩:=hw;obtain⟨p,hp,e1,e2,e3⟩:=ho;have hp':uR g ws[c]? =some p:=hp;rw[hwh] at hp';obtain⟨p0,hp0,rfl⟩:=aSS.1 hp';obtain⟨p1,cs,hp1,hR,_⟩:=hH.blk i _ h1;obtain⟨c1,c2,c3,hcs,hl,hR2⟩:=BH hR h2;have l1:=sJ hR;have l2:=sJ hR2;rw[hcs] at l1;simp only[aSH] at l1;exact⟨_,h1,p0,hp0,e1,by simp at e2;omega,by simp at e3;omega⟩
   |_=>exact hw.elim
  |tok k=>
   cases b with
   |grow e cc m=>
    obtain⟨v,hv,hb⟩:=ho;have hv':zL g ws[c]? m=some v:=hv;rw[hwh] at hv';exact⟨_,hw,v,hv',hb⟩
   |map s t l=>
    obtain⟨p,hp,hb⟩:=ho;have hp':uR g ws[c]? =some p:=hp;rw[hwh] at hp';exact⟨_,hw.1,p,hp',hb⟩
   |row e t l m=>
    obtain⟨v,hv,hb⟩:=ho;have hv':zL g ws[c]? m=some v:=hv;rw[hwh] at hv';exact⟨_,hw.1,v,hv',hb⟩
   |_=>exact hw.elim
 refine⟨fun c b h=>?_,fun c c' b b' bb oo hne h1 h2 o1 o2=>?_,hH.sl,hH.tab.1,fun c b bb oo h ho=>?_⟩
 rotate_right
 .obtain⟨wh,hwh,hw⟩:=wsL c b h;obtain⟨k1,g1,p1⟩:=own c b wh hwh hw bb oo ho;exact hH.tab.2 _ _ bb oo g1 p1
 .obtain⟨wh,hwh,hw⟩:=wsL c b h;cases wh with
  |box i u x toks off=>
   cases b with
   |cells t y ts=>
    obtain⟨h1,⟨y0,h2,h3⟩,h4⟩:=hw;obtain⟨p,cs,hp,hR,hra,hth,hns,htk⟩:=hH.blk i _ h1;obtain⟨c1,c2,c3,rfl,rfl,hR2⟩:=BH hR h2;have l1:=sJ hR;have l2:=sJ hR2;simp only[aSH] at l1;refine⟨⟨p.1,p.2+c1.length,p.3⟩,c2,?_,aKa h3 hR2,fun j v hv=>?_,⟨fun j hj=>?_,fun h0 s hs=>hth.2 pB s hs⟩,fun j hj hs=>?_,fun q n hm'=>?_⟩
    .show uR g ws[c]? =_;rw[hwh];simp [uR,hp]
    .have:=hra (c1.length+j) v (by
      have hj':=(aSR.1 hv).1;rw[aSN,aSM pB,aTr,aSU hj'];exact hv)
     rw[aTj];exact this
    .have:=hth.1 (c1.length+j) pB;rw[aTj];exact this
    .exact hns (c1.length+j) pB (by rw[<-aTj];exact hs)
    .obtain⟨k,k1,k2,k3⟩:=h4 q n hm';have hmem:(c1.length+q,k)∈toks:=aAU k2;obtain⟨u',l,v,g1,g2,g3⟩:=htk _ _ hmem;refine⟨u',l,v,aKb h3 (aKc h2 g1 k3),?_,?_⟩
     .rw[aSN,aSM pB,aTr,aSU pB] at g2;exact g2
     .show zL g ws[n]? _=_;rw[k1];exact g3
   |_=>exact hw.elim
  |tok k=>
   cases b with
   |grow e cc m=>
    have e1:(uS g ws).cur c=g.cur k:=by
     funext n;show zL g ws[c]? n=_;rw[hwh];rfl
    obtain⟨v,xs,hv,hr,hn,hs⟩:=hH.blk k _ hw;exact⟨v,xs,by rw[e1];exact hv,hr,fun m hm'=>by rw[e1];exact hn m hm',hs⟩
   |map s t l=>
    obtain⟨p,es,cl,hp,hp0,hh,hM,hS⟩:=hH.blk k _ hw.1;refine⟨p,es,cl,?_,hp0,hh,Q1 (g:=g) (g':=uS g ws) rfl hw.2.1 hw.2.2 hM,hS⟩;show uR g ws[c]? =_;rw[hwh];exact hp
   |row e t l m=>
    have e1:(uS g ws).cur c=g.cur k:=by
     funext n;show zL g ws[c]? n=_;rw[hwh];rfl
    obtain⟨hl,v,xs,hv,hr,hF,hn,hs⟩:=hH.blk k _ hw.1;exact⟨hl,v,xs,by rw[e1];exact hv,hr,C8 (fun _ _ h=>vT (g:=g) (g':=uS g ws) rfl hw.2 h) hF,fun m hm'=>by rw[e1];exact hn m hm',hs⟩
   |_=>exact hw.elim
 obtain⟨wh,hwh,hw⟩:=wsL c b h1;obtain⟨wh',hwh',hw'⟩:=wsL c' b' h2;obtain⟨k1,g1,p1⟩:=own c b wh hwh hw bb oo o1;obtain⟨k2,g2,p2⟩:=own c' b' wh' hwh' hw' bb oo o2;exact hH.dis wh.id wh'.id k1 k2 bb oo (fun e=>hne (VE hm.nodup hwh hwh' e)) g1 g2 p1 p2
def aAV {H:rX}{ws more:List rJ}: ∀{wh:rJ}{b:pV},VB H ws wh b->VB H (ws++more) wh b
 | .box _ _ _ _ _,.cells _ _ _,⟨h1,h2,h4⟩=>⟨h1,h2,fun q n h=>let ⟨k,k1,k2⟩:=h4 q n h;⟨k,by rw[aSU (aSR.1 k1).1];exact k1,k2⟩⟩
 | .box _ _ _ _ _,.grow _ _ _,h=>h.elim
 | .box _ _ _ _ _,.dead,h=>h.elim
 | .box _ _ _ _ _,.row _ _ _ _,h=>h.elim
 | .box _ _ _ _ _,.map _ _ _,h=>h.elim
 | .box _ _ _ _ _,.iter _ _,h=>h.elim
 | .tok _,.iter _ _,h=>h.elim
 | .tok _,.row _ _ _ _,h=>h
 | .tok _,.grow _ _ _,h=>h
 | .tok _,.map _ _ _,h=>h
 | .tok _,.cells _ _ _,h=>h.elim
 | .tok _,.dead,h=>h.elim
def KQ (g:Gh) (w:pM) (ws more:List rJ):Le (uS g ws) w (uS g (ws++more)) w:=by
 refine⟨fun _ _ h=>h,fun _ _ _=>rfl,fun c p h=>?_,fun c n v h=>?_⟩
 .have h':uR g ws[c]? =some p:=h;show uR g (ws++more)[c]? =some p;cases hc:ws[c]? with
  |none=>rw[hc] at h';cases h'
  |some wh=>rw[aSU (aSR.1 hc).1];exact h'
 have h':zL g ws[c]? n=some v:=h;show zL g (ws++more)[c]? n=some v;cases hc:ws[c]? with
 |none=>rw[hc] at h';cases h'
 |some wh=>rw[aSU (aSR.1 hc).1];exact h'
def KR {g g':Gh}{w w':pM}(h:Le g w g' w'): ∀{ss:List pW}{vs:pI},vD g w ss vs->vD g' w' ss vs
 |[],_,r=>r
 |_::_,_,⟨v,vs',e,r1,r2⟩=>⟨v,vs',e,CV h r1,KR h r2⟩
def DH {g:Gh}{w:pM}: ∀{ss:List pW}{vs:pI}{s:pW}{v:pN},vD g w ss vs->rH g w s v->vD g w (ss++[s]) (vs++[v])
 |[],_,_,_,h,k=>by rw[show _=[] from h];exact⟨_,_,rfl,k,rfl⟩
 |_::_,_,_,_,⟨v,vs',e,r1,r2⟩,k=>⟨v,vs'++_,by rw[e];rfl,r1,DH r2 k⟩
def G2.tok {H:rX}{ws:List rJ}{L:List pV}(h:G2 H ws L) {k:Nat}{b0:pV}(hk:VB H (ws++[.tok k]) (.tok k) b0) (hn:k∉s7 ws):G2 H (ws++[.tok k]) (L++[b0]):=by
 refine⟨by simp [h.len],fun i wh b h1 h2=>?_,?_⟩
 .by_cases hi:i<ws.length
  .rw[aSU hi] at h1;rw[aSU (h.len▸hi)] at h2;exact aAV (h.ok i wh b h1 h2)
  rw[aSM pB] at h1;rw[aSM (by rw[<-h.len];omega),<-h.len] at h2;obtain⟨d,hd⟩: ∃d,i-ws.length=d:=⟨_,rfl⟩;rw[hd] at h1 h2;cases d with
  |zero=>
   simp only[aTf,aSC] at h1 h2;subst h1;subst h2;exact hk
  |succ d=>simp at h1
 rw[I3];exact List.nodup_append.2 ⟨h.nodup,by simp [s7],fun a ha b hb=>by
  simp only[s7,rJ.id,aST] at hb;subst hb;intro e;exact hn (e▸ha)⟩
def aAW: ∀{os:pL}{n q m:Nat},(q,m)∈JS os n->∃j:Nat,os[j]? =some q/\m=n+j
 |[],_,_,_,h=>by simp [JS] at h
 |q'::os,n,q,m,h=>by
  simp only[JS,aSP,aS7] at h;rcases h with⟨rfl,rfl⟩ |h
  .exact⟨0,rfl,rfl⟩
  obtain⟨j,h1,h2⟩:=aAW h;exact⟨j+1,by simpa using h1,pB⟩
def aAX {n:Nat}: ∀{os:pL}{j q:Nat},MO n os=true->os[j]? =some q->q<n
 |[],_,_,_,h=>by simp at h
 |q'::os,0,q,h,h2=>by
  simp only[MO,aSV,aSL] at h;simp only[aTf,aSC] at h2;exact h2▸h.1
 |q'::os,j+1,q,h,h2=>by
  simp only[MO,aSV] at h;exact aAX h.2 (by simpa using h2)
def VF {H:rX}{toks:pG}{o:Nat}: ∀{os:pL}{a a':sQ},yF H toks o os (some a)=some a'->
  ∃(ks:pL) (bs:List pV),ks.length=os.length/\bs.length=os.length/\a'.args=a.args/\a'.H.reverse=a.H.reverse++bs/\a'.ws.reverse=a.ws.reverse++ks.map rJ.tok/\a'.n=a.n+os.length/\
   (∀(j:Nat) q k,os[j]? =some q->ks[j]? =some k->wR toks (o+q)=some k)/\(∀(j:Nat) k b,ks[j]? =some k->bs[j]? =some b->pY H k=some b/\∃e c m,b= .grow e c m)/\(∀k∈ks,k∉s7 a.ws.reverse)/\ks.Nodup
 |[],a,a',h=>by
  simp only[yF,aSC] at h;subst h;exact⟨[],[],rfl,rfl,rfl,by simp,by simp,rfl,by simp,by simp,by simp,by simp⟩
 |q::os,a,a',h=>by
  simp only[yF] at h;have none_no: ∀os,yF H toks o os none=none:=by
   intro os
   induction os with
   |nil=>rfl
   |cons q os ih=>
    have:zE H (wR toks (o+q)) none=none:=by
     cases wR toks (o+q) with
     |none=>rfl
     |some k=>simp only[zE];cases pY H k with
      |none=>rfl
      |some b=>cases b<;>rfl
    simp only[yF,this,ih]
  cases hk:wR toks (o+q) with
  |none=>rw[hk] at h;simp only[zE,none_no] at h;cases h
  |some k=>
   rw[hk] at h;simp only[zE] at h;cases hb:pY H k with
   |none=>rw[hb] at h;simp only[BX,none_no] at h;cases h
   |some b=>
    rw[hb] at h;cases b with
    |grow e c m=>
     simp only[BX] at h;by_cases hm:zV k (s7 a.ws)=true
     .rw[aSB hm,none_no] at h;cases h
     .rw[aSD hm] at h;obtain⟨ks,bs,h1,h2,h3,h4,h5,h6,h7,h8,h9,h10⟩:=VF h;simp only[aTi] at h4 h5 h9;have hrev: ∀ws:List rJ,∀i,i∈s7 ws.reverse↔i∈s7 ws:=by
       intro ws i
       induction ws with
       |nil=>simp
       |cons x r ih=>rw[aTi,I3];simp [s7,ih,or_comm]
      refine⟨k::ks,.grow e c m::bs,by simp [h1],by simp [h2],h3,by rw[h4];simp,by rw[h5];simp,by rw[h6];simp;omega,fun j q' k'=>?_,fun j k' b'=>?_,fun k' hk'=>?_,?_⟩
      .cases j with
       |zero=>intro e1 e2;simp only[aTf,aSC] at e1 e2;subst e1;subst e2;exact hk
       |succ j=>intro e1 e2;exact h7 j q' k' (by simpa using e1) (by simpa using e2)
      .cases j with
       |zero=>intro e1 e2;simp only[aTf,aSC] at e1 e2;subst e1;subst e2;exact⟨hb,_,_,_,rfl⟩
       |succ j=>intro e1 e2;exact h8 j k' b' (by simpa using e1) (by simpa using e2)
      .rcases aSP.1 hk' with rfl|hk'
       .rw[hrev];exact fun hmem=>hm (G3.2 hmem)
       intro hmem;exact h9 k' hk' (by rw[I3];exact List.mem_append_left _ hmem)
      .refine List.nodup_cons.2 ⟨fun hmem=>h9 k hmem (by rw[I3];simp [s7,rJ.id]),h10⟩
    |cells t y ts=>simp only[BX,none_no] at h;cases h
    |row=>simp only[BX,none_no] at h;cases h
    |map=>simp only[BX,none_no] at h;cases h
    |iter=>simp only[BX,none_no] at h;cases h
    |dead=>simp only[BX,none_no] at h;cases h
def aAY: ∀ks:pL,s7 (ks.map rJ.tok)=ks
 |[]=>rfl
 |k::ks=>by simp [s7,rJ.id,aAY ks]
def G2.box {H:rX}{ws:List rJ}{L:List pV}(h:G2 H ws L) {t u:Ty}{x:u.den}{y:t.den}{toks:pG}{i o:Nat}{os ks:pL}{bs:List pV}(hi:pY H i=some (.cells u x toks)) (hy:qT t u x o=some y) (hlt:MO t.cells os=true) (hn:i∉s7 ws)
  (h1:ks.length=os.length) (h2:bs.length=os.length) (h7: ∀(j:Nat) q k,os[j]? =some q->ks[j]? =some k->wR toks (o+q)=some k) (h8: ∀(j:Nat) k b,ks[j]? =some k->bs[j]? =some b->pY H k=some b/\∃e c m,b= .grow e c m) (h9: ∀k∈ks,k∉s7 (ws++[.box i u x toks o])) (h10:ks.Nodup):
  G2 H ((ws++[.box i u x toks o])++ks.map rJ.tok) ((L++[.cells t y (JS os (ws.length+1))])++bs):=by
 have hlen1:(ws++[rJ.box i u x toks o]).length=ws.length+1:=by simp
 have hlen2:(L++[pV.cells t y (JS os (ws.length+1))]).length=ws.length+1:=by simp [h.len]
 refine⟨by simp [h.len,h1,h2],fun c wh b e1 e2=>?_,?_⟩
 .by_cases hc:c<ws.length
  .rw[aSU pB,aSU hc] at e1;rw[aSU pB,aSU (h.len▸hc)] at e2;rw[aSN];exact aAV (h.ok c wh b e1 e2)
  by_cases hc2:c=ws.length
  .subst hc2;rw[aSU pB,aSM (aSW _),aT7] at e1;rw[aSU pB,aSM (by rw[h.len];exact aSW _),h.len,aT7] at e2;simp only[aTf,aSC] at e1 e2;subst e1;subst e2;refine⟨hi,hy,fun q n hm=>?_⟩;rw[<-h.len] at hm;obtain⟨j,hj,rfl⟩:=aAW hm;have hjl:j<ks.length:=by rw[h1];exact(aSR.1 hj).1
   refine⟨ks[j],?_,h7 j q _ hj (aSK hjl),aAX hlt hj⟩;rw[aSM pB,hlen1,show ws.length+1+j- (ws.length+1)=j from by omega];simp [hjl]
  rw[aSM pB,hlen1] at e1;rw[aSM pB,hlen2] at e2;rw[List.getElem?_map] at e1;obtain⟨k,hk,rfl⟩:=aSS.1 e1;obtain⟨hg,e,cc,m,rfl⟩:=h8 _ k b hk e2;exact hg
 rw[I3,aAY];refine List.nodup_append.2 ⟨?_,h10,fun a ha b hb e=>h9 b hb (e▸ha)⟩;rw[I3];exact List.nodup_append.2 ⟨h.nodup,by simp [s7],fun a ha b hb=>by
  simp only[s7,rJ.id,aST] at hb;subst hb;intro e;exact hn (e▸ha)⟩
def QB (ws:List rJ) (i:Nat):i∈s7 ws.reverse↔i∈s7 ws:=by
 induction ws with
 |nil=>simp
 |cons x r ih=>rw[aTi,I3];simp [s7,ih,or_comm]
structure BK (g:Gh) (w:pM) (H:rX) (vals:pI) (a:sQ):Prop where
 n:a.n=a.ws.reverse.length
 m:G2 H a.ws.reverse a.H.reverse
 args:vD (uS g a.ws.reverse) w a.args.reverse vals
def aKe {g:Gh}{w:pM}{ws:List rJ}{t:Ty}(hp:t.pure=true) {x:t.den}{v:pN}{k:pK}(h:rH g w (.val t x,k) v):rH (uS g ws) w (.val t x,none) v:=
 ⟨h.1.imp (fun⟨a,cs,e,q⟩=>⟨a,cs,e,vT (g:=g) (g':=uS g ws) rfl hp q⟩) (fun⟨a,q⟩=>⟨a,vT (g:=g) (g':=uS g ws) rfl hp q⟩),trivial⟩
def aKf {H:rX}{k:pK}{a b:sQ}{l m:List pW}(h:zE H k (some ⟨l,a.H,a.ws,a.n⟩)=some b):b.args=l/\zE H k (some ⟨m,a.H,a.ws,a.n⟩)=some ⟨m,b.H,b.ws,b.n⟩:=by
 cases k with
 |none=>cases h
 |some k=>
  simp only[zE] at h|-;cases hb:pY H k with
  |none=>rw[hb] at h;simp [BX] at h
  |some bl=>
   rw[hb] at h;cases bl with
   |grow e c n=>
    simp only[BX] at h|-;split at h
    .cases h
    .rename_i hc;rw[aSD hc];cases h;exact⟨rfl,rfl⟩
   |_=>simp [BX] at h
def aAZ {H:rX}{toks:pG}{o:Nat}{m:List pW}: ∀{os:pL}{a b:sQ},yF H toks o os (some a)=some b->b.args=a.args/\yF H toks o os (some ⟨m,a.H,a.ws,a.n⟩)=some ⟨m,b.H,b.ws,b.n⟩
 |[],a,b,h=>by simp only[yF,aSC] at h;subst h;exact⟨rfl,rfl⟩
 |q::os,a,b,h=>by
  simp only[yF] at h|-;have none_no: ∀os,yF H toks o os none=none:=by
   intro os
   induction os with
   |nil=>rfl
   |cons q os ih=>
    have:zE H (wR toks (o+q)) none=none:=by
     cases wR toks (o+q) with
     |none=>rfl
     |some k=>simp only[zE];cases pY H k with
      |none=>rfl
      |some b=>cases b<;>rfl
    simp only[yF,this,ih]
  cases hm:zE H (wR toks (o+q)) (some a) with
  |none=>rw[hm,none_no] at h;cases h
  |some c=>
   rw[hm] at h;obtain⟨h1,h2⟩:=aKf (a:=a) (l:=a.args) (m:=m) hm;obtain⟨h3,h4⟩:=aAZ (m:=m) h;rw[h2];exact⟨h3.trans h1,h4⟩
def aKg {H:rX}{t:Ty}{os:pL}{i o:Nat}{a b:sQ}{m:List pW}(h:vQ H t os i o a (pY H i)=some b):vQ H t os i o ⟨m,a.H,a.ws,a.n⟩ (pY H i)=some ⟨(.val .ref (some (a.n,0)),none)::m,b.H,b.ws,b.n⟩:=by
 cases hb:pY H i with
 |none=>rw[hb] at h;simp [vQ] at h
 |some bl=>
  rw[hb] at h;cases bl with
  |cells u x toks=>
   simp only[vQ] at h|-;cases hy:qT t u x o with
   |none=>rw[hy] at h;simp [EJ] at h
   |some y=>
    rw[hy] at h;simp only[EJ] at h|-;split at h
    .rename_i hc;rw[aSB hc];exact(aAZ (m:=(.val .ref (some (a.n,0)),none)::m) h).2
    .cases h
  |_=>simp [vQ] at h
def aA0 {g:Gh}{i o:Nat}{p:Pl}{v:pN}: ∀{l:pG}{vs:pI},y7 g l vs->g.J i=some p->v= .pointer (some ⟨p.1,p.2+o,none⟩)->y7 g (l++[(i,o)]) (vs++[v])
 |[],vs,h,hp,hv=>by rw[show vs=[] from h];exact⟨p,[],hp,by rw[hv];rfl,rfl⟩
 |(_,_)::l,vs,⟨q,vs',h1,h2,h3⟩,hp,hv=>⟨q,vs'++[v],h1,by rw[h2];rfl,aA0 h3 hp hv⟩
def a0N {α:Type}: ∀(l acc:List α),yQ l acc=l.reverse++acc
 |[],_=>rfl
 |x::l,acc=>by simp [yQ,a0N l]
def aA1 {g:Gh}{w:pM}{H:rX}(hH:s5 g w H) {t:Ty}{os:pL}{i o:Nat}{vals:pI}{a a':sQ}(ha:BK g w H vals a) {p:Pl}(hp:g.J i=some p) (h:vQ H t os i o a (pY H i)=some a'):
  BK g w H vals ⟨a.args,a'.H,a'.ws,a'.n⟩/\∃more,a'.ws.reverse=a.ws.reverse++more/\a'.args=(.val .ref (some (a.n,0)),none)::a.args/\(uS g a'.ws.reverse).J a.n=some ⟨p.1,p.2+o,p.3⟩:=by
 cases hb:pY H i with
 |none=>rw[hb] at h;simp [vQ] at h
 |some b=>
  rw[hb] at h;cases b with
  |cells u x toks=>
   simp only[vQ] at h;cases hy:qT t u x o with
   |none=>rw[hy] at h;simp [EJ] at h
   |some y=>
    rw[hy] at h;simp only[EJ] at h;split at h
    .rename_i hc;simp only[aSV,aTg] at hc;obtain⟨ks,bs,h1,h2,h3,h4,h5,h6,h7,h8,h9,h10⟩:=VF h;simp only[aTi] at h3 h4 h5 h6 h9;have hnm:i∉s7 a.ws.reverse:=fun hmem=>by
      have:=G3.2 ((QB _ _).1 hmem);rw[hc.2] at this;cases this
     have e5:a'.ws.reverse=a.ws.reverse++([rJ.box i u x toks o]++ks.map rJ.tok):=by rw[h5];simp only[aSN]
     refine⟨⟨by rw[h6];simp only;rw[h5,ha.n];simp [h1];omega,?_,?_⟩,_,e5,h3,?_⟩
     .simp only;rw[h4,h5,ha.n];exact ha.m.box hb hy hc.1 hnm h1 h2 h7 h8 h9 h10
     .simp only;rw[e5];exact KR (KQ g w _ _) ha.args
     show uR g a'.ws.reverse[a.n]? =_;rw[e5,ha.n,aSM (aSW _),aT7];show (g.J i).map _=_;rw[hp];rfl
    .cases h
  |grow=>simp [vQ] at h
  |row=>simp [vQ] at h
  |map=>simp [vQ] at h
  |iter=>simp [vQ] at h
  |dead=>simp [vQ] at h
def aA2 {H:rX}{f:FuncId}{args0:List pW}: ∀{ks:List (Ty×pL)}{cs ids:pG}{a a':sQ},xH H f args0 ks cs ids (some a)=some a'->∃s more,a'.args=s::args0/\a'.ws.reverse=a.ws.reverse++more
 |[],[],ids,a,a',h=>by
  simp only[xH,aSC] at h;subst h;exact⟨_,[],rfl,by simp⟩
 |[],_::_,_,_,_,h=>by simp [xH] at h
 |_::_,[],_,_,_,h=>by simp [xH] at h
 |(t,os)::ks,(i,o)::cs,ids,a,a',h=>by
  simp only[xH] at h;cases hb:vQ H t os i o a (pY H i) with
  |none=>rw[hb] at h;cases ks<;>cases cs<;>simp [xH] at h
  |some b=>
   rw[hb] at h;obtain⟨s,more,h1,h2⟩:=aA2 h;obtain⟨more0,h3⟩: ∃more0,b.ws.reverse=a.ws.reverse++more0:=by
    unfold vQ at hb;split at hb
    .unfold EJ at hb;split at hb
     .split at hb
      .obtain⟨ks,bs,_,_,_,_,h5,_⟩:=VF hb;exact⟨_,by rw[h5];simp only[aTi];exact aSN ..⟩
      cases hb
     cases hb
    cases hb
   exact⟨s,more0++more,h1,by rw[h2,h3,aSN]⟩
def aA3 {g:Gh}{w:pM}{H:rX}(hH:s5 g w H) {f:FuncId}{args0:List pW}{vals:pI}: ∀{ks:List (Ty×pL)}{cs:pG}{ids:pG}{vs us:pI}{a a':sQ},BK g w H vals ⟨args0,a.H,a.ws,a.n⟩->
  y7 g cs vs->y7 (uS g a.ws.reverse) ids.reverse us->xH H f args0 ks cs ids (some a)=some a'->
  BK g w H vals ⟨args0,a'.H,a'.ws,a'.n⟩/\∃ids',a'.args=(.val .clo (some (f,ids')),none)::args0/\(∃more,a'.ws.reverse=a.ws.reverse++more)/\y7 (uS g a'.ws.reverse) ids' (us++vs)
 |[],[],ids,vs,us,a,a',ha,hv,hu,h=>by
  simp only[xH,a0N,List.append_nil,aSC] at h;subst h;rw[show vs=[] from hv,List.append_nil];exact⟨ha,_,rfl,⟨[],by simp⟩,hu⟩
 |[],_::_,_,_,_,_,_,_,_,_,h=>by simp [xH] at h
 |_::_,[],_,_,_,_,_,_,_,_,h=>by simp [xH] at h
 |(t,os)::ks,(i,o)::cs,ids,vs,us,a,a',ha,⟨p,vs',hp,hv1,hv2⟩,hu,h=>by
  simp only[xH] at h;cases hb:vQ H t os i o a (pY H i) with
  |none=>rw[hb] at h;cases ks<;>cases cs<;>simp [xH] at h
  |some b=>
   rw[hb] at h;have hb':vQ H t os i o ⟨args0,a.H,a.ws,a.n⟩ (pY H i)=some ⟨(.val .ref (some (a.n,0)),none)::args0,b.H,b.ws,b.n⟩:=aKg hb;obtain⟨q1,more,q2,q3,q4⟩:=aA1 hH ha hp hb';simp only at q1 q2 q3 q4;have hmono:=KQ g w a.ws.reverse more;rw[<-q2] at hmono;have hu2:y7 (uS g b.ws.reverse) ((a.n,0)::ids).reverse (us++[.pointer (some ⟨p.1,p.2+o,none⟩)]):=by
    simp only[aTi];exact aA0 (a0a hmono.J hu) q4 pD
   obtain⟨z1,ids',z2,⟨more',z3⟩,z4⟩:=aA3 hH (a:=b) q1 hv2 hu2 h;refine⟨z1,ids',z2,⟨more++more',by rw[z3,q2,aSN]⟩,?_⟩;rw[hv1];rw[aSN] at z4;exact z4
def aA4 {g:Gh}{w:pM}{H:rX}(hH:s5 g w H) {p:PK}{s:pW}{v:pN}{vals:pI}{a a':sQ}(ha:BK g w H vals a) (hs:rH g w s v) (h:xI H a p s=some a'):BK g w H (vals++[v]) a':=by
 unfold xI at h;split at h
 .rename_i f k;simp only[SY,aSC] at h;subst h;refine⟨ha.n,ha.m,?_⟩;simp only[aTi];refine DH ha.args ⟨?_,trivial⟩;rcases hs.1 with⟨h1,_⟩ |⟨h1,vs,h2,h3⟩
  .cases h1
  rw[show vs=[] from h2] at h3;exact .inr ⟨rfl,[],rfl,h3⟩
 .rename_i t x k _;simp only[SX] at h;split at h
  .rename_i hp;simp only[aSC] at h;subst h;refine⟨ha.n,ha.m,?_⟩;simp only[aTi];exact DH ha.args (aKe hp hs)
  cases h
 .simp only[SZ,aSC] at h;subst h;refine⟨ha.n,ha.m,?_⟩;simp only[aTi];exact DH ha.args ⟨hs.1,trivial⟩
 .rename_i t x k;cases hb:pY H k with
  |none=>rw[hb] at h;simp [BY] at h
  |some b=>
   rw[hb] at h;cases b with
   |grow e c m=>
    simp only[BY] at h;split at h
    .rename_i hc;simp only[aSV,aTg] at hc;simp only[aSC] at h;subst h;have hnm:k∉s7 a.ws.reverse:=fun hmem=>by
      have:=G3.2 ((QB _ _).1 hmem);rw[hc.2] at this;cases this
     refine⟨by simp [ha.n],by simpa using ha.m.tok (b0:= .grow e c m) hb hnm,?_⟩;simp only[aTi];refine DH (KR (KQ g w _ _) ha.args) (V8 (g:=g) (g':=uS g (a.ws.reverse++[.tok k])) (k':=some a.n) rfl hc.1 (fun _ _=>⟨_,rfl⟩) hs (fun c' e1=>?_) (fun e1=>by cases e1));cases e1;refine⟨_,rfl,fun n u hu=>?_⟩;show zL g (a.ws.reverse++[rJ.tok k])[a.n]? n=some u;rw[ha.n,aSM (aSW _),aT7];exact hu
    .cases h
   |cells=>simp [BY] at h
   |row=>simp [BY] at h
   |map=>simp [BY] at h
   |iter=>simp [BY] at h
   |dead=>simp [BY] at h
 .rename_i t os i o k;obtain⟨p,hp,hv⟩:=wZ hs.1;obtain⟨h1,more,h2,h3,h4⟩:=aA1 hH ha hp h;refine⟨h1.n,h1.m,?_⟩;rw[h3];simp only[aTi];exact DH h1.args ⟨.inr ⟨rfl,_,h4,by rw[hv];rfl⟩,trivial⟩
 .rename_i i k;cases hb:pY H i with
  |none=>rw[hb] at h;simp [BZ] at h
  |some b=>
   rw[hb] at h;cases b with
   |map s t l=>
    simp only[BZ] at h;split at h
    .rename_i hc;simp only[aSV,aTg] at hc;simp only[aSC] at h;subst h;have hnm:i∉s7 a.ws.reverse:=fun hmem=>by
      have:=G3.2 ((QB _ _).1 hmem);rw[hc.2] at this;cases this
     refine⟨by simp [ha.n],by simpa using ha.m.tok (b0:= .map s t l) ⟨hb,hc.1.1,hc.1.2⟩ hnm,?_⟩;simp only[aTi];obtain⟨p,hp,hv⟩: ∃p,g.J i=some p/\v= .map (some p.1):=by
      obtain⟨p,h1,e⟩:=wX rfl hs.1;simp only[aTk,and_true] at e;exact⟨p,h1,e⟩
     refine DH (KR (KQ g w _ _) ha.args) ⟨.inr ⟨rfl,p,?_,by rw[hv]⟩,trivial⟩;show uR g (a.ws.reverse++[rJ.tok i])[a.n]? =_;rw[ha.n,aSM (aSW _),aT7];exact hp
    .cases h
   |cells=>simp [BZ] at h
   |row=>simp [BZ] at h
   |grow=>simp [BZ] at h
   |iter=>simp [BZ] at h
   |dead=>simp [BZ] at h
 .rename_i k n k';cases hb:pY H k with
  |none=>rw[hb] at h;simp [xG] at h
  |some b=>
   rw[hb] at h;cases b with
   |row e t l m=>
    simp only[xG] at h;split at h
    .rename_i hc;simp only[aSV,aTg] at hc;simp only[aSC] at h;subst h;have hnm:k∉s7 a.ws.reverse:=fun hmem=>by
      have:=G3.2 ((QB _ _).1 hmem);rw[hc.2] at this;cases this
     refine⟨by simp [ha.n],by simpa using ha.m.tok (b0:= .row e t l m) ⟨hb,hc.1⟩ hnm,?_⟩;simp only[aTi];obtain⟨h1,h2⟩:=hs.1;refine DH (KR (KQ g w _ _) ha.args) ⟨⟨?_,h2⟩,trivial⟩;show zL g (a.ws.reverse++[rJ.tok k])[a.n]? n=_;rw[ha.n,aSM (aSW _),aT7];exact h1
    .cases h
   |cells=>simp [xG] at h
   |grow e c m=>
    simp only[xG] at h;split at h
    .rename_i hc;simp only[aTg] at hc;simp only[aSC] at h;subst h;have hnm:k∉s7 a.ws.reverse:=fun hmem=>by
      have:=G3.2 ((QB _ _).1 hmem);rw[hc] at this;cases this
     refine⟨by simp [ha.n],by simpa using ha.m.tok (b0:= .grow e c m) hb hnm,?_⟩;simp only[aTi];obtain⟨h1,h2⟩:=hs.1;refine DH (KR (KQ g w _ _) ha.args) ⟨⟨?_,h2⟩,trivial⟩;show zL g (a.ws.reverse++[rJ.tok k])[a.n]? n=_;rw[ha.n,aSM (aSW _),aT7];exact h1
    .cases h
   |map=>simp [xG] at h
   |iter=>simp [xG] at h
   |dead=>simp [xG] at h
 .rename_i ks f cs k';obtain⟨vs,hv1,hv2⟩: ∃vs,y7 g cs vs/\v= .func (.func f) #[] vs.toArray:=by
   rcases hs.1 with⟨h1,_⟩ |⟨_,vs,h2,h3⟩
   .cases h1
   simp only[aTk,and_true] at h3;exact⟨vs,h2,h3⟩
  obtain⟨z1,ids',z2,_,z4⟩:=aA3 hH (ids:=[]) (a:=a) (us:=[]) ha hv1 rfl h;refine⟨z1.n,z1.m,?_⟩;rw[z2];simp only[aTi];exact DH z1.args ⟨.inr ⟨rfl,vs,by simpa using z4,by rw[hv2]⟩,trivial⟩
 .rename_i i o k;obtain⟨p,hp,hv⟩:=wZ hs.1;rw[a0N,List.append_nil] at h;cases hc:CT i o a.ws.reverse 0 with
  |none=>rw[hc] at h;cases h
  |some q=>
   obtain⟨c,q⟩:=q;rw[hc] at h;simp only[P7,aSC] at h;subst h;obtain⟨d,u,x,toks,oc,rfl,h2,rfl⟩:=N8 hc;refine⟨ha.n,ha.m,?_⟩;simp only[aTi];refine DH ha.args ⟨.inr ⟨rfl,⟨p.1,p.2+oc,p.3⟩,?_,by rw[hv];simp [aTj]⟩,trivial⟩;show uR g a.ws.reverse[0+d]? =_;rw[aTa,h2];simp [uR,hp]
 cases h
def aA5 {g:Gh}{w:pM}{H:rX}(hH:s5 g w H): ∀{ps:List PK}{ss:List pW}{vs vals:pI}{a a':sQ},BK g w H vals a->vD g w ss vs->xJ H ps ss (some a)=some a'->BK g w H (vals++vs) a'
 |[],[],vs,vals,a,a',ha,hs,h=>by
  simp only[xJ,aSC] at h;subst h;rw[show vs=[] from hs,List.append_nil];exact ha
 |p::ps,s::ss,vs,vals,a,a',ha,⟨v,vs',e,h1,h2⟩,h=>by
  simp only[xJ] at h;cases ho:xI H a p s with
  |none=>rw[ho] at h;cases ps<;>cases ss<;>simp [xJ] at h
  |some a1=>
   rw[ho] at h;have:=aA5 hH (aA4 hH ha h1 ho) h2 h;rw[e];simpa using this
 |[],_::_,_,_,_,_,_,_,h=>by simp [xJ] at h
 |_::_,[],_,_,_,_,_,_,h=>by simp [xJ] at h
def BK.nil (g:Gh) (w:pM) (H:rX):BK g w H [] ⟨[],[],[],0⟩:=
 ⟨rfl,⟨rfl,fun c wh b h _=>by simp at h,by simp [s7]⟩,rfl⟩
def aA6: ∀(l:List pV) (n:Nat),HK l n=l[n]?
 |[],_=>by simp [HK]
 |_::_,0=>rfl
 |_::r,n+1=>by simpa[HK] using aA6 r n
def aKh {g:Gh}{w:pM}: ∀{t:Ty}{x:t.den}{cs:pI}{o:Nat}{y:pJ},Rd g w t x cs->C0 t x o=some y->∃cs',BG g y cs':=by
 intro t
 induction t with
 |pair a b iha ihb=>
  intro x cs o y r h;obtain⟨c1,c2,_,r1,r2⟩:=r;simp only[C0] at h;split at h
  .exact iha r1 h
  .exact ihb r2 h
 |rl e u=>
  intro x cs o y r h;cases o with
  |zero=>simp only[C0,aSC] at h;subst h;exact⟨cs,r⟩
  |succ o=>simp [C0] at h
 |_=>intro x cs o y r h;cases o<;>simp [C0] at h
def aKi {g:Gh}{w:pM}{H:rX}(hH:s5 g w H) {vals:pI}{a:sQ}(ha:BK g w H vals a) (c q:Nat) (pk:PK): ∃v,rH g w (JT q pk (HK a.H c)) v:=by
 rw[aA6];have any: ∃v,rH g w (.any,none) v:=⟨undef,trivial,trivial⟩;cases hb:a.H[c]? with
 |none=>cases pk<;>exact any
 |some b=>
  cases b with
  |cells t y ts=>
   have hlt:c<a.H.length:=(aSR.1 hb).1;have hb':a.H.reverse[a.H.length-1-c]? =some (.cells t y ts):=by
    rw[List.getElem?_reverse pB,show a.H.length-1- (a.H.length-1-c)=c by omega];exact hb
   obtain⟨wh,hwh⟩: ∃wh,a.ws.reverse[a.H.length-1-c]? =some wh:=by
    have hl:=ha.m.len;simp only[List.length_reverse] at hl;exact⟨_,aSK (by rw[List.length_reverse];omega)⟩
   have hw:=ha.m.ok _ wh _ hwh hb';cases wh with
   |tok k=>exact hw.elim
   |box i u x toks off=>
    obtain⟨h1,h2,_⟩:=hw;obtain⟨p,cs,hp,hR,_⟩:=hH.blk i _ h1;obtain⟨c1,c2,c3,hcs,hl,hR2⟩:=BH hR h2;cases pk with
    |p t' os=>
     simp only[JT];cases hg:qT .ref t y q with
     |none=>exact any
     |some z=>
      cases z with
      |none=>exact any
      |some z=>
       obtain⟨d1,d2,d3,_,_,hR3⟩:=BH hR2 hg;obtain⟨p',hp',e⟩:=hR3;exact⟨_,.inr ⟨rfl,p',hp',rfl⟩,trivial⟩
    |m=>
     simp only[JT];cases hg:qT .mp t y q with
     |none=>exact any
     |some z=>
      cases z with
      |none=>exact any
      |some z=>
       obtain⟨d1,d2,d3,_,_,hR3⟩:=BH hR2 hg;obtain⟨p',hp',e⟩:=hR3;exact⟨_,.inr ⟨rfl,p',hp',rfl⟩,trivial⟩
    |v=>exact any
    |own=>exact any
    |f ks=>exact any
    |q=>exact any
    |r=>
     simp only[JT];cases hg:C0 t y q with
     |none=>exact any
     |some z=>
      cases z with
      |none=>exact any
      |some z=>
       obtain⟨cs',hR3⟩:=aKh hR2 hg;obtain⟨v,hv,_,hsh⟩:=hR3;exact⟨v,⟨hv,hsh⟩,trivial⟩
  |_=>cases pk<;>exact any
def aA7 {g:Gh}{w:pM}{H:rX}(hH:s5 g w H) {vals:pI}: ∀{gs:List (Nat×Nat×PK)}{a a':sQ},BK g w H vals a->B9 H gs (some a)=some a'->BK g w H vals a'
 |[],a,a',ha,h=>by
  simp only[B9,aSC] at h;subst h;exact ha
 |(c,q,pk)::gs,a,a',ha,h=>by
  simp only[B9] at h;obtain⟨v,hv⟩:=aKi hH ha (a.n-1-c) q pk;cases hp:xI H a pk (JT q pk (HK a.H (a.n-1-c))) with
  |none=>
   rw[hp] at h;simp only[MP] at h;cases gs<;>simp [B9] at h
  |some b=>
   rw[hp] at h;simp only[MP] at h;have hb:=aA4 hH ha hv hp;refine aA7 hH (a:=⟨a.args,b.H,b.ws,b.n⟩) ⟨hb.n,hb.m,?_⟩ h;obtain⟨s,more,e1,e2⟩: ∃s more,b.args=s::a.args/\b.ws.reverse=a.ws.reverse++more:=by
    have hp':=hp;unfold xI at hp';split at hp'
    .simp only[SY,aSC] at hp';subst hp';exact⟨_,[],rfl,by simp⟩
    .simp only[SX] at hp';split at hp'
     .simp only[aSC] at hp';subst hp';exact⟨_,[],rfl,by simp⟩
     cases hp'
    .simp only[SZ,aSC] at hp';subst hp';exact⟨_,[],rfl,by simp⟩
    .unfold BY at hp';split at hp'
     .split at hp'
      .simp only[aSC] at hp';subst hp';exact⟨_,[_],rfl,aTi ..⟩
      cases hp'
     cases hp'
    .unfold vQ at hp';split at hp'
     .unfold EJ at hp';split at hp'
      .split at hp'
       .obtain⟨ks,bs,_,_,h3,_,h5,_⟩:=VF hp';exact⟨_,_,h3,by rw[h5];simp only[aTi];exact aSN ..⟩
       cases hp'
      cases hp'
     cases hp'
    .unfold BZ at hp';split at hp'
     .split at hp'
      .simp only[aSC] at hp';subst hp';exact⟨_,[_],rfl,aTi ..⟩
      cases hp'
     cases hp'
    .unfold xG at hp';split at hp'
     .split at hp'
      .simp only[aSC] at hp';subst hp';exact⟨_,[_],rfl,aTi ..⟩
      cases hp'
     .split at hp'
      .simp only[aSC] at hp';subst hp';exact⟨_,[_],rfl,aTi ..⟩
      cases hp'
     cases hp'
    .exact aA2 hp'
    .unfold P7 at hp';split at hp'
     .simp only[aSC] at hp';subst hp';exact⟨_,[],rfl,by simp⟩
     cases hp'
    cases hp'
   rw[e2];exact KR (KQ g w _ _) ha.args
def aKj {b:Option pV}{l:Option (List pV)}{r:List pV}(h:YF b l=some r): ∃b' l',b=some b'/\l=some l'/\r=b'::l':=by
 cases b<;>cases l<;>simp [YF] at h
 exact⟨_,_,rfl,rfl,h.symm⟩
def aA8 {W:List rJ}: ∀{L0 L:List pV},HL W L0=some L->L.length=L0.length/\∀(c:Nat) (b:pV),L[c]? =some b->∃b0,L0[c]? =some b0/\JU W b0=some b
 |[],L,h=>by
  simp only[HL,aSC] at h;subst h;exact⟨rfl,fun c b h=>by simp at h⟩
 |b0::L0,L,h=>by
  simp only[HL] at h;obtain⟨b',l',h1,h2,rfl⟩:=aKj h;obtain⟨k1,k2⟩:=aA8 h2;refine⟨by simp [k1],fun c b hc=>?_⟩;cases c with
  |zero=>simp only[aTf,aSC] at hc;subst hc;exact⟨b0,rfl,h1⟩
  |succ c=>obtain⟨b1,q1,q2⟩:=k2 c b (by simpa using hc);exact⟨b1,by simpa using q1,q2⟩
def G2.ren {H:rX}{ws:List rJ}{L0 L:List pV}(h:G2 H ws L0) (hc:HL ws L0=some L):QA H ws L:=by
 obtain⟨k1,k2⟩:=aA8 hc;refine⟨h.len.trans k1.symm,fun c wh b hw hb=>?_,h.nodup⟩;obtain⟨b0,q1,q2⟩:=k2 c b hb;have hok:=h.ok c wh b0 hw q1;cases b0 with
 |cells t y ts=>
  cases wh with
  |tok k=>exact hok.elim
  |box i u x toks o=>
   obtain⟨h1,h2,h3⟩:=hok;simp only[JU] at q2;split at q2
   .rename_i hp;obtain rfl:=aSG q2;exact⟨h1,⟨y,h2,.inl ⟨hp,rfl⟩⟩,h3⟩
   .cases hy:C1 ws t y with
    |none=>rw[hy] at q2;cases q2
    |some z=>
     rw[hy] at q2;obtain rfl:=aSG q2;exact⟨h1,⟨y,h2,.inr hy⟩,h3⟩
 |_=>
  simp only[JU,aSC] at q2;subst q2;cases wh<;>exact hok
theorem zM: ∀(W:List rJ) (c:Nat),yR W c=W[c]?
  |[],c=>by simp [yR]
  |_::_,0=>rfl
  |_::W,c+1=>by simpa[yR] using zM W c
theorem aA9: ∀L:List pV,qU L=L.length
  |[]=>rfl
  |_::L=>by simp [qU,aA9 L]
theorem aBa {α:Type}: ∀(l acc:List α),yQ l acc=l.reverse++acc
  |[],_=>rfl
  |x::l,acc=>by simp [yQ,aBa l]
theorem a0O {a:Option (Nat×pV)}{b:Option (List (Nat×pV))}{l:List (Nat×pV)}(h:PA a b=some l): ∃q r,a=some q∧b=some r∧l=q::r:=by
  cases a<;>cases b<;>simp [PA] at h
  exact⟨_,_,rfl,rfl,h.symm⟩
def I4 (base n:Nat) (W ws:List rJ) (R:List pV) (c0:Nat) (id:Nat) (b:pV):Prop:=
  (∃(c:Nat) (i:Nat) (u:Ty) (x:u.den) (toks:pG) (o:Nat) (b0:pV),ws[c]? =some (.box i u x toks o)∧id=i∧R[c]? =some b0∧xK base n i o W u x toks b0=some (i,b))∨
  (∃(c k:Nat) (b0:pV),ws[c]? =some (.tok k)∧id=k∧R[c]? =some b0∧w6 k b0=some (k,b))∨
  (∃(c:Nat) (b0:pV),R[c]? =some b0∧id=base+(c0+c)∧ws[c]? =none∧y5 base n (c0+c) W b0=some (id,b))
theorem I4.succ {base n:Nat}{W:List rJ}{wh:rJ}{ws:List rJ}{b0:pV}{R:List pV}{c0 id:Nat}{b:pV}(h:I4 base n W ws R (c0+1) id b):I4 base n W (wh::ws) (b0::R) c0 id b:=by
  rcases h with⟨c,i,u,x,toks,o,b1,h1,h2,h3,h4⟩ |⟨c,k,b1,h1,h2,h3,h4⟩ |⟨c,b1,h1,h2,h3,h4⟩
  .exact .inl ⟨c+1,i,u,x,toks,o,b1,by simpa using h1,h2,by simpa using h3,h4⟩
  .exact .inr (.inl ⟨c+1,k,b1,by simpa using h1,h2,by simpa using h3,h4⟩)
  exact .inr (.inr ⟨c+1,b1,by simpa using h1,by rw[h2];omega,by simpa using h3,by rw[show c0+(c+1)=c0+1+c from by omega];exact h4⟩)
theorem I4.succ0 {base n:Nat}{W:List rJ}{b0:pV}{R:List pV}{c0 id:Nat}{b:pV}(h:I4 base n W [] R (c0+1) id b):I4 base n W [] (b0::R) c0 id b:=by
  rcases h with⟨c,i,u,x,toks,o,b1,h1,_⟩ |⟨c,k,b1,h1,_⟩ |⟨c,b1,h1,h2,h3,h4⟩
  .simp at h1
  .simp at h1
  exact .inr (.inr ⟨c+1,b1,by simpa using h1,by rw[h2];omega,by simp,by rw[show c0+(c+1)=c0+1+c from by omega];exact h4⟩)
theorem aBb {i:Nat}{t:Ty}{ts:pG}{o:Option t.den}{q:Nat×pV}(h:a9v i t ts o=some q): ∃y,o=some y∧q=(i,.cells t y ts):=by
  cases o with
  |none=>cases h
  |some y=>exact⟨y,rfl,(aSG h).symm⟩
theorem aKk {base n c:Nat}{W:List rJ}{b:pV}{q:Nat×pV}(h:y5 base n c W b=some q):q.1=base+c:=by
  cases b<;>simp only[y5] at h
  · split at h
    .exact(aSG h)▸rfl
    obtain⟨y,_,rfl⟩:=aBb h;rfl
  .exact(aSG h)▸rfl
  · split at h
    .exact(aSG h)▸rfl
    cases h
  · split at h
    .exact(aSG h)▸rfl
    cases h
  .cases h
  exact(aSG h)▸rfl
def bY (base n:Nat) (W:List rJ) (t:Ty) (x y:t.den):Prop:=(t.pure=true∧y=x)∨BA base n W t x=some y
theorem a0P {base n i o:Nat}{W:List rJ}{u t:Ty}{x:u.den}{y:t.den}{toks ts:pG}{q:Nat×pV}(h:xK base n i o W u x toks (.cells t y ts)=some q):
    ∃y2 z,bY base n W t y y2∧sB t y2 u x o=some z∧q=(i,.cells u z (qS (DA base n W o ts) (sZ toks o t.cells))):=by
  simp only[xK] at h;split at h
  · rename_i hp
    cases hs:sB t y u x o with
    |none=>rw[hs] at h;simp [T7] at h
    |some z=>rw[hs] at h;exact⟨y,z,.inl ⟨hp,rfl⟩,hs,(aSG h).symm⟩
  cases hy:BA base n W t y with
  |none=>rw[hy] at h;cases h
  | some y2=>
    rw[hy] at h;simp only[a9w] at h;cases hs:sB t y2 u x o with
    |none=>rw[hs] at h;simp [T7] at h
    |some z=>rw[hs] at h;exact⟨y2,z,.inr hy,hs,(aSG h).symm⟩
theorem aKl {k:Nat}{b:pV}{q:Nat×pV}(h:w6 k b=some q):q.1=k:=by
  cases b<;>simp only[w6] at h
  .cases h
  .exact(aSG h)▸rfl
  · split at h
    .exact(aSG h)▸rfl
    cases h
  · split at h
    .exact(aSG h)▸rfl
    cases h
  .cases h
  exact(aSG h)▸rfl
theorem aKm {base n i o:Nat}{W:List rJ}{u:Ty}{x:u.den}{toks:pG}{b:pV}{q:Nat×pV}(h:xK base n i o W u x toks b=some q):q.1=i:=by
  cases b with
  |cells t y ts=>obtain⟨y2,z,_,_,rfl⟩:=a0P h;rfl
  |grow=>simp [xK] at h
  |row=>simp [xK] at h
  |map=>simp [xK] at h
  |iter=>simp [xK] at h
  |dead=>simp only[xK,aSC] at h;exact h▸rfl
theorem N9 {base n:Nat}{W:List rJ}: ∀{ws:List rJ}{R:List pV}{c0:Nat}{upd:List (Nat×pV)},BB base n W c0 ws R=some upd→
    ws.length≤R.length∧(∀id b,pY upd id=some b→I4 base n W ws R c0 id b)∧(∀id,id∈q9 upd→∃b,pY upd id=some b)∧
    (∀(c:Nat) wh,ws[c]? =some wh→wh.id∈q9 upd)∧(∀(c:Nat) b,R[c]? =some b→ws[c]? =none→base+(c0+c)∈q9 upd)
  | [],[],_,upd,h=>by
    simp only[BB,aSC] at h;subst h;exact⟨aSW _,fun _ _ h=>by simp [pY] at h,fun _ h=>by simp [q9] at h,fun _ _ h=>by simp at h,fun _ _ h=>by simp at h⟩
  | [],b::R,c0,upd,h=>by
    simp only[BB] at h;obtain⟨q,r,h1,h2,rfl⟩:=a0O h;obtain⟨k1,k2,k3,k4,k5⟩:=N9 h2;have hq:=aKk h1;obtain⟨q1,q2⟩:=q;simp only at hq;subst hq;refine⟨by simp,fun id b' hg=>?_,fun id hi=>?_,fun c wh hw=>by simp at hw,fun c b' hb hn=>?_⟩
    · simp only[pY] at hg
      split at hg
      · rename_i e
        obtain rfl:=aSG hg;subst e;exact .inr (.inr ⟨0,b,rfl,rfl,by simp,h1⟩)
      exact(k2 id b' hg).succ0
    · simp only[pY]
      by_cases e:base+c0=id
      .rw[aSB e];exact⟨_,rfl⟩
      rw[aSD e]
      simp only[q9,aSP] at hi;exact k3 id (hi.resolve_left (Ne.symm e))
    · cases c with
      |zero=>simp [q9]
      | succ c=>
        have:=k5 c b' (by simpa using hb) pD;simp only[q9,aSP];right;rw[show base+(c0+(c+1))=base+(c0+1+c) from by omega];exact this
  | .box i u x toks o::ws,[],c0,upd,h=>by simp [BB] at h
  | .tok k::ws,[],c0,upd,h=>by simp [BB] at h
  | .box i u x toks o::ws,b::R,c0,upd,h=>by
    simp only[BB] at h;obtain⟨q,r,h1,h2,rfl⟩:=a0O h;obtain⟨k1,k2,k3,k4,k5⟩:=N9 h2;have hq:=aKm h1;obtain⟨q1,q2⟩:=q;simp only at hq;subst hq;refine⟨by simp;omega,fun id b' hg=>?_,fun id hi=>?_,fun c wh hw=>?_,fun c b' hb hn=>?_⟩
    · simp only[pY] at hg
      split at hg
      · rename_i e
        obtain rfl:=aSG hg;subst e;exact .inl ⟨0,q1,u,x,toks,o,b,rfl,rfl,rfl,h1⟩
      exact(k2 id b' hg).succ
    · simp only[pY]
      by_cases e:q1=id
      .rw[aSB e];exact⟨_,rfl⟩
      rw[aSD e]
      simp only[q9,aSP] at hi;exact k3 id (hi.resolve_left (Ne.symm e))
    · cases c with
      |zero=>simp only[aTf,aSC] at hw;subst hw;simp [q9,rJ.id]
      |succ c=>simp only[q9,aSP];exact .inr (k4 c wh (by simpa using hw))
    · cases c with
      |zero=>simp at hn
      | succ c=>
        have:=k5 c b' (by simpa using hb) (by simpa using hn);simp only[q9,aSP];right;rw[show base+(c0+(c+1))=base+(c0+1+c) from by omega];exact this
  | .tok k::ws,b::R,c0,upd,h=>by
    simp only[BB] at h;obtain⟨q,r,h1,h2,rfl⟩:=a0O h;obtain⟨k1,k2,k3,k4,k5⟩:=N9 h2;have hq:=aKl h1;obtain⟨q1,q2⟩:=q;simp only at hq;subst hq;refine⟨by simp;omega,fun id b' hg=>?_,fun id hi=>?_,fun c wh hw=>?_,fun c b' hb hn=>?_⟩
    · simp only[pY] at hg
      split at hg
      · rename_i e
        obtain rfl:=aSG hg;subst e;exact .inr (.inl ⟨0,q1,b,rfl,rfl,rfl,h1⟩)
      exact(k2 id b' hg).succ
    · simp only[pY]
      by_cases e:q1=id
      .rw[aSB e];exact⟨_,rfl⟩
      rw[aSD e]
      simp only[q9,aSP] at hi;exact k3 id (hi.resolve_left (Ne.symm e))
    · cases c with
      |zero=>simp only[aTf,aSC] at hw;subst hw;simp [q9,rJ.id]
      |succ c=>simp only[q9,aSP];exact .inr (k4 c wh (by simpa using hw))
    cases c with
    |zero=>simp at hn
    | succ c=>
      have:=k5 c b' (by simpa using hb) (by simpa using hn);simp only[q9,aSP];right;rw[show base+(c0+(c+1))=base+(c0+1+c) from by omega];exact this
def tH (g g':Gh) (base:Nat) (W:List rJ) (ids:pL):Gh:=
  ⟨g'.S,fun i=>if base≤i∧i∈ids then g'.J (i-base) else match vR i W 0 with|some c=>g'.J c|none=>g.J i,
   fun i=>if base≤i∧i∈ids then g'.cur (i-base) else match vR i W 0 with|some c=>g'.cur c|none=>g.cur i⟩
theorem QC {n c:Nat}{wh:Option rJ}:MQ n c wh=true↔c<n∧wh=none:=by
  cases wh with
  |none=>simp [MQ]
  |some wh=>simp [MQ]
theorem aKn {base n c i:Nat}{wh:Option rJ}(h:zF base n c wh=some i):wh=some (.tok i)∨(wh=none∧c<n∧i=base+c):=by
  cases wh with
  | none=>
    simp only[zF] at h;split at h
    .rename_i hc;exact .inr ⟨rfl,hc,(aSG h).symm⟩
    .cases h
  | some wh=>
    cases wh with
    |box=>cases h
    |tok k=>simp only[zF,aSC] at h;subst h;exact .inl rfl
theorem VG {i:Nat}: ∀{ws:List rJ}{c0:Nat},(∀c:Nat,ws[c]? ≠some (.tok i))→vR i ws c0=none
  |[],_,_=>rfl
  | .tok j::r,c0,h=>by
    simp only[vR];split
    .rename_i e;subst e;exact absurd rfl (h 0)
    .exact VG (fun c=>by have:=h (c+1);simpa using this)
  | .box _ _ _ _ _::r,c0,h=>by
    simp only[vR];exact VG (fun c=>by have:=h (c+1);simpa using this)
theorem aKo {i c:Nat}{ws:List rJ}(hnd:(s7 ws).Nodup) (h:ws[c]? =some (.tok i)):vR i ws 0=some c:=by
  cases hc:vR i ws 0 with
  | none=>
    exfalso
    have: ∀{ws:List rJ}{c0 c:Nat},ws[c]? =some (.tok i)→vR i ws c0≠none:=by
      intro ws
      induction ws with
      |nil=>intro c0 c h;simp at h
      | cons wh r ih=>
        intro c0 c h;cases c with
        | zero=>
          simp only[aTf,aSC] at h;subst h;simp [vR]
        | succ c=>
          simp only[aTp] at h;cases wh with
          |box=>exact ih h
          | tok j=>
            simp only[vR];split
            .simp
            exact ih h
    exact this h hc
  | some d=>
    obtain⟨d',e1,h2⟩:=I2 hc;rw[aTa] at e1;subst e1;rw[VE hnd h h2 rfl]
theorem Fr.mono {A B:Nat→Nat→Prop}{w w':pM}{S S':Nat→Nat→Prop}(h:Fr A w w' S S') (hAB: ∀b o,A b o→B b o):Fr B w w' S S':=
  ⟨h.os,h.tape,h.output,h.size,fun b hb hn=>h.blk b hb (fun o ho=>hn o (hAB b o ho)),fun b o hb hn=>h.cell b o hb (fun ho=>hn (hAB b o ho)),fun b o hs=>(h.new b o hs).imp id (Or.imp id (hAB b o)),fun b s hs=>(h.shape b s hs).imp id fun h o=>hAB b o (h o)⟩
theorem VH {base n:Nat}{W:List rJ}{o:Nat}: ∀{ts:pG}{q k:Nat},(q,k)∈DA base n W o ts→∃q' c,(q',c)∈ts∧zF base n c (yR W c)=some k∧q=o+q'
  |[],_,_,h=>by simp [DA] at h
  | (q',c)::r,q,k,h=>by
    simp only[DA] at h;cases hn:zF base n c (yR W c) with
    | none=>
      rw[hn] at h;obtain⟨a,b,h1,h2⟩:=VH h;exact⟨a,b,aSQ _ h1,h2⟩
    | some k'=>
      rw[hn] at h;rcases aSP.1 h with h|h
      · simp only[aS7] at h
        obtain⟨rfl,rfl⟩:=h;exact⟨q',c,by simp,hn,rfl⟩
      obtain⟨a,b,h1,h2⟩:=VH h
      exact⟨a,b,aSQ _ h1,h2⟩
theorem wH {α:Type}{x:α}: ∀{l m:List α},x∈qS l m↔x∈l∨x∈m
  |[],m=>by simp [qS]
  |y::l,m=>by simp [qS,wH (l:=l),or_assoc]
theorem a0Q: ∀{toks:pG}{off n q k:Nat},(q,k)∈sZ toks off n→(q,k)∈toks∧¬(off≤q∧q<off+n)
  |[],_,_,_,_,h=>by simp [sZ] at h
  | (q',k')::r,off,n,q,k,h=>by
    simp only[sZ] at h;split at h
    · obtain⟨h1,h2⟩:=a0Q h
      exact⟨aSQ _ h1,h2⟩
    rename_i hn
    rcases aSP.1 h with h|h
    · cases h
      exact⟨by simp,hn⟩
    obtain⟨h1,h2⟩:=a0Q h
    exact⟨aSQ _ h1,h2⟩
section
variable {g g':Gh}{w w':pM}{H:rX}{W:List rJ}{L:List pV}{r:qH}{v:pN}{base:Nat}{upd:List (Nat×pV)}
variable (hH:s5 g w H) (hm:QA H W L) (hr:EV (uS g W) w L r g' w' v) (hb:BB base r.H.length W 0 W r.H=some upd) (hf: ∀i,i∈q9 upd→base≤i→g.J i=none∧∀n,g.cur i n=none)
include hH hm hr hb hf
theorem DI {c:Nat}{wh:rJ}(hw:W[c]? =some wh):wh.id∈q9 upd∧wh.id<base∧∃b,L[c]? =some b∧VC H W wh b:=by
  have hin:=(N9 hb).2.2.2.1 c wh hw;have hlt:c<L.length:=hm.len▸(aSR.1 hw).1;have hok:=hm.ok c wh _ hw (aSK hlt);refine⟨hin,Nat.lt_of_not_le fun hle=>?_,_,aSK hlt,hok⟩;have hfr:=hf _ hin hle;cases wh with
  | box i u x toks o=>
    cases hL:L[c] with
    | cells t y ts=>
      rw[hL] at hok;obtain⟨p,cs,hp,_⟩:=hH.blk i _ hok.1;rw[show (rJ.box i u x toks o).id=i from rfl] at hfr;rw[hfr.1] at hp;cases hp
    |_=>rw[hL] at hok;exact hok.elim
  | tok k=>
    cases hL:L[c] with
    | grow e cc m=>
      rw[hL] at hok;obtain⟨v,xs,hv,_⟩:=hH.blk k _ hok;rw[show (rJ.tok k).id=k from rfl] at hfr;rw[hfr.2] at hv;cases hv
    | map s t l=>
      rw[hL] at hok;obtain⟨p,es,cl,hp,_⟩:=hH.blk k _ hok.1;rw[show (rJ.tok k).id=k from rfl] at hfr;rw[hfr.1] at hp;cases hp
    | row e t l m=>
      rw[hL] at hok;obtain⟨_,v,xs,hv,_⟩:=hH.blk k _ hok.1;rw[show (rJ.tok k).id=k from rfl] at hfr;rw[hfr.2] at hv;cases hv
    |_=>rw[hL] at hok;exact hok.elim
theorem aKp {c:Nat}(hc:c<r.H.length) (hn:W[c]? =none):base+c∈q9 upd:=by
  have:=(N9 hb).2.2.2.2 c _ (aSK hc) hn;simpa using this
theorem KS {c:Nat}(hc:c<r.H.length) (hn:W[c]? =none):(tH g g' base W (q9 upd)).J (base+c)=g'.J c∧(tH g g' base W (q9 upd)).cur (base+c)=g'.cur c:=by
  have hin:=aKp hH hm hr hb hf hc hn;refine⟨?_,?_⟩
  · show (if base≤base+c∧base+c∈q9 upd then _ else _)=_
    rw[aSB ⟨pB,hin⟩,aTr]
  show (if base≤base+c∧base+c∈q9 upd then _ else _)=_
  rw[aSB ⟨pB,hin⟩,aTr]
theorem aBc {i:Nat}(hi: ¬(base≤i∧i∈q9 upd)) (hn:vR i W 0=none):(tH g g' base W (q9 upd)).J i=g.J i∧(tH g g' base W (q9 upd)).cur i=g.cur i:=by
  refine⟨?_,?_⟩
  · show (if base≤i∧i∈q9 upd then _ else _)=_
    rw[aSD hi,hn]
  show (if base≤i∧i∈q9 upd then _ else _)=_
  rw[aSD hi,hn]
theorem aBd {c k:Nat}(hw:W[c]? =some (.tok k)):(tH g g' base W (q9 upd)).J k=g'.J c∧(tH g g' base W (q9 upd)).cur k=g'.cur c:=by
  have hlt:=(DI hH hm hr hb hf hw).2.1;simp only[rJ.id] at hlt;have hc:=aKo hm.nodup hw;refine⟨?_,?_⟩
  · show (if base≤k∧k∈q9 upd then _ else _)=_
    rw[aSD pB,hc]
  show (if base≤k∧k∈q9 upd then _ else _)=_
  rw[aSD pB,hc]
theorem NA {c i:Nat}{u:Ty}{x:u.den}{toks:pG}{o:Nat}(hw:W[c]? =some (.box i u x toks o)):(tH g g' base W (q9 upd)).J i=g.J i∧(tH g g' base W (q9 upd)).cur i=g.cur i:=by
  have hlt:=(DI hH hm hr hb hf hw).2.1;simp only[rJ.id] at hlt;refine aBc hH hm hr hb hf pB (VG fun d hd=>?_);have:=VE hm.nodup hw hd rfl;subst this;rw[hw] at hd;cases hd
theorem G4 {c i:Nat}(hi:zF base r.H.length c W[c]? =some i):(tH g g' base W (q9 upd)).J i=g'.J c∧(tH g g' base W (q9 upd)).cur i=g'.cur c:=by
  rcases aKn hi with h|⟨h1,h2,rfl⟩
  .exact aBd hH hm hr hb hf h
  exact KS hH hm hr hb hf h2 h1
theorem aBe:Le g w (tH g g' base W (q9 upd)) w':=by
  have len: ∀{i c:Nat},vR i W 0=some c→W[c]? =some (.tok i)∧c<L.length:=by
    intro i c h;obtain⟨d,e1,h2⟩:=I2 h;rw[aTa] at e1;subst e1;exact⟨h2,hm.len▸(aSR.1 h2).1⟩
  refine⟨fun b o h=>(hr.shut b o h).1,fun b o h=>(hr.shut b o h).2,fun i p h=>?_,fun i n u h=>?_⟩
  · show (if base≤i∧i∈q9 upd then _ else _)=_
    rw[aSD (fun⟨h1,h2⟩=>by rw[(hf i h2 h1).1] at h;cases h)];cases hc:vR i W 0 with
    |none=>exact h
    | some c=>
      obtain⟨h1,h2⟩:=len hc;refine hr.Jt c p h2 ?_;show uR g W[c]? =_;rw[h1];exact h
  show (if base≤i∧i∈q9 upd then g'.cur (i-base) else match vR i W 0 with|some c=>g'.cur c|none=>g.cur i) n=_
  rw[aSD (fun⟨h1,h2⟩=>by rw[(hf i h2 h1).2] at h;cases h)];cases hc:vR i W 0 with
  |none=>exact h
  | some c=>
    obtain⟨h1,h2⟩:=len hc;refine hr.cur c n u h2 ?_;show zL g W[c]? n=_;rw[h1];exact h
theorem aKq {t:Ty}{x y:t.den}{cs:pI}(hx:Rd g' w' t x cs) (h:BA base r.H.length W t x=some y):Rd (tH g g' base W (q9 upd)) w' t y cs:=by
  refine VD (g:=g') (g':=tH g g' base W (q9 upd)) rfl (BA base r.H.length W) (fun a b x=>rfl) (fun t x=>rfl) (fun _=>rfl) (fun _ _=>rfl) (fun _=>rfl) (fun _=>rfl) (fun _=>rfl) (fun _ _ x y cs h hx=>?_) (fun x y cs h hx=>?_) (fun x y cs h hx=>?_) (fun x y cs h hx=>?_) (fun x y cs h hx=>?_) (fun _=>rfl) hx h
  rotate_left 2
  · obtain⟨c,i,⟨k3,n3⟩,⟨k4,n4⟩⟩:=x
    simp only[BA,a9u,zM] at h;obtain⟨i',k3',k4',e1,e2,e3,rfl⟩:=aAT h;refine a0L (g:=g') (g':=tH g g' base W (q9 upd)) (fun _ _ h=>⟨h,rfl⟩) (fun p hp=>?_) (fun v hv=>?_) (fun v hv=>?_) hx
    · unfold P9 at e1
      split at e1
      · rename_i i0 uu x toks o' hwh
        simp only[aSC,aS7] at e1;obtain⟨rfl,h0⟩:=e1;obtain⟨_,hlt,b,hL,hok⟩:=DI hH hm hr hb hf hwh;cases b with
        | cells t y ts=>
          have hJ:=hr.J i t y ts hL;rw[hp] at hJ;have hJ':uR g W[i]? =some p:=hJ.symm;rw[hwh] at hJ';obtain⟨p0,hp0,rfl⟩:=aSS.1 hJ';exact⟨p0,by rw[(NA hH hm hr hb hf hwh).1];exact hp0,rfl,by simp;omega⟩
        |_=>exact hok.elim
      split at e1
      · rename_i hn
        simp only[aSC,aS7] at e1;obtain⟨rfl,-⟩:=e1;obtain⟨h1,h2⟩:=QC.1 hn;exact⟨p,by rw[(KS hH hm hr hb hf h1 h2).1];exact hp,rfl,rfl⟩
      cases e1
    .rw[(G4 hH hm hr hb hf e2).2];exact hv
    rw[(G4 hH hm hr hb hf e3).2];exact hv
  rotate_left 2
  · cases x with
    |none=>cases h;exact hx
    | some q=>
      obtain⟨c,n⟩:=q;simp only[BA,a9t,zM] at h;obtain⟨i,hi,rfl⟩:=aSS.1 h;obtain⟨v,hv,hs⟩:=hx;exact⟨v,by rw[(G4 hH hm hr hb hf hi).2];exact hv,hs⟩
  · cases x with
    |none=>cases h;exact hx
    | some q=>
      obtain⟨c,o⟩:=q;simp only[BA,JW] at h;obtain⟨p,hp,hv⟩:=hx;unfold JW.back2 at h;split at h
      · rename_i i uu x toks o' hwh
        cases h;rw[zM] at hwh;obtain⟨_,hlt,b,hL,hok⟩:=DI hH hm hr hb hf hwh;cases b with
        | cells t y ts=>
          have hJ:=hr.J c t y ts hL;rw[hp] at hJ;have hJ':uR g W[c]? =some p:=hJ.symm;rw[hwh] at hJ';obtain⟨p0,hp0,rfl⟩:=aSS.1 hJ';exact⟨p0,by rw[(NA hH hm hr hb hf hwh).1];exact hp0,by have:=hv.1;rwa [aTj] at this,hv.2.imp id fun hv=>by rw[hv];simp [aTj]⟩
        |_=>exact hok.elim
      split at h
      · rename_i hn
        cases h;obtain⟨h1,h2⟩:=QC.1 hn;rw[zM] at h2;exact⟨p,by rw[(KS hH hm hr hb hf h1 h2).1];exact hp,hv⟩
      cases h
  · cases x with
    |none=>cases h;exact hx
    | some q=>
      obtain⟨c,o⟩:=q;simp only[BA,JW] at h;obtain⟨p,hp,hv⟩:=hx;unfold JW.back2 at h;split at h
      · rename_i i uu x toks o' hwh
        cases h;rw[zM] at hwh;obtain⟨_,hlt,b,hL,hok⟩:=DI hH hm hr hb hf hwh;cases b with
        | cells t y ts=>
          have hJ:=hr.J c t y ts hL;rw[hp] at hJ;have hJ':uR g W[c]? =some p:=hJ.symm;rw[hwh] at hJ';obtain⟨p0,hp0,rfl⟩:=aSS.1 hJ';exact⟨p0,by rw[(NA hH hm hr hb hf hwh).1];exact hp0,by rw[hv];simp [aTj]⟩
        |_=>exact hok.elim
      split at h
      · rename_i hn
        cases h;obtain⟨h1,h2⟩:=QC.1 hn;rw[zM] at h2;exact⟨p,by rw[(KS hH hm hr hb hf h1 h2).1];exact hp,hv⟩
      cases h
  cases x with
  |none=>cases h;exact hx
  | some c=>
    simp only[BA,a9s,zM] at h;obtain⟨i,hi,rfl⟩:=aSS.1 h;obtain⟨p,hp,hv⟩:=hx;exact⟨p,by rw[(G4 hH hm hr hb hf hi).1];exact hp,hv⟩
theorem aBf {t:Ty}{x y:t.den}{cs:pI}(hx:Rd g' w' t x cs) (h:bY base r.H.length W t x y):Rd (tH g g' base W (q9 upd)) w' t y cs:=by
  rcases h with⟨hp,rfl⟩ |h
  .exact vT (g:=g') (g':=tH g g' base W (q9 upd)) rfl hp hx
  exact aKq hH hm hr hb hf hx h
omit hH hm hr hb hf in
theorem aBg {n:Nat}{t u:Ty}{x y:t.den}{o:Nat}{l:List u.den}(h:bY base n W t x y) (hg:qT (.list u) t x o=some l):qT (.list u) t y o=some l:=by
  rcases h with⟨_,rfl⟩ |h
  .exact hg
  exact a0K (BA base n W) (fun _ _ _=>rfl) (fun _ _=>rfl) h hg
theorem aBh: ∀(cs:pG) {l:pG}{vs:pI},y7 g' cs vs→MR base r.H.length W cs=some l→y7 (tH g g' base W (q9 upd)) l vs
  |[],l,vs,h,e=>by cases e;exact h
  | (c,o)::cs,l,vs,⟨p,vs',hp,hv,hr'⟩,e=>by
    unfold MR at e;cases h1:P9 base r.H.length c o (yR W c) with
    |none=>rw[h1] at e;cases e
    | some q=>
      cases h2:MR base r.H.length W cs with
      |none=>rw[h1,h2] at e;cases e
      | some l'=>
        rw[h1,h2] at e;cases e;refine(?_ : ∃p vs',_);have ih:=aBh cs hr' h2;unfold P9 at h1;split at h1
        · rename_i i uu x toks o' hwh
          cases h1;rw[zM] at hwh;obtain⟨_,hlt,b,hL,hok⟩:=DI hH hm hr hb hf hwh;cases b with
          | cells t y ts=>
            have hJ:=hr.J c t y ts hL;rw[hp] at hJ;have hJ':uR g W[c]? =some p:=hJ.symm;rw[hwh] at hJ';obtain⟨p0,hp0,rfl⟩:=aSS.1 hJ';exact⟨p0,vs',by rw[(NA hH hm hr hb hf hwh).1];exact hp0,by rw[hv];simp [aTj],ih⟩
          |_=>exact hok.elim
        split at h1
        · rename_i hn
          cases h1;obtain⟨h3,h4⟩:=QC.1 hn;rw[zM] at h4;exact⟨p,vs',by rw[(KS hH hm hr hb hf h3 h4).1];exact hp,hv,ih⟩
        cases h1
theorem aKr {s:pW}{u:pN}(h:rH g' w' s u):rH (tH g g' base W (q9 upd)) w' (T6 base r.H.length W s) u:=by
  obtain⟨d,k⟩:=s
  have tokk: ∀{t:Ty}(hp:t.pure=true) {x:t.den}{k:pK},(∀c,k=some c→∃u,t= .list u)→rH g' w' (.val t x,k) u→rH (tH g g' base W (q9 upd)) w' (.val t x,JV base r.H.length W k) u:=by
    intro t hp x k hl h;cases k with
    |none=>exact V8 (g:=g') (g':=tH g g' base W (q9 upd)) (k:=none) (k':=none) rfl hp (fun c e=>by cases e) h (fun c e=>by cases e) (fun _=>rfl)
    | some c=>
      simp only[JV,zM];cases hn:zF base r.H.length c W[c]? with
      | some i=>
        refine V8 (g:=g') (g':=tH g g' base W (q9 upd)) (k:=some c) (k':=some i) rfl hp hl h (fun c' e=>?_) (fun e=>by cases e);cases e;refine⟨_,rfl,fun n u hu=>?_⟩;rw[(G4 hH hm hr hb hf hn).2];exact hu
      | none=>
        exact V8 (g:=g') (g':=tH g g' base W (q9 upd)) (k:=none) (k':=none) rfl hp (fun c e=>by cases e) ⟨h.1,trivial⟩ (fun c e=>by cases e) (fun _=>rfl)
  unfold T6;split
  · rename_i c m k' heq
    simp only[aS7] at heq;obtain⟨rfl,rfl⟩:=heq;simp only[JV,zM];cases hn:zF base r.H.length c W[c]? with
    | some i=>
      obtain⟨h3,h4⟩:=h.1;exact⟨⟨by rw[(G4 hH hm hr hb hf hn).2];exact h3,h4⟩,trivial⟩
    |none=>exact⟨trivial,trivial⟩
  · rename_i c o k' heq
    simp only[aS7] at heq;obtain⟨rfl,rfl⟩:=heq;obtain⟨p,hp,hv⟩:=wZ h.1;unfold a9r;split
    · rename_i i uu x toks o' hwh
      rw[zM] at hwh;obtain⟨_,hlt,b,hL,hok⟩:=DI hH hm hr hb hf hwh;cases b with
      | cells t y ts=>
        have hJ:=hr.J c t y ts hL;rw[hp] at hJ;have hJ':uR g W[c]? =some p:=hJ.symm;rw[hwh] at hJ';obtain⟨p0,hp0,rfl⟩:=aSS.1 hJ';refine⟨.inr ⟨rfl,p0,by rw[(NA hH hm hr hb hf hwh).1];exact hp0,?_⟩,trivial⟩;rw[hv];simp [aTj]
      |_=>exact hok.elim
    split
    · rename_i hn
      obtain⟨h1,h2⟩:=QC.1 hn;rw[zM] at h2;exact⟨.inr ⟨rfl,p,by rw[(KS hH hm hr hb hf h1 h2).1];exact hp,by rw[hv]⟩,trivial⟩
    exact⟨trivial,trivial⟩
  · rename_i k' heq
    simp only[aS7] at heq;obtain⟨rfl,rfl⟩:=heq;rcases h.1 with⟨h1,_⟩ |⟨h1,h2⟩
    .cases h1
    exact⟨.inr ⟨h1,h2⟩,trivial⟩
  · rename_i c k' heq
    simp only[aS7] at heq;obtain⟨rfl,rfl⟩:=heq;simp only[JV,zM];cases hn:zF base r.H.length c W[c]? with
    | some i=>
      obtain⟨p,hp,hv⟩:KG g' (some c) [u]:=wX rfl h.1;exact⟨.inr ⟨rfl,p,by rw[(G4 hH hm hr hb hf hn).1];exact hp,hv⟩,trivial⟩
    |none=>exact⟨trivial,trivial⟩
  · rename_i k' heq
    simp only[aS7] at heq;obtain⟨rfl,rfl⟩:=heq;rcases h.1 with⟨h1,_⟩ |⟨h1,h2⟩
    .cases h1
    exact⟨.inr ⟨h1,h2⟩,trivial⟩
  · rename_i f cs k' heq
    simp only[aS7] at heq;obtain⟨rfl,rfl⟩:=heq;cases hc:MR base r.H.length W cs with
    |none=>exact⟨trivial,trivial⟩
    | some l=>
      rcases h.1 with⟨h1,_⟩ |⟨_,vs,h2,h3⟩
      .cases h1
      exact⟨.inr ⟨rfl,vs,aBh hH hm hr hb hf cs h2 hc,h3⟩,trivial⟩
  · rename_i t x k' hno hno0 hno2 hno3 hno4 heq
    simp only[aS7] at heq;obtain⟨rfl,rfl⟩:=heq;split
    · rename_i hp
      exact tokk hp aJ5 (aAR h)
    exact⟨trivial,trivial⟩
  exact⟨trivial,trivial⟩
end
theorem aBi {g:Gh}{w:pM}{H:rX}{W:List rJ}{L:List pV}(hH:s5 g w H) (hm:QA H W L) {bb oo:Nat}(h:y8 (uS g W) (qP 0 L) bb oo):
  ∃(c:Nat) (wh:rJ) (b blk:pV),W[c]? =some wh/\L[c]? =some b/\rY (uS g W) c b bb oo/\pY H wh.id=some blk/\rY g wh.id blk bb oo:=by
 obtain⟨c,b,hc,ho⟩:=h;rw[x6] at hc;have hlt:c<W.length:=hm.len▸(aSR.1 hc).1;have hwh:W[c]? =some W[c]:=aSK hlt;have hw:=hm.ok c _ b hwh hc;refine⟨c,W[c],b,?_⟩;generalize W[c]=wh at hwh hw;cases wh with
 |box i u x toks off=>
  cases b with
  |cells t y ts=>
   obtain⟨h1,⟨y0,h2,h3⟩,h4⟩:=hw;obtain⟨p,hp,e1,e2,e3⟩:=ho;have hp':uR g W[c]? =some p:=hp;rw[hwh] at hp';obtain⟨p0,hp0,rfl⟩:=aSS.1 hp';obtain⟨p1,cs,hp1,hR,_⟩:=hH.blk i _ h1;obtain⟨c1,c2,c3,hcs,hl,hR2⟩:=BH hR h2;have l1:=sJ hR;have l2:=sJ hR2;rw[hcs] at l1;simp only[aSH] at l1;exact⟨_,hwh,hc,⟨_,hp,e1,e2,e3⟩,h1,p0,hp0,e1,by simp at e2;omega,by simp at e3;omega⟩
  |_=>exact hw.elim
 |tok k=>
  cases b with
  |grow e cc m=>
   obtain⟨v,hv,hb⟩:=ho;have hv':zL g W[c]? m=some v:=hv;rw[hwh] at hv';exact⟨_,hwh,hc,⟨v,hv,hb⟩,hw,v,hv',hb⟩
  |map s t l=>
   obtain⟨p,hp,hb⟩:=ho;have hp':uR g W[c]? =some p:=hp;rw[hwh] at hp';exact⟨_,hwh,hc,⟨p,hp,hb⟩,hw.1,p,hp',hb⟩
  |row e t l m=>
   obtain⟨v,hv,hb⟩:=ho;have hv':zL g W[c]? m=some v:=hv;rw[hwh] at hv';exact⟨_,hwh,hc,⟨v,hv,hb⟩,hw.1,v,hv',hb⟩
  |_=>exact hw.elim
section
variable {g g':Gh}{w w':pM}{H:rX}{W:List rJ}{L:List pV}{r:qH}{v:pN}{base:Nat}{upd:List (Nat×pV)}
variable (hH:s5 g w H) (hm:QA H W L) (hr:EV (uS g W) w L r g' w' v) (hb:BB base r.H.length W 0 W r.H=some upd) (hf: ∀i,i∈q9 upd->base<=i->g.J i=none/\∀n,g.cur i n=none)
include hH hm hr hb hf
theorem a0R {b o:Nat}(h:y8 (uS g W) (qP 0 L) b o):sI g H (q9 upd) b o:=by
 obtain⟨c,wh,b0,blk,h1,h2,h3,h4,h5⟩:=aBi hH hm h;exact⟨wh.id,blk,(DI hH hm hr hb hf h1).1,h4,h5⟩
theorem aKs:Fr (sI g H (q9 upd)) w w' g.S (tH g g' base W (q9 upd)).S:=hr.fr.mono fun _ _ h=>a0R hH hm hr hb hf h
theorem VI {id:Nat}{b:pV}(hi:id∈q9 upd) (hg:pY (qS upd H) id=some b):I4 base r.H.length W W r.H 0 id b:=by
 obtain⟨_,k2,k3,_⟩:=N9 hb;obtain⟨b',hb'⟩:=k3 id hi;have:pY (qS upd H) id=some b':=by
  have: ∀{u:List (Nat×pV)},pY u id=some b'->pY (qS u H) id=some b':=by
   intro u
   induction u with
   |nil=>intro h;cases h
   |cons q u ih=>
    intro h;simp only[qS,pY] at h|-;split
    .rename_i e;rw[aSB e] at h;exact h
    rename_i e;rw[aSD e] at h;exact ih h
  exact this hb'
 rw[this] at hg;obtain rfl:=aSG hg;exact k2 id b' hb'
theorem a0S {c i o:Nat}{u:Ty}{x:u.den}{toks:pG}{b0 b:pV}(hW:W[c]? =some (.box i u x toks o)) (hR:r.H[c]? =some b0) (hbb:xK base r.H.length i o W u x toks b0=some (i,b)):
  zZ (tH g g' base W (q9 upd)) w' i b/\(∀bb oo,rY (tH g g' base W (q9 upd)) i b bb oo->rY g i (.cells u x toks) bb oo/\pY H i=some (.cells u x toks))/\
   ∀bb oo,rY (tH g g' base W (q9 upd)) i b bb oo->rY g' c b0 bb oo\/(bb<w.heap.size/\¬y8 (uS g W) (qP 0 L) bb oo):=by
 obtain⟨hin,hlt,bL,hL,hok⟩:=DI hH hm hr hb hf hW;have hJi:=(NA hH hm hr hb hf hW).1;have hle:=aBe hH hm hr hb hf;cases bL with
 |grow=>exact hok.elim
 |row=>exact hok.elim
 |map=>exact hok.elim
 |iter=>exact hok.elim
 |dead=>exact hok.elim
 |cells tL yL tsL=>
  obtain⟨h1,h2,h4⟩:=hok;obtain⟨p,cs,hp,hRd,hra,hth,hns,htk⟩:=hH.blk i _ h1;cases b0 with
  |grow=>simp [xK] at hbb
  |row=>simp [xK] at hbb
  |map=>simp [xK] at hbb
  |iter=>simp [xK] at hbb
  |dead=>
   simp only[xK,aSC,aS7,true_and] at hbb;subst hbb;exact⟨trivial,fun _ _ h=>h.elim,fun _ _ h=>h.elim⟩
  |cells t y ts=>
   have htt:=hr.ty c _ _ _ _ _ _ hL hR;subst htt;obtain⟨y2,z,hbY,hset,hq⟩:=a0P hbb
   simp only[aS7,true_and] at hq;subst hq;have hblk:=hr.heap.blk c _ (by rw[x6];exact hR);obtain⟨p',cs',hp',hRd',hra',hth',hns',htk'⟩:=hblk;have hJc:=hr.J c _ _ _ hL;have hpc:g'.J c=some ⟨p.1,p.2+o,p.3⟩:=by
    rw[hJc];show uR g W[c]? =_;rw[hW];simp [uR,hp]
   rw[hpc] at hp';obtain rfl:=aSG hp';have hRdx:Rd (tH g g' base W (q9 upd)) w' u x cs:=w8 hle hRd;have hRdy:Rd (tH g g' base W (q9 upd)) w' t y2 cs':=aBf hH hm hr hb hf hRd' hbY;obtain⟨c1,c2,c3,hcs,hl1,hl2,hz⟩:=Q2 hRdy hRdx hset;subst hcs;subst hl1;have l0:=sJ hRd;have l1:=sJ hRd';simp only[aSH] at l0;have hfar: ∀q,q<u.cells->¬(c1.length<=q/\q<c1.length+t.cells)->¬y8 (uS g W) (qP 0 L) p.1 (p.2+q):=by
    intro q hq hno hown;obtain⟨c',wh',b',blk',k1,k2,k3,k4,k5⟩:=aBi hH hm hown;by_cases hcc:c'=c
    .subst hcc;rw[hW] at k1;obtain rfl:=aSG k1;rw[hL] at k2;obtain rfl:=aSG k2;obtain⟨pp,hpp,e1,e2,e3⟩:=k3;have hpp':uR g W[c']? =some pp:=hpp;rw[hW] at hpp';simp only[uR,hp,Option.map_some,aSC] at hpp';subst hpp';simp only at e2 e3;exact hno ⟨pB,pB⟩
    have hid:wh'.id≠i:=fun e=>hcc (VE hm.nodup k1 hW e);exact hH.dis wh'.id i blk' _ p.1 (p.2+q) hid k4 h1 k5 ⟨p,hp,rfl,pB,pB⟩
   have hlt': ∀q,q<u.cells->p.1<w.heap.size:=fun q hq=>KJ (hH.blk i _ h1) (b:=p.1) (o:=p.2+q) ⟨p,hp,rfl,pB,pB⟩;have hkeep: ∀q,q<u.cells->¬(c1.length<=q/\q<c1.length+t.cells)->w'.cell? ⟨p.1,p.2+q,none⟩=w.cell? ⟨p.1,p.2+q,none⟩/\w'.frozen? ⟨p.1,p.2+q,none⟩=w.frozen? ⟨p.1,p.2+q,none⟩:=fun q hq hno=>hr.fr.cell _ _ (hlt' q hq) (hfar q hq hno);refine⟨⟨p,c1++cs'++c3,by rw[hJi];exact hp,hz,fun q vv hv=>?_,⟨fun q hq=>?_,fun h0 s hs=>?_⟩,fun q hq hs=>?_,?_⟩,fun bb oo ho=>⟨?_,h1⟩,fun bb oo ho=>?_⟩
   .by_cases a1:q<c1.length
    .rw[(hkeep q pB pB).1];refine hra q vv ?_;rw[aSN,aSU a1] at hv|-;exact hv
    by_cases a2:q<c1.length+t.cells
    .rw[aSN,aSM pB,aSU pB] at hv;have:=hra' (q-c1.length) vv hv;rwa [show p.2+c1.length+(q-c1.length)=p.2+q from by omega] at this
    rw[aSN,aSM pB,aSM pB] at hv;have hq:q<u.cells:=by
     have:=(aSR.1 hv).1;omega
    rw[(hkeep q hq pB).1];refine hra q vv ?_;rw[aSN,aSM pB,aSM pB,hl2];rw[l1] at hv;exact hv
   .by_cases a1:c1.length<=q/\q<c1.length+t.cells
    .have:=hth'.1 (q-c1.length) pB;rwa [show p.2+c1.length+(q-c1.length)=p.2+q from by omega] at this
    rw[(hkeep q hq a1).1,(hkeep q hq a1).2];exact hth.1 q hq
   .by_cases ht0:0<t.cells
    .exact hth'.2 ht0 s hs
    exact(hr.fr.shape p.1 s (hth.2 h0 s hs)).resolve_right fun h=>hfar 0 h0 pB (h (p.2+0))
   .by_cases a1:c1.length<=q/\q<c1.length+t.cells
    .exact hns' (q-c1.length) pB (by rw[show p.2+c1.length+(q-c1.length)=p.2+q from by omega];exact hs)
    rcases hr.fr.new _ _ hs with k|k|k
    .exact hns q hq k
    .have:=hlt' q hq;omega
    exact hfar q hq a1 k
   .intro q kk hmem;rcases wH.1 hmem with hmem|hmem
    .obtain⟨q',c',k1,k2,rfl⟩:=VH hmem;rw[zM] at k2;obtain⟨u',l,vv,g1,g2,g3⟩:=htk' q' c' k1;have hq':=aAI g1;refine⟨u',l,vv,aAH hset (aBg hbY g1) hq',?_,?_⟩
     .rw[aSN,aSM pB,aTr,aSU pB];exact g2
     rw[(G4 hH hm hr hb hf k2).2];exact g3
    obtain⟨k1,k2⟩:=a0Q hmem;obtain⟨u',l,vv,g1,g2,g3⟩:=htk q kk k1;refine⟨u',l,vv,V3 hH hset g1 k2,?_,hle.cur _ _ _ g3⟩;rcases aTD q c1.length with a1|a1
    .rw[aSN,aSU a1] at g2|-;exact g2
    rw[aSN,aSM pB,aSM pB] at g2|-;rw[l1];rw[hl2] at g2;exact g2
   .obtain⟨pp,hpp,e1,e2,e3⟩:=ho;rw[hJi,hp] at hpp;obtain rfl:=aSG hpp;exact⟨p,hp,e1,e2,e3⟩
   obtain⟨pp,hpp,e1,e2,e3⟩:=ho;rw[hJi,hp] at hpp;obtain rfl:=aSG hpp;subst e1;by_cases a1:c1.length<=oo-p.2/\oo-p.2<c1.length+t.cells
   .exact .inl ⟨_,hpc,rfl,by simp only;omega,by simp only;omega⟩
   right;refine⟨hlt' (oo-p.2) pB,?_⟩;have:=hfar (oo-p.2) pB a1;rwa [show p.2+(oo-p.2)=oo from by omega] at this
theorem a0T {c:Nat}{b0 b:pV}(hn:W[c]? =none) (hR:r.H[c]? =some b0) (hbn:y5 base r.H.length c W b0=some (base+c,b)):
  zZ (tH g g' base W (q9 upd)) w' (base+c) b/\∀bb oo,rY (tH g g' base W (q9 upd)) (base+c) b bb oo->rY g' c b0 bb oo:=by
 have hc:=(aSR.1 hR).1;obtain⟨hJ,hcur⟩:=KS hH hm hr hb hf hc hn;have hblk:=hr.heap.blk c _ (by rw[x6];exact hR);cases b0 with
 |dead=>
  simp only[y5,aSC,aS7,true_and] at hbn;subst hbn;exact⟨trivial,fun _ _ h=>h.elim⟩
 |grow e m k=>
  simp only[y5,aSC,aS7,true_and] at hbn;subst hbn;obtain⟨u,xs,hv,h1,h2,h3⟩:=hblk;exact⟨⟨u,xs,by rw[hcur];exact hv,h1,fun m hm'=>by rw[hcur];exact h2 m hm',h3⟩,fun bb oo ⟨v',hv',hb'⟩=>⟨v',by rw[hcur] at hv';exact hv',hb'⟩⟩
 |row e t l n=>
  simp only[y5] at hbn;split at hbn
  .rename_i hp;simp only[aSC,aS7,true_and] at hbn;subst hbn;obtain⟨h0,u,xs,hv,h1,h4,h2,h3⟩:=hblk;exact⟨⟨h0,u,xs,by rw[hcur];exact hv,h1,C8 (fun _ _ h=>vT (g:=g') (g':=tH g g' base W (q9 upd)) rfl hp h) h4,fun m hm'=>by rw[hcur];exact h2 m hm',h3⟩,fun bb oo ⟨v',hv',hb'⟩=>⟨v',by rw[hcur] at hv';exact hv',hb'⟩⟩
  .cases hbn
 |iter s n=>simp [y5] at hbn
 |map k v l=>
  simp only[y5] at hbn;split at hbn
  .rename_i hp;rw[aSV] at hp;simp only[aSC,aS7,true_and] at hbn;subst hbn;obtain⟨p,es,cl,hp1,hp0,hh,hM,hS⟩:=hblk;exact⟨⟨p,es,cl,by rw[hJ];exact hp1,hp0,hh,Q1 (g:=g') (g':=tH g g' base W (q9 upd)) rfl hp.1 hp.2 hM,hS⟩,fun bb oo ⟨pp,hpp,e⟩=>⟨pp,by rw[hJ] at hpp;exact hpp,e⟩⟩
  .cases hbn
 |cells t y ts=>
  have fin: ∀y2,bY base r.H.length W t y y2->zZ (tH g g' base W (q9 upd)) w' (base+c) (.cells t y2 (DA base r.H.length W 0 ts))/\∀bb oo,rY (tH g g' base W (q9 upd)) (base+c) (.cells t y2 (DA base r.H.length W 0 ts)) bb oo->rY g' c (.cells t y ts) bb oo:=by
   intro y2 hbY;obtain⟨p,cs,hp1,hR1,h1,h2,h3,h4⟩:=hblk;refine⟨⟨p,cs,by rw[hJ];exact hp1,aBf hH hm hr hb hf hR1 hbY,h1,h2,h3,fun q kk hmem=>?_⟩,fun bb oo ⟨pp,hpp,e⟩=>⟨pp,by rw[hJ] at hpp;exact hpp,e⟩⟩;obtain⟨q',c',k1,k2,rfl⟩:=VH hmem;rw[zM] at k2;obtain⟨u',l,vv,g1,g2,g3⟩:=h4 q' c' k1;exact⟨u',l,vv,by rw[aTa];exact aBg hbY g1,by rw[aTa];exact g2,by rw[(G4 hH hm hr hb hf k2).2];exact g3⟩
  simp only[y5] at hbn;split at hbn
  .rename_i hp;simp only[aSC,aS7,true_and] at hbn;subst hbn;exact fin y (.inl ⟨hp,rfl⟩)
  obtain⟨y2,hy,hq⟩:=aBb hbn;simp only[aS7,true_and] at hq;subst hq;exact fin y2 (.inr hy)
theorem a0U {c k:Nat}{b0 b:pV}(hW:W[c]? =some (.tok k)) (hR:r.H[c]? =some b0) (hbk:w6 k b0=some (k,b)):
  zZ (tH g g' base W (q9 upd)) w' k b/\∀bb oo,rY (tH g g' base W (q9 upd)) k b bb oo->rY g' c b0 bb oo:=by
 obtain⟨hJ,hcur⟩:=aBd hH hm hr hb hf hW;have hblk:=hr.heap.blk c _ (by rw[x6];exact hR);cases b0 with
 |dead=>
  simp only[w6,aSC,aS7,true_and] at hbk;subst hbk;exact⟨trivial,fun _ _ h=>h.elim⟩
 |grow e m n=>
  simp only[w6,aSC,aS7,true_and] at hbk;subst hbk;obtain⟨u,xs,hv,h1,h2,h3⟩:=hblk;exact⟨⟨u,xs,by rw[hcur];exact hv,h1,fun m hm'=>by rw[hcur];exact h2 m hm',h3⟩,fun bb oo ⟨v',hv',hb'⟩=>⟨v',by rw[hcur] at hv';exact hv',hb'⟩⟩
 |row e t l n=>
  simp only[w6] at hbk;split at hbk
  .rename_i hp;simp only[aSC,aS7,true_and] at hbk;subst hbk;obtain⟨h0,u,xs,hv,h1,h4,h2,h3⟩:=hblk;exact⟨⟨h0,u,xs,by rw[hcur];exact hv,h1,C8 (fun _ _ h=>vT (g:=g') (g':=tH g g' base W (q9 upd)) rfl hp h) h4,fun m hm'=>by rw[hcur];exact h2 m hm',h3⟩,fun bb oo ⟨v',hv',hb'⟩=>⟨v',by rw[hcur] at hv';exact hv',hb'⟩⟩
  .cases hbk
 |iter s n=>simp [w6] at hbk
 |map s v l=>
  simp only[w6] at hbk;split at hbk
  .rename_i hp;rw[aSV] at hp;simp only[aSC,aS7,true_and] at hbk;subst hbk;obtain⟨p,es,cl,hp1,hp0,hh,hM,hS⟩:=hblk;exact⟨⟨p,es,cl,by rw[hJ];exact hp1,hp0,hh,Q1 (g:=g') (g':=tH g g' base W (q9 upd)) rfl hp.1 hp.2 hM,hS⟩,fun bb oo ⟨pp,hpp,e⟩=>⟨pp,by rw[hJ] at hpp;exact hpp,e⟩⟩
  .cases hbk
 |cells t y ts=>simp [w6] at hbk
theorem aKt {side:List Prop}{s:pW}{rds:pL}{vv:pN}(hs:rH (tH g g' base W (q9 upd)) w' s vv):rD g w H ⟨side,s,upd,rds⟩ (tH g g' base W (q9 upd)) w' vv:=by
 have le:=aBe hH hm hr hb hf;have fr:=aKs hH hm hr hb hf;have gho: ∀i,i∉q9 upd->(tH g g' base W (q9 upd)).J i=g.J i/\(tH g g' base W (q9 upd)).cur i=g.cur i:=fun i hi=>
  aBc hH hm hr hb hf (fun h=>hi h.2) (VG fun c hc=>hi ((DI hH hm hr hb hf hc).1))
 have perm: ∀i blk b o,i∈q9 upd->pY (qS upd H) i=some blk->rY (tH g g' base W (q9 upd)) i blk b o->w.heap.size<=b\/sI g H (q9 upd) b o:=by
  intro i blk b o hi hg ho;rcases VI hH hm hr hb hf hi hg with⟨c,i',u,x,toks,off,b0,h1,h2,h3,h4⟩ |⟨c,k,b0,h1,h2,h3,h4⟩ |⟨c,b0,h1,h2,h3,h4⟩
  .subst h2;obtain⟨_,k2,_⟩:=a0S hH hm hr hb hf h1 h3 h4;exact .inr ⟨i,_,hi,(k2 b o ho).2,(k2 b o ho).1⟩
  .subst h2;obtain⟨_,k2⟩:=a0U hH hm hr hb hf h1 h3 h4;exact(hr.perm c b0 b o h3 (k2 b o ho)).imp id fun h=>a0R hH hm hr hb hf h
  rw[aTa] at h2 h4;subst h2;obtain⟨_,k2⟩:=a0T hH hm hr hb hf h3 h1 h4;exact(hr.perm c b0 b o h1 (k2 b o ho)).imp id fun h=>a0R hH hm hr hb hf h
 refine⟨le,hs,hH.upd le fr perm gho (fun i blk hi hg=>?_) (fun i j bi bj b o hi hj hij hgi hgj hoi hoj=>?_) (fun b o h=>hr.heap.sl b o h),fr,perm,gho,fun i u' y us h=>?_⟩
 .rcases VI hH hm hr hb hf hi hg with⟨c,i',u,x,toks,off,b0,h1,h2,h3,h4⟩ |⟨c,k,b0,h1,h2,h3,h4⟩ |⟨c,b0,h1,h2,h3,h4⟩
  .subst h2;exact(a0S hH hm hr hb hf h1 h3 h4).1
  .subst h2;exact(a0U hH hm hr hb hf h1 h3 h4).1
  rw[aTa] at h2 h4;subst h2;exact(a0T hH hm hr hb hf h3 h1 h4).1
 .have cls: ∀{i:Nat}{blk:pV},i∈q9 upd->pY (qS upd H) i=some blk->rY (tH g g' base W (q9 upd)) i blk b o->
    (∃c u x toks off b0,W[c]? =some (.box i u x toks off)/\r.H[c]? =some b0/\rY g i (.cells u x toks) b o/\pY H i=some (.cells u x toks)/\(rY g' c b0 b o\/(b<w.heap.size/\¬y8 (uS g W) (qP 0 L) b o)))\/
    (∃c b0,zF base r.H.length c W[c]? =some i/\r.H[c]? =some b0/\rY g' c b0 b o):=by
   intro i blk hi hg ho;rcases VI hH hm hr hb hf hi hg with⟨c,i',u,x,toks,off,b0,h1,h2,h3,h4⟩ |⟨c,k,b0,h1,h2,h3,h4⟩ |⟨c,b0,h1,h2,h3,h4⟩
   .subst h2;obtain⟨_,k2,k3⟩:=a0S hH hm hr hb hf h1 h3 h4;exact .inl ⟨c,u,x,toks,off,b0,h1,h3,(k2 b o ho).1,(k2 b o ho).2,k3 b o ho⟩
   .subst h2;obtain⟨_,k2⟩:=a0U hH hm hr hb hf h1 h3 h4;exact .inr ⟨c,b0,by rw[h1];rfl,h3,k2 b o ho⟩
   rw[aTa] at h2 h4;subst h2;obtain⟨_,k2⟩:=a0T hH hm hr hb hf h3 h1 h4;exact .inr ⟨c,b0,by rw[h3];simp only[zF];rw[aSB (aSR.1 h1).1],h1,k2 b o ho⟩
  have cross: ∀{c c':Nat}{b0 b1:pV},c≠c'->r.H[c]? =some b0->r.H[c']? =some b1->rY g' c b0 b o->rY g' c' b1 b o->False:=fun hne h1 h2 o1 o2=>
   hr.heap.dis _ _ _ _ b o hne (by rw[x6];exact h1) (by rw[x6];exact h2) o1 o2
  rcases cls hi hgi hoi with⟨c,u,x,toks,off,b0,h1,h2,h3,h4,h5⟩ |⟨c,b0,h1,h3,h4⟩<;>rcases cls hj hgj hoj with⟨c',u',x',toks',off',b0',k1,k2,k3,k4,k5⟩ |⟨c',b0',k1,k3,k4⟩
  .exact hH.dis i j _ _ b o hij h4 k4 h3 k3
  .rcases h5 with h5|⟨h5,h6⟩
   .exact cross (fun e=>by subst e;rw[h1] at k1;cases k1) h2 k3 h5 k4
   rcases hr.perm c' b0' b o k3 k4 with h|h
   .omega
   exact h6 h
  .rcases k5 with k5|⟨k5,k6⟩
   .exact cross (fun e=>by subst e;rw[k1] at h1;cases h1) h3 k2 h4 k5
   rcases hr.perm c b0 b o h3 h4 with h|h
   .omega
   exact k6 h
  exact cross (fun e=>by subst e;rw[h1] at k1;exact hij (aSG k1)) h3 k3 h4 k4
 by_cases hi:i∈q9 upd
 .rcases VI hH hm hr hb hf hi h with⟨c,i',u,x,toks,off,b0,h1,h2,h3,h4⟩ |⟨c,k,b0,h1,h2,h3,h4⟩ |⟨c,b0,h1,h2,h3,h4⟩
  .subst h2;obtain⟨_,_,bL,hL,hok⟩:=DI hH hm hr hb hf h1;cases b0 with
   |cells t y0 ts=>
    obtain⟨y2,z,_,hset,hq⟩:=a0P h4;simp only[aS7,pV.cells.injEq,true_and] at hq;obtain⟨rfl,_⟩:=hq;cases bL with
    |cells=>exact .inl ⟨x,toks,hok.1⟩
    |_=>exact hok.elim
   |grow=>simp [xK] at h4
   |row=>simp [xK] at h4
   |map=>simp [xK] at h4
   |iter=>simp [xK] at h4
   |dead=>simp [xK] at h4
  .cases b0 with
   |cells t y0 ts=>simp [w6] at h4
   |iter=>simp [w6] at h4
   |map=>simp only[w6] at h4;split at h4<;>simp at h4
   |row=>simp only[w6] at h4;split at h4<;>simp at h4
   |_=>simp [w6] at h4
  rw[aTa] at h2;exact .inr (hf i hi pB)
 exact .inl ⟨y,us,(A0 hi).symm.trans h⟩
end
section
variable {P:Program}{g:Gh}{w:pM}
def aKu (P:Program) (g:Gh) (w:pM) (d:Nat) (ty:Ty) (x y:ty.den):a0e->Prop
 | .ty t=> ∀vx vy,sW g w ty x vx->sW g w ty y vy->∃b,BW ty x y=some b/\(Op.equalIn (d+1) t vx vy).run P w= .ok b w
 | .fs o l=> ∀px py cx cy,px.length=o->py.length=o->Rd g w ty x cx->Rd g w ty y cy->∃b,BW ty x y=some b/\(Op.eqFields (d+1) (px++cx).toArray (py++cy).toArray l).run P w= .ok b w
 | .el e i m=> ∀px py cx cy,px.length=i*P.cellsOf e->py.length=i*P.cellsOf e->Rd g w ty x cx->Rd g w ty y cy->∃b,BW ty x y=some b/\(Op.eqItems (d+1) e (P.cellsOf e) (px++cx).toArray (py++cy).toArray (List.range' i m)).run P w= .ok b w
theorem aKv {e:TypeId}{n:Nat}(h:(P.info? e).map (·.size)=some n):P.cellsOf e=n:=by
 obtain⟨i,h1,h2⟩:=aSS.1 h;simp [Program.cellsOf,h1,h2]
theorem yI.run {n:Nat}{ix:a0e}{ty:Ty}(h:yI P n ix ty): ∀(d:Nat),n<=d->∀x y:ty.den,aKu P g w d ty x y ix:=by
 induction h with
 |bool hu=>
  intro d _ x y vx vy hx hy;obtain rfl:=vB hx;obtain rfl:=vB hy;exact⟨_,rfl,run_equalIn_bool' w d _ _ _ hu⟩
 |int hu=>
  intro d _ x y vx vy hx hy;obtain rfl:=wC hx;obtain rfl:=wC hy;refine⟨_,rfl,(run_equalIn_int w d _ _ _ _ _ hu).trans ?_⟩;congr 1
 |str hu=>
  intro d _ x y vx vy hx hy;obtain rfl:=wY hx;obtain rfl:=wY hy;refine⟨_,rfl,(run_equalIn_string w d _ _ _ hu).trans ?_⟩;congr 1;rw[ByteArray.toList_eq,ByteArray.toList_eq];exact Q4 _ _
 | @struct h0 t0 fs0 ty0 hr hu hs _ ih=>
  intro d hd x y vx vy hx hy;obtain⟨cx,rfl,rx⟩:=KM hr hx;obtain⟨cy,rfl,ry⟩:=KM hr hy;obtain⟨d,rfl⟩: ∃d',d=d'+1:=⟨d-1,pB⟩;obtain⟨b,h1,h2⟩:=ih d pB x y [] [] cx cy rfl rfl rx ry;refine⟨b,h1,?_⟩;have hf:P.fieldsOf t0=fs0:=by unfold Program.fieldsOf;rw[hu]
  rw[run_equalIn_struct w _ _ _ _ (by rw[hf];exact hu) hs,hf];simpa using h2
 |arr hr hu hi _ ih=>
  intro d hd x y vx vy hx hy;obtain⟨cx,rfl,rx⟩:=KM hr hx;obtain⟨cy,rfl,ry⟩:=KM hr hy;obtain⟨d,rfl⟩: ∃d',d=d'+1:=⟨d-1,pB⟩;obtain⟨b,h1,h2⟩:=ih d pB x y [] [] cx cy pD pD rx ry;refine⟨b,h1,?_⟩;obtain⟨i,hi⟩:=aSF.1 hi;rw[run_equalIn_array w _ _ _ hu hi,List.range_eq_range'];simpa using h2
 |nil=>
  intro d _ x y px py cx cy _ _ _ _;exact⟨true,rfl,by simp [Op.eqFields]⟩
 |anil=>
  intro d _ x y px py cx cy _ _ _ _;exact⟨true,rfl,by simp [Op.eqItems]⟩
 | @cons h o f r a b hn ho hsz hrow _ _ iha ihb=>
  intro d hd x y px py cx cy hpx hpy ⟨x1,x2,ex,rx1,rx2⟩ ⟨y1,y2,ey,ry1,ry2⟩;subst ex;subst ey;obtain⟨vx,p1,v1⟩:=Q5 (P:=P) (c1:=px) (c3:=x2) hsz hrow rx1;obtain⟨vy,p2,v2⟩:=Q5 (P:=P) (c1:=py) (c3:=y2) hsz hrow ry1;obtain⟨b1,e1,r1⟩:=iha d hd x.1 y.1 vx vy v1 v2;obtain⟨b2,e2,r2⟩:=ihb d hd x.2 y.2 (px++x1) (py++y1) x2 y2 (by rw[aSH,hpx,sJ rx1]) (by rw[aSH,hpy,sJ ry1]) rx2 ry2;refine⟨b1&&b2,by simp only[BW,e1,e2,BW.eqAnd],?_⟩;rw[aSN] at p1 p2 r2;rw[aSN] at r2;rw[hpx,<-ho] at p1;rw[hpy,<-ho] at p2;simp only[Op.eqFields,aSB hn,aSO,p1,p2,aSJ,r1];cases b1
  .simp
  .simpa using r2
 | @acons h e i m a b hsz hrow _ _ iha ihb=>
  intro d hd x y px py cx cy hpx hpy ⟨x1,x2,ex,rx1,rx2⟩ ⟨y1,y2,ey,ry1,ry2⟩;subst ex;subst ey;have hc:=aKv hsz;obtain⟨vx,p1,v1⟩:=Q5 (P:=P) (c1:=px) (c3:=x2) hsz hrow rx1;obtain⟨vy,p2,v2⟩:=Q5 (P:=P) (c1:=py) (c3:=y2) hsz hrow ry1;obtain⟨b1,e1,r1⟩:=iha d hd x.1 y.1 vx vy v1 v2;obtain⟨b2,e2,r2⟩:=ihb d hd x.2 y.2 (px++x1) (py++y1) x2 y2 (by rw[aSH,hpx,sJ rx1,hc,aTW]) (by rw[aSH,hpy,sJ ry1,hc,aTW]) rx2 ry2;refine⟨b1&&b2,by simp only[BW,e1,e2,BW.eqAnd],?_⟩;rw[aSN] at p1 p2 r2;rw[aSN] at r2;rw[hpx] at p1;rw[hpy] at p2;simp only[List.range'_succ,Op.eqItems,aSO,p1,p2,aSJ,r1];cases b1
  .simp
  simpa using r2
def G5:pN->Bool
 | .nilFunc=>true
 |_=>false
theorem aKw {w:pM}(d:Nat) {t:TypeId}{a b:_}{c:_}(h:P.underlying t=some (.func a b c)) (v:pN) (hv:v= .nilFunc\/∃f y z,v= .func f y z):
  (Op.equalIn (d+1) t v .nilFunc).run P w= .ok (G5 v) w:=by
 rcases hv with rfl|⟨f,y,z,rfl⟩<;>simp [Op.equalIn,aSX h,G5]
theorem aBj {w:pM}{t:TypeId}{a b:_}{c:_}(h:P.underlying t=some (.func a b c)) (v:pN) (hv:v= .nilFunc\/∃f y z,v= .func f y z):
  (Go.binOp .eql t v .nilFunc).run P w= .ok (.bool (G5 v)) w/\(Go.binOp .neq t v .nilFunc).run P w= .ok (.bool (!(G5 v))) w:=by
 have h1:=aKw (P:=P) (w:=w) 9999 h v hv;have h2:(Op.equal t v .nilFunc).run P w= .ok (G5 v) w:=h1;rcases hv with rfl|⟨f,y,z,rfl⟩
 .exact⟨by simp only[Go.binOp,aSO,h2];rfl,by simp only[Go.binOp,aSO,h2];rfl⟩
 exact⟨by simp only[Go.binOp,aSO,h2];rfl,by simp only[Go.binOp,aSO,h2];rfl⟩
variable {o:Oper}{a:Act}{H:rX}{T:sG}(hT:wW P T) (hH:s5 g w H)
include hT hH
theorem aKx {op:BinOp}{xt yt:TypeId}{x y:Operand}(ho:o.op= .binOp op xt x y yt) {sx sy:pW}(hx:rH g w sx (a.eval x)) (hy:rH g w sy (a.eval y)) {e:qI}
  (hr:AF (YA (rO T xt) op sx sy)=some e):r8 P o a g w H e:=by
 obtain⟨q,hq,rfl⟩:=I0 hr;have go: ∀{u v:pN},a.eval x=u->a.eval y=v->(∃z,(do eqGuard op xt x y u v;Go.binOp op xt u v:Sem pN).run P w= .ok z w/\yH g w q.2 z)->r8 P o a g w H ⟨q.1,(q.2,none),[],[]⟩:=by
  rintro u v rfl rfl ⟨z,hz,hd⟩;refine r8.pure hH (v:=z) ?_ hd;unfold execOp;rw[ho];simp only[aSO,aS1] at hz|-;rw[hz];rfl
 replace hx:=hx.1;replace hy:=hy.1;generalize hti:rO T xt=oti at hq;unfold YA at hq;split at hq
 .rename_i u el by' ar ls_ t l k k';have hd:=(sP hT hti).2;simp only[wV] at hd;obtain⟨ax,cx,ex,hle,hll⟩:=EU hx;have hnil:ax=none->l=[]:=fun h=>by
   rcases hll with h1|⟨b,o,h1,_⟩
   .exact h1
   rw[h] at h1;cases h1
  have ey:a.eval y= .slice none 0 0:=hy;refine go ex ey ?_;unfold ST at hq;split at hq
  .cases hq;have h1:(do eqGuard .eql xt x y (.slice ax (List.length l) cx) (.slice none 0 0);Go.binOp .eql xt (.slice ax (List.length l) cx) (.slice none 0 0):Sem pN).run P w= .ok (.bool ax.isNone) w:=by
    simp only[aSO];rw[show (eqGuard .eql xt x y (.slice ax (List.length l) cx) (.slice none 0 0)).run P w= .ok () w from by simp [eqGuard]];exact Lib.run_eql_slice_nil (P:=P) w xt _ ax (List.length l) cx 0 0 hd.1
   exact⟨_,h1,_,rfl,fun h=>hnil (by simpa using h),fun _=>trivial⟩
  .cases hq;have h1:(do eqGuard .neq xt x y (.slice ax (List.length l) cx) (.slice none 0 0);Go.binOp .neq xt (.slice ax (List.length l) cx) (.slice none 0 0):Sem pN).run P w= .ok (.bool (!ax.isNone)) w:=by
    simp only[aSO];rw[show (eqGuard .neq xt x y (.slice ax (List.length l) cx) (.slice none 0 0)).run P w= .ok () w from by simp [eqGuard]];exact run_neq_slice_nil_any (P:=P) w xt _ ax (List.length l) cx 0 0 hd.1
   exact⟨_,h1,_,rfl,fun _=>trivial,fun h=>hnil (by simpa using h)⟩
  cases hq
 .rename_i u el by' ar ls_ k t l k';have hd:=(sP hT hti).2;simp only[wV] at hd;obtain⟨ay,cy,ey,hle,hll⟩:=EU hy;have hnil:ay=none->l=[]:=fun h=>by
   rcases hll with h1|⟨b,o,h1,_⟩
   .exact h1
   rw[h] at h1;cases h1
  have ex:a.eval x= .slice none 0 0:=hx;refine go ex ey ?_;unfold ST at hq;split at hq
  .cases hq;have h1:(do eqGuard .eql xt x y (.slice none 0 0) (.slice ay (List.length l) cy);Go.binOp .eql xt (.slice none 0 0) (.slice ay (List.length l) cy):Sem pN).run P w= .ok (.bool ay.isNone) w:=by
    simp only[aSO];rw[show (eqGuard .eql xt x y (.slice none 0 0) (.slice ay (List.length l) cy)).run P w= .ok () w from by simp [eqGuard]];exact run_eql_nil_slice (P:=P) w xt _ ay (List.length l) cy 0 0 hd.1
   exact⟨_,h1,_,rfl,fun h=>hnil (by simpa using h),fun _=>trivial⟩
  .cases hq;have h1:(do eqGuard .neq xt x y (.slice none 0 0) (.slice ay (List.length l) cy);Go.binOp .neq xt (.slice none 0 0) (.slice ay (List.length l) cy):Sem pN).run P w= .ok (.bool (!ay.isNone)) w:=by
    simp only[aSO];rw[show (eqGuard .neq xt x y (.slice none 0 0) (.slice ay (List.length l) cy)).run P w= .ok () w from by simp [eqGuard]];exact run_neq_nil_slice (P:=P) w xt _ ay (List.length l) cy 0 0 hd.1
   exact⟨_,h1,_,rfl,fun _=>trivial,fun h=>hnil (by simpa using h)⟩
  cases hq
 .rename_i el by' ar ls_ x' k1 k2;have hd:=(sP hT hti).2;simp only[wV] at hd;obtain⟨fa,fb,fc,hd⟩:=hd.1;have ey:a.eval y= .nilFunc:=by
   have:=wX rfl hy;simpa[Rd,HW] using this
  obtain⟨hf,hm⟩:(a.eval x= .nilFunc\/∃f y z,a.eval x= .func f y z)/\G5 (a.eval x)=decide (x'.1=0):=by
   obtain⟨c,i,⟨k3,n3⟩,⟨k4,n4⟩⟩:=x';rcases wX rfl hx with⟨h0,e⟩ |⟨h0,b,α,e,_⟩
   .simp only[aTk,and_true] at e;rw[e];exact⟨.inl rfl,by simp [h0,G5]⟩
   simp only[aTk,and_true] at e;rw[e];exact⟨.inr ⟨_,_,_,rfl⟩,by simp [h0,G5]⟩
  have hr2:=aBj (P:=P) (w:=w) hd (a.eval x) hf;rw[hm] at hr2;refine go rfl ey ?_;have hgd: ∀op,(eqGuard op xt x y (a.eval x) .nilFunc).run P w= .ok () w:=fun op=>by
   rcases hf with e|⟨f,x1,x2,e⟩<;>rw[e]<;>cases op<;>simp [eqGuard]
  unfold MN at hq;split at hq
  .rename_i r e1;cases e1;cases hq;exact⟨_,by simp only[aSO,hgd,aSJ];exact hr2.1,vC _ _ _⟩
  .rename_i r e1;cases e1;cases hq;exact⟨_,by simp only[aSO,hgd,aSJ];exact hr2.2,vC _ _ _⟩
  cases hq
 .rename_i el by' ar ls_ x' k1 k2;have hd:=(sP hT hti).2;simp only[wV] at hd;obtain⟨fa,fb,fc,hd⟩:=hd;have ey:a.eval y= .nilFunc:=by
   have:=wX rfl hy;simpa[Rd,HW] using this
  obtain⟨hf,hm⟩:(a.eval x= .nilFunc\/∃f y z,a.eval x= .func f y z)/\G5 (a.eval x)=yP x':=by
   have e:=wX rfl hx;cases x' with
   |none=>
    simp only[Rd,UR,aTk,and_true] at e;rw[e];exact⟨.inl rfl,rfl⟩
   |some f=>
    simp only[Rd,UR,aTk,and_true] at e;rw[e];exact⟨.inr ⟨_,_,_,rfl⟩,rfl⟩
  have hr2:=aBj (P:=P) (w:=w) hd (a.eval x) hf;rw[hm] at hr2;refine go rfl ey ?_;have hgd: ∀op,(eqGuard op xt x y (a.eval x) .nilFunc).run P w= .ok () w:=fun op=>by
   rcases hf with e|⟨f,x1,x2,e⟩<;>rw[e]<;>cases op<;>simp [eqGuard]
  unfold MN at hq;split at hq
  .rename_i r e1;cases e1;cases hq;exact⟨_,by simp only[aSO,hgd,aSJ];exact hr2.1,vC _ _ _⟩
  .rename_i r e1;cases e1;cases hq;exact⟨_,by simp only[aSO,hgd,aSJ];exact hr2.2,vC _ _ _⟩
  cases hq
 .rename_i u el b ar ls_ t x' k t' y' k' _ _;unfold a9l at hq;split at hq
  .rename_i htt;subst htt;split at hq
   .rename_i hc;obtain⟨rfl,hc⟩:=hc;simp only[tX] at hq;obtain⟨r,hr1,hr2⟩: ∃r,BW t' x' y'=some r/\((op= .eql/\q=([],.val .bool r))\/(op= .neq/\q=([],.val .bool (!r)))):=by
     generalize hgen:BW t' x' y'=od at hq;unfold MN at hq;split at hq
     .rename_i r;cases hq;exact⟨r,rfl,.inl ⟨rfl,rfl⟩⟩
     .rename_i r;cases hq;exact⟨r,rfl,.inr ⟨rfl,rfl⟩⟩
     cases hq
    have hti':=sP hT hti;rcases hc with rfl|⟨hrow,rfl⟩
    .have hd:=hti'.2;simp only[wV] at hd;obtain hbx:=vB hx;obtain hby:=vB hy;refine go hbx hby ?_;have hrr:r=(x'==y'):=(aSG hr1).symm;subst hrr;have hrun:=run_equalIn_bool' (P:=P) w 9999 xt x' y' hd;rcases hr2 with⟨rfl,rfl⟩ |⟨rfl,rfl⟩
     .refine⟨.bool (x'==y'),?_,vC _ _ _⟩;simp only[aSO];rw[show (eqGuard .eql xt x y (.bool x') (.bool y')).run P w= .ok () w from by simp [eqGuard]];simp only[aSJ,Go.binOp,Op.equal,Op.maxDepth,aSO,hrun,aS1]
     refine⟨.bool (!(x'==y')),?_,vC _ _ _⟩;simp only[aSO];rw[show (eqGuard .neq xt x y (.bool x') (.bool y')).run P w= .ok () w from by simp [eqGuard]];simp only[aSJ,Go.binOp,Op.equal,Op.maxDepth,aSO,hrun,aS1]
    have h2:=hti'.2;have heq:P.eqGuardType P.depth xt=false/\∃h,h<9000/\yI P h (.ty xt) t':=by
     unfold wV at h2;cases t'<;>simp only[Ty.isRow,aTS] at hrow
     all_goals exact h2.2 rfl
    obtain⟨hg1,hh,hlt,hE⟩:=heq;obtain⟨cx,ex,rx⟩:=KM hrow hx;obtain⟨cy,ey,ry⟩:=KM hrow hy;obtain⟨b',hb1,hb2⟩:=hE.run (g:=g) (w:=w) 9999 pB x' y' _ _ hx hy;rw[hr1] at hb1;obtain rfl:=aSG hb1;rw[ex,ey] at hb2;refine go ex ey ?_;rcases hr2 with⟨rfl,rfl⟩ |⟨rfl,rfl⟩
    .refine⟨.bool r,?_,vC _ _ _⟩;simp only[aSO];rw[run_eqGuard_agg w _ _ _ _ _ _ hg1];simp only[aSJ];rw[run_eql_struct,hb2];rfl
    refine⟨.bool (!r),?_,vC _ _ _⟩;simp only[aSO];rw[run_eqGuard_agg w _ _ _ _ _ _ hg1];simp only[aSJ];rw[run_neq_struct,hb2];rfl
   cases hq
  cases hq
 cases hq
end
end Go.Proofs.YtcpbaddnmpeipaaGreatDoor.Vc
namespace Go.Proofs.YtcpbaddnmpeipaaGreatDoor.Vc
open Go.RowKit
theorem aKy (s:p7):Lib.strCells ⟨s.toArray⟩=s.map fun b=>Value.int .u8 b.toNat:=by
 simp [Lib.strCells]
theorem aKz {P:Program}(w:pM) (t u ty e:TypeId) (i:TypeInfo) (ht:P.underlying t=some (.slice e)) (hu:P.underlying u=some .string) (hi:P.info? e=some i) (hz:i.zero=some (.int .u8 0))
  (hsize:i.size=1) (hby:i.bytes=1) (v:pN) (n:Nat) (xs:pI) (hown:w.ownsRow 0 e 1 v n xs) (s:ByteArray) (hm:0<s.size)
  (h63:n+s.size<=maxLen) (hbytes:n+s.size<=140737488355328):
  ∃q cap w',(Builtin.append_ #[t,u] ty #[v,.string s]).run P w= .ok (.slice (some ⟨q,0,none⟩) (n+s.size) cap) w'/\w'.ownsRow 0 e 1 (.slice (some ⟨q,0,none⟩) (n+s.size) cap) (n+s.size) (xs++Lib.strCells s)/\
   (q=w.heap.size\/v.ownBlock=some q)/\w.grownBy w' v.ownBlock/\n+s.size<=cap/\
   ∀b o,b<w.heap.size->(v.ownBlock=some b->o<n*1)->w'.cell? ⟨b,o,none⟩=w.cell? ⟨b,o,none⟩:=by
 have hsmall:n+s.size<=9223372036854775807:=by simp only[maxLen] at h63;omega
 have hxl:xs.length=n:=by simpa using hown.1
 have hlen:(xs++Lib.strCells s).length=(n+s.size)*1:=by rw[aSH,hxl,Lib.strCells_length,aUs]
 have grown: ∀(old:Nat),old<n+s.size->∀(row:pK),
   (w.drew.alloc (.cells (xs.toArray++(Lib.strCells s).toArray++Builtin.zeroCells (Value.int .u8 0).cells (grownCap w (n+s.size) old e- (n+s.size))) e)).ownsRow 0 e 1
    (.slice (some ⟨w.heap.size,0,none⟩) (n+s.size) (grownCap w (n+s.size) old e)) (n+s.size) (xs++Lib.strCells s)/\
   w.grownBy (w.drew.alloc (.cells (xs.toArray++(Lib.strCells s).toArray++Builtin.zeroCells (Value.int .u8 0).cells (grownCap w (n+s.size) old e- (n+s.size))) e)) row/\n+s.size<=grownCap w (n+s.size) old e/\
   ∀b o,b<w.heap.size->(w.drew.alloc (.cells (xs.toArray++(Lib.strCells s).toArray++Builtin.zeroCells (Value.int .u8 0).cells (grownCap w (n+s.size) old e- (n+s.size))) e)).cell? ⟨b,o,none⟩=w.cell? ⟨b,o,none⟩:=by
  intro old ho row;have hge:=grownCap_ge w (n+s.size) old e;have hcm:grownCap w (n+s.size) old e<=maxLen:=grownCap_le_maxLen w (n+s.size) old e h63;refine⟨⟨hlen,.inr ⟨w.heap.size,_,_,rfl,aTv _,aUF w.drew _,hge,hcm,?_,?_⟩⟩,⟨rfl,rfl,rfl,by simp,fun k hk _=>aTc w.drew _ k hk⟩,hge,fun b o hb=>aS0 (w:=w) (a:=⟨b,o,none⟩) (aTc w.drew _ b hb)⟩
  .have hz1:(Value.int IntKind.u8 0).cells.size=1:=rfl;simp only[aUG,aTG,size_zeroCells,hz1,hxl,Lib.strCells_length];omega
  simp only[Array.toList_append,aSN];rw[<-aSN,<-hlen];exact aUj
 rcases hown.2 with⟨rfl,rfl⟩ |⟨g,cap,cur,rfl,hbg,hg,hnc,hcm,hcs,htake⟩
 .have hx:xs=[]:=aS9 hxl;subst hx;have hr:=run_append_nil_string (P:=P) w t u ty e i (.int .u8 0) ht hu hi hz s pB pB (by rw[hby];omega);have hgr:=grown 0 pB (Value.ownBlock (.slice none 0 0));simp only[aTa,List.nil_append,Array.empty_append] at hgr|-;have e1:(s.data.map fun b=>Value.int .u8 b.toNat)=(Lib.strCells s).toArray:=by
   apply Array.ext';simp [Lib.strCells]
  rw[e1] at hr;exact⟨_,_,_,hr,hgr.1,.inl rfl,hgr.2.1,hgr.2.2.1,fun b o hb _=>hgr.2.2.2 b o hb⟩
 by_cases hroom:n+s.size<=cap
 .have hcs':cur.size=cap:=by simpa using hcs
  have hr:=Lib.run_append_room_string (P:=P) w t u ty e i ht hu hi hsize g n cap cur hg s hroom pB;refine⟨_,_,_,hr,⟨hlen,.inr ⟨g,cap,_,rfl,hbg,aUH w g cur _ e _ hg,hroom,hcm,?_,?_⟩⟩,.inr rfl,⟨rfl,rfl,rfl,by simp,fun k _ hk=>aUm w g k _ (fun e=>hk (by simp [Value.ownBlock,e]))⟩,hroom,fun b o hb hso=>?_⟩
  .simp only[aTG,aSH,aTe,aS8,aTx,Lib.strCells_length];omega
  .have ht':cur.toList.take n=xs:=by simpa using htake
   rw[ht',<-hlen];exact aUj
  by_cases hbg':b=g
  .subst hbg';have ho:=hso rfl;rw[cell_setRow_same w b o cur _ e _ hg,cell_of_row w b o cur e (0,0) hg];have hlt:o<(cur.toList.take n).length:=by rw[aTe,aTx];omega
   have hlt2:o<cur.size:=by rw[aTe,aTx] at hlt;omega
   simp only[List.getElem?_toArray,aSN];rw[aSU hlt,List.getElem?_take,aSB pB];simp
  exact aS0 (a:=⟨b,o,none⟩) (aUm w g b _ hbg')
 have holds: ∀j u,xs[j]? =some u->w.cell? ((⟨g,0,none⟩:Addr).add j)=some u:=hown.cells (g:=g) rfl;have hr:=Lib.run_append_grow_string (P:=P) w t u ty e i (.int .u8 0) ht hu hi hz ⟨g,0,none⟩ n cap xs (by rw[hsize];simpa using hxl) holds s pB pB (by rw[hby];exact growslice_fits pB pB);have hgr:=grown cap pB (Value.ownBlock (.slice (some ⟨g,0,none⟩) n cap));exact⟨_,_,_,hr,hgr.1,.inl rfl,hgr.2.1,hgr.2.2.1,fun b o hb _=>hgr.2.2.2 b o hb⟩
theorem aKA {P:Program}(w:pM) (t u ty e:TypeId) (i:TypeInfo) (ht:P.underlying t=some (.slice e)) (hu:P.underlying u=some .string) (hi:P.info? e=some i) (hsize:i.size=1) (ad:Option Addr) (n c:Nat) (hle:n<=c):
  (Builtin.append_ #[t,u] ty #[.slice ad n c,.string ⟨#[]⟩]).run P w= .ok (.slice ad n c) w:=by
 have hf:=Lib.run_firstCells_string (P:=P) w 1 ⟨#[]⟩;have hm:(⟨#[]⟩:ByteArray).size=0:=rfl;rw[hm] at hf;cases ad<;>simp [Builtin.append_,aSX ht,aSX hu,sizeOf,typeInfo,hi,hsize,Builtin.lenOf,hm,hf,hle,Lib.strCells,storeCells]
theorem aBk (g:Gh) (w:pM): ∀s:p7,tU (Rd g w (.int .u8)) 1 (uK s) (s.map fun b=>Value.int .u8 b.toNat)
 |[]=>rfl
 |b::s=>⟨[.int .u8 b.toNat],_,rfl,rfl,rfl,aBk g w s⟩
section
variable {P:Program}{o:Oper}{a:Act}{g:Gh}{w:pM}{H:rX}{T:sG}(hT:wW P T) (hH:s5 g w H)
include hT hH
theorem aKB {t t':TypeId}{x:Operand}(ho:o.op= .convert t t' x) {sx:pW}(hx:rH g w sx (a.eval x)) {e:qI}
  (hr:AF (YD T (rO T t) (rO T t') sx)=some e):r8 P o a g w H e:=by
 obtain⟨q,hq,rfl⟩:=I0 hr;replace hx:=hx.1;generalize h1:rO T t=o1 at hq;generalize h2:rO T t'=o2 at hq;unfold YD at hq;split at hq
 .rename_i e b1 a1 l1 e2 b2 a2 l2 l k;generalize h3:rO T e=o3 at hq;unfold a9m at hq;split at hq
  .cases hq;have d1:=(sP hT h1).2;have d2:=(sP hT h2).2;have d3:=(sP hT h3).2;simp only[wV] at d1 d2 d3;obtain⟨ad,cap,hv,hle,hl⟩:=EU hx;refine r8.pure hH (v:= .string ⟨(tP l).toArray⟩) ?_ (KN _ _ _);simp only[execOp,ho,hv,aSO];have run:(convert t t' (.slice ad (List.length l) cap)).run P w= .ok (.string ⟨(tP l).toArray⟩) w:=by
    rcases hl with rfl|⟨b,off,rfl,hL⟩
    .rw[run_convert_bytes_string w t t' e ad _ cap d1.1 d3 d2];cases ad with
     |none=>simp [Conv.bytesToString,tP];rfl
     |some ad=>simp [Conv.bytesToString,loadCells,loadCellsFrom,tP];rfl
    have:=run_convert_bytes_arg (P:=P) w t e d1.1 d3 b off (List.length l) cap l rfl (fun i hi=>by
     obtain⟨cs,_,c2,_,c4⟩:=UW hL (aSK hi);have c5:cs=[.int .u8 (l[i]:Int)]:=c4;subst c5;have:=c2 0 _ rfl;have hcell:Ty.cells (.int .u8)=1:=rfl;rw[hcell,aUs,aTP] at this;rw[this,aSZ,aSK hi];rfl) t' d2
    exact this
   rw[run];rfl
  cases hq
 cases hq
theorem aKC {args:Array Operand}{tys:Array TypeId}(ho:o.op= .call ⟨.builtin .append,args,tys⟩) {ρ:Operand->pW}(hρ: ∀x∈args.toList,rH g w (ρ x) (a.eval x)) {e:qI}
  (hr:UA T H (vL ρ args.toList) tys.toList=some e) (hs: ∀p∈e.side,p):r8 P o a g w H e:=by
 unfold UA at hr;split at hr
 .rename_i t u htu;have htys:tys= #[t,u]:=by apply aTF.1;rw[htu]
  split at hr
  .rename_i e1;subst e1;exact aJV hT hH ho hρ htys hr hs
  clear htu;subst htys;generalize hst:rO T t=ot at hr;generalize hsu:rO T u=ou at hr;generalize hss:vL ρ args.toList=ss at hr;unfold ZI at hr;split at hr
  .rename_i el ar ls_ e2 b2 a2 ls2 l k s k2;generalize hk:pY H k=ob at hr;unfold U9 at hr;split at hr
   .rename_i e' c n;split at hr
    .rename_i hec;obtain⟨rfl,rfl⟩:=hec;cases hr;rw[aSH];have hsl:List.length (uK s)=List.length s:=by simp [uK]
     rw[hsl];have hln:=hs _ (by simp:(List.length l=n)∈_);have hby:=hs _ (by simp:(List.length l+List.length s<=140737488355328)∈_);obtain⟨v,vr,hv,hs1,hs2⟩:=UZ hT hH hρ hss;obtain⟨h2,h3,_⟩:=(sP hT hst).2;have hu:=(sP hT hsu).2;simp only[wV] at hu;obtain⟨ei,hei,hz⟩:=aSS.1 h3;simp only[aS7] at hz;obtain⟨cs,hx⟩:=G1 (a:=a) hT hH ho;obtain⟨v0,xs,hv0,hown,hnone,hseal⟩:=hH.blk k _ hk;have hcur:g.cur k (List.length l)=some v:=hs1.2;rw[hln,hv0] at hcur;obtain rfl:=aSG hcur;obtain⟨adl,capl,hvl,hlel,hll⟩:=EU hs1.1;have hvr:=wY hs2.1;have hsz:(⟨List.toArray s⟩:ByteArray).size=List.length s:=by simp [ByteArray.size]
     by_cases hm:List.length s=0
     .obtain rfl:s=[]:=aS9 hm;have hget: ∀i,pY (qS [(k,pV.grow e' 1 (List.length l+List.length ([]:p7)))] H) i=pY H i:=by
       intro i;simp only[qS,pY];by_cases hi:k=i
       .subst hi;rw[aSB rfl,hk,hln];rfl
       rw[aSD hi]
      have hkeep:rD g w H ⟨[List.length l=n,List.length l+List.length ([]:p7)<=140737488355328],(.val (.list (.int .u8)) (l++uK []),some k),[(k,.grow e' 1 (List.length l+List.length ([]:p7)))],[k]⟩ g w v0:=by
       refine⟨.refl _ _,?_,⟨fun i b h=>hH.blk i b ((hget i).symm.trans h),fun i j bi bj b o' hij h1 h2=>hH.dis i j bi bj b o' hij ((hget i).symm.trans h1) ((hget j).symm.trans h2),hH.sl,hH.tab.1,fun i blk b o' h ho'=>hH.tab.2 i blk b o' ((hget i).symm.trans h) ho'⟩,.refl _ _ _,fun i blk b o' hi hg ho'=> .inr ⟨i,blk,hi,(hget i).symm.trans hg,ho'⟩,fun _ _=>⟨rfl,rfl⟩,fun i u' y us h=> .inl ⟨y,us,(hget i).symm.trans h⟩⟩;rw[show l++uK []=l from by simp [uK]];exact hs1
      refine r8.value (v:=v0) (w':=w) ?_ hkeep;rw[hx,hv,hvr,hvl];have:=aKA (P:=P) w t u o.type e' ei h2 hu hei (by rw[hz.1];rfl) adl (List.length l) capl hlel;simp only[builtin,aSO];rw[this];simp only[aSJ,aS1]
     have hxs:tU (Rd g w (.int .u8)) 1 l xs:=by
      by_cases h0:List.length l=0
      .obtain rfl:l=[]:=aS9 h0;have:xs=[]:=aS9 (by rw[hown.1,<-hln];simp);exact this
      rcases hll with rfl|⟨b0,off0,rfl,hL0⟩
      .exact absurd rfl h0
      obtain⟨ls,hF0,hra0,_⟩:=Q6 hL0;rcases hown.2 with⟨e1,e2⟩ |⟨q,cap,cur,e1,e2⟩
      .exact absurd (hln.trans e2) h0
      rw[hvl] at e1;simp only[aUc,aSC,Addr.mk.injEq] at e1;obtain⟨⟨rfl,rfl,_⟩,_,rfl⟩:=e1;have hvn:v0= .slice (some ⟨b0,0,none⟩) n capl:=by rw[hvl,hln]
      have hrx:=a0s (hvn▸hown);have:ls=xs:=by
       have hl1:=KH hF0;have hl2:=hown.1;have hc1:Ty.cells (.int .u8)=1:=rfl;rw[hc1] at hl1;apply List.ext_getElem?;intro j;by_cases hj:j<ls.length
       .have h1:=hra0 j ls[j] (aSK hj);have hj':j<xs.length:=by rw[hl2,<-hln,<-hl1];exact hj
        have h2:=hrx j xs[j] (aSK hj');rw[h1] at h2;rw[aSK hj,aSK hj',aSG h2]
       rw[aTX pB,aTX (by rw[hl2,<-hln,<-hl1];omega)]
      rw[<-this];exact hF0
     obtain⟨q,cap,w',hrun,hown',hq,hg,hcap,hcell⟩:=aKz (P:=P) w t u o.type e' ei h2 hu hei hz.2.2 hz.1 hz.2.1 v0 n xs hown ⟨List.toArray s⟩ (by rw[hsz];omega) (by rw[hsz];unfold maxLen;omega) (by rw[hsz];omega);rw[hsz] at hrun hown' hcap;rw[aKy] at hown';refine r8.value (v:= .slice (some ⟨q,0,none⟩) (n+List.length s) cap) (w':=w') ?_ (by
      have:=rD.append (side:=[List.length l=n,List.length l+List.length s<=140737488355328]) (rds:=[k]) (u:= .int .u8) (r:=uK s) hH hk (show (1:Nat)=Ty.cells (.int .u8) from rfl) hln hv0 hown hnone hseal hxs (aBk g w s) (by rw[hsl];omega) (by rw[hsl];exact hown') hq hg (by rw[hsl];exact hcap) hcell;rw[hsl] at this;rw[hln];rw[hln] at this;exact this)
     rw[hx,hv,hvr];simp only[builtin,aSO,hrun,aSJ,aS1]
    cases hr
   cases hr
  cases hr
 cases hr
end
theorem aKD {g g':Gh}{w:pM}{f:pW→pW}(hf: ∀s u,rH g w s u→rH g' w (f s) u): ∀{l:List pW}{v:pN}{s:pW},Q9 g w l v→MS (l.map f)=some s→rH g' w s v:=by
  have un: ∀{l:List pW}{vs:pI}{q},vD g w l vs→FP (l.map f)=some q→HY g' w q vs:=by
    intro l
    induction l with
    | nil=>
      intro vs q h hq;simp only[List.map_nil,FP,aSC] at hq;subst hq;exact h
    | cons s l ih=>
      rintro vs q ⟨v,vs',rfl,h1,h2⟩ hq;have h1':=hf s v h1;simp only[aTV] at hq;generalize f s=fs at hq h1';obtain⟨d,k⟩:=fs;cases d with
      | val t x=>
        simp only[FP] at hq;obtain⟨q',hq',rfl⟩:=aSS.1 hq;refine⟨v,vs',rfl,h1'.1,?_,ih h2 hq'⟩;cases k with
        |none=>trivial
        |some k=>exact h1'.2
      | own k' n=>
        simp only[FP] at hq;obtain⟨q',hq',rfl⟩:=aSS.1 hq;exact⟨v,vs',rfl,.inr ⟨rfl,v,h1'.1.1,rfl,h1'.1.2⟩,trivial,ih h2 hq'⟩
      |_=>simp [FP] at hq
  intro l v s h hs
  match l,h,hs with
  | [],⟨vs,e,h⟩,hs=>
    simp only[List.map_nil,MS,aSC] at hs;subst hs;rw[show vs=[] from h] at e;exact⟨⟨[],e,rfl⟩,trivial⟩
  | [x],h,hs=>
    simp only[aTV,List.map_nil,MS,aSC] at hs;subst hs;exact hf x v h
  | x::y::l,⟨vs,e,h⟩,hs=>
    simp only[aTV,MS,aSC] at hs;subst hs;cases hq:FP (f x::f y::l.map f) with
    |none=>exact⟨trivial,trivial⟩
    |some q=>exact⟨⟨vs,e,un (l:=x::y::l) h (by simpa using hq)⟩,trivial⟩
theorem aBl {base n:Nat}{W:List rJ}: ∀l:List pW,PC base n W l=l.map (T6 base n W)
  |[]=>rfl
  |s::l=>by simp [PC,aBl l]
theorem aBm {P:Program}{f:FuncId}{sg:r5}(hcon:yJ P f sg.C) {g:Gh}{w:pM}{H:rX}(hH:s5 g w H) {args:List pW}{vals:pI}(hargs:vD g w args vals) {base:Nat}{e:qI}
    (hr:FQ H base args (some sg)=some e) (hs: ∀p∈e.side,p) (hfr:xO g base e):Calls P f vals.toArray w (fun en w'=> ∃v g',en= .returned v∧rD g w H e g' w' v):=by
  simp only[FQ] at hr;cases hp0:xJ H sg.ps args (some ⟨[],[],[],0⟩) with
  |none=>rw[hp0] at hr;cases hgs:sg.gs<;>(rw[hgs] at hr;simp [PD,B9] at hr)
  |some q0=>
   rw[hp0] at hr;cases hp:B9 H sg.gs (some q0) with
   |none=>rw[hp] at hr;simp [PD] at hr
   |some q=>
    rw[hp] at hr;simp only[PD,aBa,List.append_nil] at hr;have hpo0:=aA5 hH (BK.nil g w H) hargs hp0;rw[List.nil_append] at hpo0;have hpo:=aA7 hH hpo0 hp;cases hcl:HL q.ws.reverse q.H.reverse with
    |none=>rw[hcl] at hr;simp [T9] at hr
    |some L=>
    rw[hcl] at hr;simp only[T9] at hr;have hm:=hpo.m.ren hcl;cases hc:sg.C q.args.reverse L with
    |none=>rw[hc] at hr;simp [T8] at hr
    | some r=>
      rw[hc] at hr;simp only[T8,aA9] at hr;cases hbh:BB base r.H.length q.ws.reverse 0 q.ws.reverse r.H with
      |none=>rw[hbh] at hr;simp [PB] at hr
      | some upd=>
        rw[hbh] at hr;cases hrs:MS (PC base r.H.length q.ws.reverse r.ret) with
        |none=>rw[hrs] at hr;simp [PB] at hr
        | some s=>
          rw[hrs] at hr;simp only[PB,aSC] at hr;subst hr;refine(hcon.2 (uS g q.ws.reverse) w q.args.reverse _ L r (aKd hH hm) hpo.args hc hs).mono ?_;rintro en w' ⟨v,g',rfl,hret⟩;refine⟨v,_,rfl,aKt hH hm hret hbh hfr ?_⟩;rw[aBl] at hrs;exact aKD (fun s u h=>aKr hH hm hret hbh hfr h) hret.ret hrs
theorem KT {g g':Gh}{w w':pM}: ∀{t:Ty}{x:t.den}{cs:pI},FR t=true→Rd g w t x cs→Rd g' w' t x cs
  | .bool,_,_,_,r=>r
  | .int _,_,_,_,r=>r
  | .str,_,_,_,r=>r
  | .unit,_,_,_,r=>r
  | .fn,_,_,_,r=>r
  | .pair a b,_,_,h,⟨c1,c2,e,r1,r2⟩=>by
    simp only[FR,aSV] at h;exact⟨c1,c2,e,KT h.1 r1,KT h.2 r2⟩
  | .list _,_,_,h,_=>by cases h
  | .ref,_,_,h,_=>by cases h
  | .clo,_,_,h,_=>by cases h
  | .mp,_,_,h,_=>by cases h
  | .rl _ _,_,_,h,_=>by cases h
  | .mref,_,_,h,_=>by cases h
  | .ap,_,_,h,_=>by cases h
theorem aBn {g g':Gh}{w:pM}{k n:Nat}{t:Ty}{l:List t.den}(le:Le g w g' w) (hk: ∀u,g.cur k n=some u→((u= .slice none 0 0∧n=0)∨∃b cap,u= .slice (some ⟨b,0,none⟩) n cap∧n≤cap)→sW g' w (.list t) l u):
    ∀{args:List pW}{vals:pI},vD g w args vals→(∀p∈JX k n args,p)→vD g' w (PF k t l args) vals
  |[],_,h,_=>h
  | s::ss,_,⟨v,vs,rfl,h1,h2⟩,hp=>by
    refine⟨v,vs,rfl,?_,aBn le hk h2 (fun p hp'=>hp p ?_)⟩
    · obtain⟨d,x⟩:=s
      cases d with
      | own j m=>
        simp only[a9x];split
        · rename_i e
          subst e;have hm:m=n:=hp (j=j→m=n) (by simp only[JX];exact aS2) rfl;subst hm;exact⟨hk _ h1.1.1 h1.1.2,trivial⟩
        .exact CV le h1
      |_=>exact CV le h1
    obtain⟨d,x⟩:=s
    cases d with
    |own j m=>simp only[JX];exact aSQ _ hp'
    |_=>exact hp'
theorem aBo {g g':Gh}{w w':pM}: ∀{l:List ((Σ t:Ty,t.den)×pK)}{vs:pI},TA l=true→HY g w l vs→HY g' w' (YH l) vs
  |[],_,_,h=>h
  | (⟨t,x⟩,k)::l,vs,hn,⟨v,vs',e,h1,h2,h3⟩=>by
    simp only[TA,aSV] at hn;exact⟨v,vs',e,h1.imp (fun⟨a,cs,e,q⟩=>⟨a,cs,e,KT hn.1 q⟩) (fun⟨a,q⟩=>⟨a,KT hn.1 q⟩),trivial,aBo hn.2 h3⟩
theorem aKE {g g':Gh}{w w':pM}{s s':pW}{v:pN}(h:TB s=some s') (hr:rH g w s v):rH g' w' s' v:=by
  unfold TB at h;split at h
  · split at h
    · rename_i hn
      cases h;exact⟨hr.1.imp (fun⟨a,cs,e,q⟩=>⟨a,cs,e,KT hn q⟩) (fun⟨a,q⟩=>⟨a,KT hn q⟩),trivial⟩
    cases h
  · split at h
    · rename_i hn
      cases h;obtain⟨vs,e,q⟩:=hr.1;exact⟨⟨vs,e,aBo hn q⟩,trivial⟩
    cases h
  cases h
theorem aKF {P:Program}{f:FuncId}{sg:r5}(hcon:yJ P f sg.C) {g:Gh}{w:pM}{H:rX}(hH:s5 g w H) {args:List pW}{vals:pI}(hargs:vD g w args vals) {base:Nat}{e:qI}{k:Nat}
    (hr:PG H base args sg k (pY H k)=some e) (hs: ∀p∈e.side,p) (hfr:xO g base e):Calls P f vals.toArray w (fun en w'=> ∃v g',en= .returned v∧rD g w H e g' w' v):=by
  cases hk:pY H k with
  |none=>rw[hk] at hr;cases hr
  | some b=>
    rw[hk] at hr;cases b with
    | row e0 t l m=>
      simp only[PG] at hr;cases hi:FQ ((k,.dead)::H) base (PF k t l args) (some sg) with
      |none=>rw[hi] at hr;cases hr
      | some e1=>
        rw[hi] at hr;obtain⟨side,s0,U,rds⟩:=e1;simp only[YJ] at hr;cases hsl:TB s0 with
        |none=>rw[hsl] at hr;cases hr
        | some s1=>
          rw[hsl] at hr;simp only[YI] at hr;split at hr
          · rename_i hnl
            simp only[aSV,aTg] at hnl;obtain⟨hU,hkU⟩:=hnl;have hkU':k∉q9 U:=fun h=>by rw[G3.2 h] at hkU;cases hkU
            cases hr;obtain⟨hl,v,xs,hv,hown,hF,hnone,hseal⟩:=hH.blk k _ hk
            let g':Gh:={g with S:=fun b o=>g.S b o∨(v.ownBlock=some b∧o<m*t.cells)}
            have le:Le g w g' w:=⟨fun _ _ h=> .inl h,fun _ _ _=>rfl,fun _ _ h=>h,fun _ _ _ h=>h⟩;have hown2: ∀b,v.ownBlock=some b→∀o,rY g k (.row e0 t l m) b o:=fun b hb o=>⟨v,hv,hb⟩
            have hlist: ∀u,g.cur k m=some u→((u= .slice none 0 0∧m=0)∨∃b cap,u= .slice (some ⟨b,0,none⟩) m cap∧m≤cap)→sW g' w (.list t) l u:=by
              intro u hu hshape;rw[hv] at hu;obtain rfl:=aSG hu;rcases hshape with⟨rfl,h0⟩ |⟨b,cap,rfl,hcap⟩
              · have:l=[]:=aS9 (by rw[hl,h0])
                subst this;exact .inr ⟨rfl,none,0,rfl,aSW _,.inl rfl⟩
              refine .inr ⟨rfl,some ⟨b,0,none⟩,cap,by rw[hl],by rw[hl];exact hcap,.inr ⟨b,0,rfl,I1 (C8 (fun _ _ h=>w8 le h) hF) (fun j u hu=>?_) (fun j hj=>?_)⟩⟩
              · have:=hown.cells (g:=b) rfl j u hu
                rwa [aTK] at this
              right
              exact⟨rfl,by rw[hl] at hj;omega⟩
            have hget: ∀i b,pY ((k,pV.dead)::H) i=some b→(i=k∧b= .dead)∨(i≠k∧pY H i=some b):=by
              intro i b hb;simp only[pY] at hb;split at hb
              .rename_i e1;exact .inl ⟨e1.symm,(aSG hb).symm⟩
              rename_i e1;exact .inr ⟨Ne.symm e1,hb⟩
            have hH':s5 g' w ((k,pV.dead)::H):=by
              refine⟨fun i b hb=>?_,fun i j bi bj b o hij h1 h2 o1 o2=>?_,fun b o hS=>?_,hH.tab.1,fun i b bb oo hb ho=>?_⟩
              · rcases hget i b hb with⟨rfl,rfl⟩ |⟨hne,h1⟩
                .trivial
                exact HZ (hH.blk i b h1) le rfl rfl (fun _ _ _=>⟨rfl,rfl⟩) (fun _ _=>rfl) (fun bb o ho hS=>by
                   rcases hS with hS|hS
                   .exact hS
                   exact absurd (hown2 bb hS.1 o) (fun h5=>hH.dis i k b _ bb o hne h1 hk ho h5)) (fun _ _ _ _ h=>h)
              · rcases hget i bi h1 with⟨_,rfl⟩ |⟨_,h1⟩
                .exact o1.elim
                rcases hget j bj h2 with⟨_,rfl⟩ |⟨_,h2⟩
                .exact o2.elim
                exact hH.dis i j bi bj b o hij h1 h2 ((wU (g':=g') (g:=g) rfl rfl).1 o1) ((wU (g':=g') (g:=g) rfl rfl).1 o2)
              · rcases hS with hS|hS
                .exact hH.sl b o hS
                exact KI hown hS.1
              rcases hget i b hb with⟨_,rfl⟩ |⟨_,h1⟩
              .exact ho.elim
              exact hH.tab.2 i b bb oo h1 ((wU (g':=g') (g:=g) rfl rfl).1 ho)
            have hsp: ∀p,p∈JX k m args∨p∈side→p:=fun p hp=>hs p (G0.2 hp)
            have hget2: ∀i,i≠k→pY ((k,pV.dead)::H) i=pY H i:=fun i hi=>by
              simp only[pY];rw[aSD (Ne.symm hi)]
            have hin: ∀{i},i∈q9 U→i≠k:=fun h e=>hkU' (e▸h)
            have hup: ∀{i blk},i∈q9 U→pY (qS U H) i=some blk→pY (qS U ((k,pV.dead)::H)) i=some blk:=by
              intro i blk hi h
              have: ∀{U:List (Nat×pV)},i∈q9 U→pY (qS U ((k,pV.dead)::H)) i=pY (qS U H) i:=by
                intro U
                induction U with
                |nil=>intro h;cases h
                | cons q U ih=>
                  intro h;obtain⟨j,b⟩:=q;simp only[qS,pY];split
                  .rfl
                  rename_i hne
                  simp only[q9,aSP] at h;exact ih (h.resolve_left (fun e=>hne e.symm))
              rw[this hi];exact h
            have hcells: ∀{i blk},i∈q9 U→pY (qS U H) i=some blk→∃t y,blk= .cells t y []∧FR t=true:=by
              intro i blk hi h
              have: ∀{U:List (Nat×pV)},MT U=true→i∈q9 U→pY (qS U H) i=some blk→∃t y,blk= .cells t y []∧FR t=true:=by
                intro U
                induction U with
                |nil=>intro _ h;cases h
                | cons q U ih=>
                  intro hU hi h;obtain⟨j,b⟩:=q;cases b with
                  | cells t y ts=>
                    cases ts with
                    |cons _ _=>simp [MT] at hU
                    | nil=>
                      simp only[MT,aSV] at hU;simp only[qS,pY] at h;split at h
                      · obtain rfl:=aSG h
                        exact⟨t,y,rfl,hU.1⟩
                      · rename_i hne
                        simp only[q9,aSP] at hi;exact ih hU.2 (hi.resolve_left (fun e=>hne e.symm)) h
                  |_=>simp [MT] at hU
              exact this hU hi h
            have hownI: ∀b o,sI g' ((k,pV.dead)::H) (q9 U) b o→sI g H (q9 U) b o:=fun b o ⟨i,blk,hi,h1,h2⟩=>⟨i,blk,hi,(hget2 i (hin hi)).symm.trans h1,(wU (g':=g') (g:=g) rfl rfl).1 h2⟩;refine(aBm hcon hH' (aBn le hlist hargs (fun p hp=>hsp p (.inl hp))) hi (fun p hp=>hsp p (.inr hp)) (fun i hi' hb=>hfr i hi' hb)).mono ?_;rintro en w' ⟨v1,g1,rfl,hE⟩
            let g2:Gh:={g1 with S:=g.S}
            have hle:Le g w g2 w':=⟨fun _ _ h=>h,fun b o h=>hE.le.cell b o (.inl h),fun i p h=>hE.le.J i p h,fun i n u h=>hE.le.cur i n u h⟩
            have hfr2:Fr (sI g H (q9 U)) w w' g.S g2.S:=
              ⟨hE.fr.os,hE.fr.tape,hE.fr.output,hE.fr.size,fun b hb hno=>hE.fr.blk b hb (fun o h=>hno o (hownI b o h)),fun b o hb hno=>hE.fr.cell b o hb (fun h=>hno (hownI b o h)),fun _ _ h=> .inl h,fun b s h=>(hE.fr.shape b s h).imp id fun h o=>hownI b o (h o)⟩
            have hgho: ∀i,i∉q9 U→g2.J i=g.J i∧g2.cur i=g.cur i:=fun i hi=>hE.gho i hi
            have hperm: ∀i blk b o,i∈q9 U→pY (qS U H) i=some blk→rY g2 i blk b o→w.heap.size≤b∨sI g H (q9 U) b o:=fun i blk b o hi hg ho=>
              (hE.perm i blk b o hi (hup hi hg) ((wU (g':=g2) (g:=g1) rfl rfl).1 ho)).imp id (hownI b o)
            refine⟨v1,g2,rfl,hle,?_,hH.upd hle hfr2 hperm hgho (fun i blk hi hg=>?_) (fun i j bi bj b o hi hj hij hgi hgj hoi hoj=>?_) (fun b o h=>aTd (hH.sl b o h) hE.fr.size),hfr2,hperm,hgho,fun i u y us h=>?_⟩
            .exact aKE hsl hE.slot
            · obtain⟨t2,y2,rfl,hn2⟩:=hcells hi hg
              obtain⟨p,cs,q1,q2,q3,q4,q5,_⟩:=hE.heap.blk i _ (hup hi hg);exact⟨p,cs,q1,KT hn2 q2,q3,q4,fun j hj hS=>q5 j hj (hE.le.S _ _ (.inl hS)),fun _ _ hm=>by cases hm⟩
            .exact hE.heap.dis i j bi bj b o hij (hup hi hgi) (hup hj hgj) ((wU (g':=g2) (g:=g1) rfl rfl).1 hoi) ((wU (g':=g2) (g:=g1) rfl rfl).1 hoj)
            by_cases hiU:i∈q9 U
            · rcases hE.ty i u y us (hup hiU h) with⟨x',ts',q⟩ |q
              .exact .inl ⟨x',ts',(hget2 i (hin hiU)).symm.trans q⟩
              exact .inr q
            exact .inl ⟨y,us,(A0 hiU).symm.trans h⟩
          .cases hr
    |_=>cases hr
theorem aKG {P:Program}{f:FuncId}{F:(t:Ty)→List t.den→Option (List t.den)}(hF:V7 P f F) {g:Gh}{w:pM}{H:rX}(hH:s5 g w H) {args:List pW}{vals:pI}(hargs:vD g w args vals) {e:qI}
    (hr:TC H F args=some e) (hs: ∀p∈e.side,p):Calls P f vals.toArray w (fun en w'=> ∃v g',en= .returned v∧rD g w H e g' w' v):=by
  unfold TC at hr;split at hr
  · rename_i k n x
    obtain⟨v,vs,rfl,ha,hv⟩:=hargs;rw[show vs=[] from hv];cases hk:pY H k with
    |none=>rw[hk] at hr;cases hr
    | some b=>
      rw[hk] at hr;cases b with
      | row e0 t l m=>
        simp only[YK] at hr;cases hf:F t l with
        |none=>rw[hf] at hr;cases hr
        | some l'=>
          rw[hf] at hr;cases hr;have hnm:n=m:=hs _ aS2;subst hnm;obtain⟨hl,v0,xs,hv0,hown,hFx,hnone,hseal⟩:=hH.blk k _ hk;have h1:=ha.1.1;rw[hv0] at h1;obtain rfl:=aSG h1;refine(hF g w e0 t l l' v0 n xs hH.tab.1 hown hFx hl (hs _ pD) hf).mono ?_;rintro en w' ⟨rfl,hl',xs',k1,k2,k3⟩;have hownk: ∀b,v0.ownBlock=some b→∀o,sI g H [k] b o:=fun b hb o=>⟨k,_,by simp,hk,v0,hv0,hb⟩;refine⟨_,_,rfl,rD.row (v:=v0) (xs:=xs') hH hl' k1 k2 hnone (fun u hu=>by rw[hv0] at hu;exact(aSG hu).symm) (.inr ⟨v0.ownBlock,k3,hownk⟩) (fun b o hS=>?_) hseal (fun b hb=> .inr (hownk b hb)) ⟨⟨[],rfl,rfl⟩,trivial⟩⟩;have hne:v0.ownBlock≠some b:=fun e=>hseal b e o hS;exact aS0 (a:=⟨b,o,none⟩) (k3.block b (hH.sl b o hS) (fun e=>hne e.symm))
      |_=>cases hr
  cases hr
section
variable {P:Program}{o:Oper}{a:Act}{g:Gh}{w:pM}{H:rX}{T:sG}{Γ:sV}(hT:wW P T) (hΓ:DG P Γ) (hH:s5 g w H)
include hT hΓ hH
theorem aBp {f:FuncId}{args:List pW}{vals:pI}(hargs:vD g w args vals) {base:Nat}{e:qI}(hr:K3 H base args (HP Γ f)=some e) (hs: ∀p∈e.side,p) (hfr:xO g base e):
    (∀args w,(callFunc f args).run P w= .ok (.enter f args) w)∧Calls P f vals.toArray w (fun en w'=> ∃v g',en= .returned v∧rD g w H e g' w' v):=by
  cases hg:HP Γ f with
  |none=>rw[hg] at hr;cases hr
  | some sg=>
    rw[hg] at hr
    obtain⟨hlt,hg⟩:f<1000000000∧Γ f=some sg:=by
      unfold HP at hg;split at hg
      .rename_i h;exact⟨h,hg⟩
      cases hg
    obtain⟨hcon,hrow⟩:=hΓ f sg hlt hg;refine⟨hcon.1,?_⟩;simp only[K3] at hr;cases hF:sg.row with
    | some F=>
      rw[hF] at hr;exact aKG (hrow F hF) hH hargs hr hs
    | none=>
      rw[hF] at hr;simp only[U7] at hr;cases hn:PE sg.ps args with
      | some k=>
        rw[hn] at hr;exact aKF hcon hH hargs hr hs hfr
      | none=>
        rw[hn] at hr;exact aBm hcon hH hargs hr hs hfr
theorem aBq {fop:Operand}{args:Array Operand}{tys:Array TypeId}(ho:o.op= .call ⟨.value fop,args,tys⟩) {ρ:Operand→pW}(hf:rH g w (ρ fop) (a.eval fop)) (hρ: ∀x∈args.toList,rH g w (ρ x) (a.eval x)) {base:Nat}{e:qI}
    (hr:K4 Γ H base (BF T ρ args.toList tys.toList) (ρ fop)=some e) (hs: ∀p∈e.side,p) (hfr:xO g base e) (hlen:args.size=tys.size):r8 P o a g w H e:=by
  have hargs:=V9 (a:=a) (ρ:=ρ) hT hΓ hH (xs:=args.toList) (ts:=tys.toList) (by simpa using hlen) hρ;unfold K4 at hr;split at hr
  · rename_i f caps k heq
    rw[heq] at hf
    obtain⟨vs,hcv,hfv⟩: ∃vs,y7 g caps vs∧a.eval fop= .func (.func f) #[] vs.toArray:=by
      rcases hf.1 with⟨h1,_⟩ |⟨_,vs,h2,h3⟩
      .cases h1
      simp only[aTk,and_true] at h3
      exact⟨vs,h2,h3⟩
    obtain⟨hen,hc⟩:=aBp hT hΓ hH (aJ6 hT hΓ hH hargs (aAS hT hΓ hH hcv)) hr hs hfr;intro K Q hK;refine VA ho hfv hen (hc.mono ?_);rintro en w' ⟨v,g',rfl,hE⟩;exact⟨v,rfl,hK _ w' v hE.w⟩
  · rename_i f k heq
    rw[heq] at hf
    have hfv:a.eval fop= .func (.func f) #[] ([]:pI).toArray:=by
      rcases hf.1 with⟨h1,_⟩ |⟨_,h2⟩
      .cases h1
      simpa[Rd,UR] using h2
    obtain⟨hen,hc⟩:=aBp hT hΓ hH hargs hr hs hfr;intro K Q hK;refine VA ho hfv hen ?_;rw[List.append_nil];refine hc.mono ?_;rintro en w' ⟨v,g',rfl,hE⟩;exact⟨v,rfl,hK _ w' v hE.w⟩
  cases hr
theorem aKH {fop:Operand}{args:Array Operand}{tys:Array TypeId}(ho:o.op= .call ⟨.value fop,args,tys⟩) {ρ:Operand→pW}(hf:a.eval fop= .func (.func HH) #[] #[]) (hρ: ∀x∈args.toList,rH g w (ρ x) (a.eval x)) {e:qI}
    (hr:ZJ (BF T ρ args.toList tys.toList) (rO T JP)=some e) (hlen:args.size=tys.size):r8 P o a g w H e:=by
  have hargs:=V9 (a:=a) (ρ:=ρ) hT hΓ hH (xs:=args.toList) (ts:=tys.toList) (by simpa using hlen) hρ;have hfv:a.eval fop= .func (.func HH) #[] ([]:pI).toArray:=hf
  have go: ∀{s:pW}{el by':Nat}{ar:Bool}{ls:List (Nat×TypeId×Nat)},BF T ρ args.toList tys.toList=[s]→rO T JP=some ⟨.ap,el,by',ar,ls⟩→(∀v,rH g w s v→∀g' w',Le g w g' w'→yH g' w' s.1 v)→(∀v,rH g w s v→∃p,v= .pointer p)→r8 P o a g w H ⟨[],(.apd s.1,none),[],[]⟩:=by
    intro s el by' ar ls h1 h2 h3 h4;rw[h1] at hargs;obtain⟨v,vs,hv,hs,hvs⟩:=hargs;rw[show vs=[] from hvs] at hv;obtain⟨pp,rfl⟩:=h4 v hs;obtain⟨_,hmk,hen,_,_⟩:=(sP hT h2).2;intro K Q hK;refine VA ho hfv hen ?_;rw[List.append_nil,hv];refine(hmk w pp).mono ?_;rintro en w' ⟨b,rfl,hb,hb2,hc,hbel⟩;have e1:=rD.below hH hbel
    let g':Gh:={g with S:=fun q oo=>g.S q oo∨(q=b∧oo=0)}
    have le:Le g w' g' w':=⟨fun _ _ h=> .inl h,fun _ _ _=>rfl,fun _ _ h=>h,fun _ _ _ h=>h⟩
    have hno: ∀i blk,pY H i=some blk→∀oo,¬rY g i blk b oo:=fun i blk h1 oo h2=>by
      have:=KJ (hH.blk i blk h1) h2;omega
    have hH2:s5 g' w' H:=by
      have h4:s5 g w' H:=e1.heap;refine⟨fun i blk hg=>HZ (h4.blk i blk hg) le rfl rfl (fun _ _ _=>⟨rfl,rfl⟩) (fun _ _=>rfl) (fun q oo ho hS=>?_) (fun _ _ _ _ h=>h),fun i j bi bj q oo hij h5 h6 o1 o2=>h4.dis i j bi bj q oo hij h5 h6 ((wU (g':=g') (g:=g) rfl rfl).1 o1) ((wU (g':=g') (g:=g) rfl rfl).1 o2),fun q oo hS=>?_,h4.tab.1,fun i blk q oo hg ho=>h4.tab.2 i blk q oo hg ((wU (g':=g') (g:=g) rfl rfl).1 ho)⟩
      · rcases hS with hS|⟨rfl,_⟩
        .exact hS
        exact absurd ho (hno i blk hg oo)
      rcases hS with hS|⟨rfl,_⟩
      .exact h4.sl q oo hS
      exact hb2
    have hle2:Le g w g' w':=e1.le.trans le;refine⟨_,rfl,hK g' w' _ (rD.w ⟨hle2,⟨⟨b,.pointer pp,rfl,.inr ⟨rfl,rfl⟩,hc,h3 _ hs g' w' hle2⟩,trivial⟩,hH2,⟨e1.fr.os,e1.fr.tape,e1.fr.output,e1.fr.size,e1.fr.blk,e1.fr.cell,fun q oo hS=>?_,e1.fr.shape⟩,fun _ _ _ _ hi=>(by cases hi),fun _ _=>⟨rfl,rfl⟩,fun _ _ y us h=> .inl ⟨y,us,h⟩⟩)⟩;rcases hS with hS|⟨rfl,_⟩
    .exact .inl hS
    exact .inr (.inl hb)
  unfold ZJ at hr;split at hr
  · rename_i p k el by' ar ls h1 h2
    cases hr
    exact go h1 h2 (fun v hs g' w' hle=>Q0 hle hs.1) (fun v hs=>by
      rcases hs.1 with⟨h,_⟩ |⟨_,q,_,h⟩
      .cases h
      exact⟨_,(List.cons.inj h).1⟩)
  · rename_i k n c ix oo k2 el by' ar ls h1 h2
    cases hr
    exact go h1 h2 (fun v hs g' w' hle=>Q0 hle hs.1) (fun v hs=>by
      obtain⟨b,cap,_,_,_,h⟩:=hs.1;exact⟨_,h⟩)
  cases hr
omit hT hΓ hH in
theorem a0V {x:Nat×Nat}{o n:Nat}: ∀{ts:pG},x∈sZ ts o n→x∈ts
  |[],h=>h
  | (q,k)::r,h=>by
    simp only[sZ] at h;split at h
    .exact aSQ _ (a0V h)
    rcases aSP.1 h with h|h
    .rw[h];exact aS2
    exact aSQ _ (a0V h)
omit hT hΓ hH in
theorem aKI {v:Ty}: ∀{t:Ty}{x:t.den}{o:Nat}{y:p7}{l:(Ty.list v).den},qT .str t x o=some y→qT (.list v) t x o=some l→False:=by
  intro t
  induction t with
  | pair a b iha ihb=>
    intro x o y l h g
    have key: ∀{w:Ty}(hw:w.isRow=false),qT w (.pair a b) x o=(if o<a.cells then qT w a x.1 o else qT w b x.2 (o-a.cells)):=by
      intro w hw;cases o with
      | zero=>
        conv=>lhs;unfold qT
        rw[aT0 (by intro e;subst e;cases hw),Nat.zero_sub]
      |succ o=>simp [qT]
    rw[key rfl] at h g;split at h
    · rename_i ho
      rw[aSB ho] at g;exact iha h g
    · rename_i ho
      rw[aSD ho] at g;exact ihb h g
  | str=>
    intro x o y l h g;cases o with
    | zero=>
      unfold qT at g;split at g
      .rename_i e;cases e
      .cases g
    |succ o=>simp [qT] at g
  | _=>
    intro x o y l h g;cases o with
    | zero=>
      unfold qT at h;split at h
      .rename_i e;cases e
      .cases h
    |succ o=>simp [qT] at h
omit hT hΓ in
theorem aKJ {i:Nat}{u:Ty}{x z:u.den}{y:p7}{toks0 toks:pG}{p:Pl}(hb:pY H i=some (.cells u x toks0)) (hp:g.J i=some p) (hsub: ∀x∈toks,x∈toks0) {o:Nat}(hg:qT .str u x o=some y) (hset:sB .str y u x o=some z):
    rD g w H ⟨[],(.any,none),[(i,.cells u z toks)],[]⟩ g w undef:=by
  refine rD.reread hH hb hp hsub (fun cs hR _=>?_) (fun v q l hl=>V3 hH hset hl (fun⟨h1,h2⟩=>?_))
  · obtain⟨c1,c2,c3,rfl,rfl,hR2⟩:=BH hR hg
    have e2:c2=[.string ⟨y.toArray⟩]:=hR2;exact a0z hset (v:= .string ⟨y.toArray⟩) rfl hR (by rw[e2];simp)
  have:q=o:=by simp only[Ty.cells] at h2;omega
  subst this;exact aKI hg hl
omit hT hΓ in
theorem aBr {i:Nat}{u:Ty}{x z:u.den}{b:Bool}{y:p7}{ts:pG}{p:Pl}{o:Nat}(hb:pY H i=some (.cells u x ts)) (hp:g.J i=some p) (hset:MX b y o (some x)=some z):
    rD g w H ⟨[],(.any,none),[(i,.cells u z (sZ ts o 1))],[]⟩ g (if b=true then w.setCells p.1 (p.2+o) [.string ⟨y.toArray⟩] else w) undef:=by
  simp only[MX] at hset;cases hy:qT .str u x o with
  |none=>rw[hy] at hset;cases hset
  | some y0=>
    rw[hy] at hset;simp only[a9R] at hset;cases b with
    | true=>
      rw[aSB rfl];exact(rD.store (side:=[]) (rds:=[]) (k:=none) (v:= .string ⟨y.toArray⟩) hH hb hp (t:= .str) hset (cy:=[.string ⟨y.toArray⟩]) rfl trivial (fun _ _ _=>rfl) (fun _=>rfl)).1
    | false=>
      rw[aSD pD];exact aKJ hH hb hp (fun _ h=>a0V h) hy hset
omit hT hΓ in
theorem rD.again {k:Nat}{b:pV}(hk:pY H k=some b):rD g w H ⟨[],(.any,none),[(k,b)],[]⟩ g w undef:=by
  refine rD.more (U:=[]) (sd:=[]) (r:=[]) (rD.pure hH ⟨trivial,trivial⟩) (fun i=>?_) (fun _ h=>by cases h);simp only[qS,pY];split
  .rename_i e;subst e;exact hk.symm
  rfl
omit hT hΓ in
theorem aBs {i:Nat}{u:Ty}{x:u.den}{y:p7}{ts:pG}{p:Pl}{o:Nat}(hb:pY H i=some (.cells u x ts)) (hp:g.J i=some p) (hy:qT .str u x o=some y):w.cell? ⟨p.1,p.2+o,none⟩=some (.string ⟨y.toArray⟩)∧w.frozen? ⟨p.1,p.2+o,none⟩=false:=by
  obtain⟨p',cs,hp',hR,hra,hth,_,_⟩:=hH.blk i _ hb;rw[hp] at hp';obtain rfl:=aSG hp';have hl:=sJ hR;obtain⟨c1,c2,c3,rfl,rfl,hR2⟩:=BH hR hy;have e2:c2=[.string ⟨y.toArray⟩]:=hR2;subst e2;simp only[aSH,aTI] at hl;exact⟨hra _ _ pD,(hth.1 _ pB).2⟩
omit hT hΓ in
theorem aBt {k:Nat}{e:TypeId}{t:Ty}{l:List t.den}{m b cap j o':Nat}{x:t.den}{v:pN}(hk:pY H k=some (.row e t l m)) (hcur:g.cur k m=some (.slice (some ⟨b,0,none⟩) m cap)) (hx:l[j]? =some x) (hv: ∀cs,Rd g w t x cs→cs[o']? =some v) (ho:o'<t.cells):
    w.cell? ⟨b,j*t.cells+o',none⟩=some v∧w.frozen? ⟨b,j*t.cells+o',none⟩=false:=by
  obtain⟨hl,v0,xs,hv0,hown,hF,_,_⟩:=hH.blk k _ hk;rw[hcur] at hv0;obtain rfl:=aSG hv0;obtain⟨c1,c2,c3,e1,e2,e3,e4⟩:=V0 hF hx
  have h1:=hown.cells (g:=b) rfl (j*t.cells+o') v (by
    rw[e1,aSN,aSM pB,e2,aTr,aSU pB];exact hv c2 e4)
  rw[aTK,aTa] at h1;rcases hown.2 with⟨h5,_⟩ |⟨q,cap',cur,h5,_,hg,_⟩
  .cases h5
  simp only[aUc,aSC,Addr.mk.injEq,and_true,true_and] at h5;obtain⟨rfl,rfl⟩:=h5;exact⟨h1,frozen_of_row w b _ cur e hg⟩
omit hT hΓ in
theorem aKK {k:Nat}{e:TypeId}{l:p8}{m:Nat}{b:Bool}{z:p7}(hk:pY H k=some (.row e .str l m)) {bb cap:Nat}(hc:b=true→g.cur k m=some (.slice (some ⟨bb,0,none⟩) m cap)∧0<m):
    ∃g',rD g w H ⟨[],(.any,none),[(k,.row e .str (EP b z l) m)],[]⟩ g' (if b=true then w.setCells bb (m-1) [.string ⟨z.toArray⟩] else w) undef:=by
  cases b with
  | false=>
    rw[aSD pD];exact⟨g,rD.again hH hk⟩
  | true=>
    obtain⟨h1,h2⟩:=hc rfl;have hl:=(hH.blk k _ hk).1;rw[aSB rfl];have:=rD.poke (o':=0) (uT:= .str) (y:=z) (z':=z) (i:=((m-1:Nat):Int)) (u:= .string ⟨z.toArray⟩) hH hk h1 pB pB (by unfold sB;rw[aUu rfl];rfl) rfl;refine⟨g.tok k m (.slice (some ⟨bb,0,none⟩) m cap),?_⟩
    have e1:EP true z l=l.set (((m-1:Nat):Int)).toNat z:=by
      unfold EP;rw[aSB rfl,aTs,hl]
    have e2:(((m-1:Nat):Int)).toNat*(Ty.str).cells+0=m-1:=by simp [Ty.cells]
    rw[e1];rw[e2] at this;exact this
omit hT hΓ in
theorem aKL {k:Nat}{e:TypeId}{l:List (p7×p7×Unit)}{m:Nat}{b:Bool}{z:p7}(hk:pY H k=some (.row e FV l m)) {bb cap:Nat}(hc:b=true→g.cur k m=some (.slice (some ⟨bb,0,none⟩) m cap)∧0<m):
    ∃g',rD g w H ⟨[],(.any,none),[(k,.row e FV (EQ b z l) m)],[]⟩ g' (if b=true then w.setCells bb ((m-1)*2+1) [.string ⟨z.toArray⟩] else w) undef:=by
  cases b with
  | false=>
    rw[aSD pD];exact⟨g,rD.again hH hk⟩
  | true=>
    obtain⟨h1,h2⟩:=hc rfl;have hl:List.length l=m:=(hH.blk k _ hk).1;rw[aSB rfl]
    have hn:qE FV l (((m-1:Nat):Int))=l.getD (l.length-1) ([],[],()):=by
      unfold qE;rw[aTs,hl];rfl
    have:=rD.poke (t:=FV) (l:=l) (o':=1) (uT:= .str) (y:=z) (z':=((l.getD (l.length-1) ([],[],())).1,z,())) (i:=((m-1:Nat):Int)) (u:= .string ⟨z.toArray⟩) hH hk h1 pB pB (by rw[hn];rfl) rfl;refine⟨g.tok k m (.slice (some ⟨bb,0,none⟩) m cap),?_⟩
    have e1:EQ true z l=List.set l (((m-1:Nat):Int)).toNat ((l.getD (l.length-1) ([],[],())).1,z,()):=by
      unfold EQ;rw[aSB rfl,aTs,hl]
    have e2:(((m-1:Nat):Int)).toNat*FV.cells+1=(m-1)*2+1:=by simp [Ty.cells]
    rw[e1];rw[e2] at this;exact this
theorem aKM {fop:Operand}{args:Array Operand}{tys:Array TypeId}(ho:o.op= .call ⟨.value fop,args,tys⟩) {ρ:Operand→pW}{x:Nat×Nat×(Nat×Nat)×(Nat×Nat)}(hf:sW g w .ap x (a.eval fop)) (hρ: ∀x∈args.toList,rH g w (ρ x) (a.eval x)) {e:qI}
    (hr:K8 Γ H x (BF T ρ args.toList tys.toList) (rO T JP)=some e) (hs: ∀p∈e.side,p) (hlen:args.size=tys.size):r8 P o a g w H e:=by
  have hargs:=V9 (a:=a) (ρ:=ρ) hT hΓ hH (xs:=args.toList) (ts:=tys.toList) (by simpa using hlen) hρ;generalize hss:BF T ρ args.toList tys.toList=ss at hr hargs;generalize hst:rO T JP=ot at hr;unfold K8 at hr;split at hr
  case h_2=>cases hr
  rename_i c i k3 n3 k4 n4 s kk el by' ar ls;obtain⟨v0,vs',hv,hs1,hvs⟩:=hargs;rw[show vs'=[] from hvs] at hv;have hv0:=wY hs1.1;obtain⟨_,_,_,hen,hap⟩:=(sP hT hst).2;generalize hi:pY H i=oi at hr;generalize hne:ZO i k3 k4=ne at hr;unfold UB at hr;split at hr
  case h_2=>cases hr
  rename_i u xo ts;generalize h3:pY H k3=o3 at hr;generalize h4:pY H k4=o4 at hr;unfold ZN at hr;split at hr
  case h_2=>cases hr
  rename_i e3 l3 m3 e4 l4 m4;generalize hsg:HP Γ FO=osg at hr;generalize hy1:qT .str u xo 6=oy1 at hr;generalize hy2:qT .str u xo 7=oy2 at hr;cases osg with
  |none=>cases hr
  |some sg=>
  cases oy1 with
  |none=>cases hr
  |some y1=>
  cases oy2 with
  |none=>cases hr
  |some y2=>
  simp only[ZM] at hr;generalize hy:K6 c y1 y2 (EO l3) (HQ l4)=y at hr;generalize hC:sg.C [(.val .str (y++s),none)] []=oC at hr;unfold ZL at hr;split at hr
  case h_2=>cases hr
  rename_i sd ok;generalize hx1:MX (ok&&decide (c=1)) (y++s) 6 (some xo)=ox1 at hr;cases ox1 with
  |none=>cases hr
  |some x1=>
  generalize hx2:MX (ok&&decide (c=2)) (y++s) 7 (some x1)=ox2 at hr;cases ox2 with
  |none=>cases hr
  |some x2=>
  simp only[ZK,aSC] at hr;subst hr;have hc0:c≠0:=hs _ pD;have hn3:n3=m3:=hs _ pD;have hn4:n4=m4:=hs _ pD;have hlz:((y++s).length:Int)≤9223372036854775807:=hs _ pD;have hsd: ∀p∈sd,p:=fun p hp=>hs p (by simp [hp]);subst hn3 hn4
  obtain⟨hik3,hik4,hk34⟩:i≠k3∧i≠k4∧k3≠k4:=by
    unfold ZO at hne;split at hne
    .cases hne
    split at hne
    .cases hne
    split at hne
    .cases hne
    exact⟨by assumption,by assumption,by assumption⟩
  rcases wX rfl hf with⟨h,_⟩ |⟨_,b,α,e1,hS,hcell,a1,a2,a3,a4⟩
  .exact absurd h hc0
  simp only[aTk,and_true] at e1;obtain⟨p,cs0,hp,_⟩:=hH.blk i _ hi
  have hα:w.cell? α=some (.string ⟨y.toArray⟩)∧w.frozen? α=false∧α.spot=none:=by
    by_cases c1:c=1
    · subst c1
      obtain⟨p',hp',rfl⟩:=a1 rfl;rw[hp] at hp';obtain rfl:=aSG hp';have:y=y1:=by rw[←hy];rfl
      subst this;have:=aBs hH hi hp hy1;exact⟨this.1,this.2,rfl⟩
    by_cases c2:c=2
    · subst c2
      obtain⟨p',hp',rfl⟩:=a2 rfl;rw[hp] at hp';obtain rfl:=aSG hp';have:y=y2:=by rw[←hy];rfl
      subst this;have:=aBs hH hi hp hy2;exact⟨this.1,this.2,rfl⟩
    by_cases c3:c=3
    · subst c3
      obtain⟨bb,cap,hcur,hpos,rfl⟩:=a3 rfl;have:y=EO l3:=by rw[←hy];rfl
      subst this;have hl:List.length l3=n3:=(hH.blk k3 _ h3).1;have hlt:n3-1<l3.length:=by omega
      have hx:l3[n3-1]? =some (EO l3):=by
        unfold EO;rw[aSZ,hl,aSK hlt];rfl
      have:=aBt (o':=0) hH h3 hcur hx (fun cs hR=>by rw[show cs=[.string ⟨(EO l3).toArray⟩] from hR];rfl) (by simp [Ty.cells]);simp only[Ty.cells,aUs,aTP] at this;exact⟨this.1,this.2,rfl⟩
    obtain⟨bb,cap,hcur,hpos,rfl⟩:=a4 pB
    have:y=HQ l4:=by
      rw[←hy];unfold K6;rw[aSD c1,aSD c2,aSD c3]
    subst this;have hl:List.length l4=n4:=(hH.blk k4 _ h4).1;have hlt:n4-1<List.length l4:=by omega
    have hx:l4[n4-1]? =some (l4.getD (l4.length-1) ([],[],())):=by
      rw[aSZ,hl,aSK hlt];rfl
    have:=aBt (t:=FV) (o':=1) (v:= .string ⟨(HQ l4).toArray⟩) hH h4 hcur hx (fun cs hR=>by
      obtain⟨d1,d2,rfl,r1,e1,e2,rfl,r2,r3⟩:=hR;rw[show d1=[_] from r1,show e1=[_] from r2];rfl) (by simp [Ty.cells])
    simp only[Ty.cells] at this;exact⟨this.1,this.2,rfl⟩
  have hval: ∀w1,Below w.heap.size w w1→Calls P FO #[.string ⟨(y++s).toArray⟩] w1 fun e w'=>e= .returned (.bool ok)∧Below w1.heap.size w1 w':=by
    intro w1 hb1
    obtain⟨hlt,hg⟩:FO<1000000000∧Γ FO=some sg:=by
      unfold HP at hsg;split at hsg
      .rename_i h;exact⟨h,hsg⟩
      cases hsg
    have hT1:EH w1:=HI hH.tab.1 hb1.size (fun q hq=>hb1.block q (aTd hq hH.tab.1.1));have hH0:s5 ⟨fun _ _=>False,fun _=>none,fun _ _=>none⟩ w1 (qP 0 []):=⟨fun _ _ h=>(by cases h),fun _ _ _ _ _ _ _ h=>(by cases h),fun _ _ h=>h.elim,⟨hT1,fun _ _ _ _ h=>(by cases h)⟩⟩;refine((hΓ FO sg hlt hg).1.2 _ w1 [(.val .str (y++s),none)] [.string ⟨(y++s).toArray⟩] [] _ hH0 ⟨_,[],rfl,⟨.inr ⟨rfl,rfl⟩,trivial⟩,rfl⟩ hC hsd).mono ?_;rintro en w' ⟨v,g',rfl,r⟩;refine⟨by rw[vB r.ret.1],r.fr.os,r.fr.tape,r.fr.output,r.fr.size,fun q hq=>r.fr.blk q hq fun oo ⟨j,blk,h1,_⟩=>(by cases h1)⟩
  have key:=hap w b α y s ok hcell hα.1 hα.2.1 hα.2.2 hlz hval;intro K Q hK;refine VA ho (caps:=[.pointer (some ⟨b,0,none⟩)]) (by rw[e1]) hen ?_;rw[hv,hv0];refine key.mono ?_;rintro en w' ⟨rfl,w1,hbel,hw'⟩;have E0:=rD.below hH hbel;have E1:=aBr (b:=ok&&decide (c=1)) (y:=y++s) (o:=6) E0.heap hi hp hx1;have hi1:pY (qS [(i,pV.cells u x1 (sZ ts 6 1))] H) i=some (.cells u x1 (sZ ts 6 1)):=by simp [qS,pY]
  have E2:=aBr (b:=ok&&decide (c=2)) (y:=y++s) (o:=7) E1.heap hi1 hp hx2
  have h3':pY (qS [(i,pV.cells u x2 (sZ (sZ ts 6 1) 7 1))] (qS [(i,pV.cells u x1 (sZ ts 6 1))] (qS [] H))) k3=some (.row e3 .str l3 n3):=by
    simp only[qS,pY];rw[aSD hik3,aSD hik3];exact h3
  obtain⟨bb,cap,hb3⟩: ∃bb cap,((ok&&decide (c=3))=true→g.cur k3 n3=some (.slice (some ⟨bb,0,none⟩) n3 cap)∧0<n3∧α=⟨bb,n3-1,none⟩):=by
    by_cases c3:c=3
    · obtain⟨bb,cap,q1,q2,q3⟩:=a3 c3
      exact⟨bb,cap,fun _=>⟨q1,q2,q3⟩⟩
    exact⟨0,0,fun h=>by simp [c3] at h⟩
  obtain⟨g3,E3⟩:=aKK (b:=ok&&decide (c=3)) (z:=y++s) (bb:=bb) (cap:=cap) E2.heap h3' (fun h=>⟨(hb3 h).1,(hb3 h).2.1⟩)
  have h4':pY (qS [(k3,pV.row e3 .str (EP (ok&&decide (c=3)) (y++s) l3) n3)] (qS [(i,pV.cells u x2 (sZ (sZ ts 6 1) 7 1))] (qS [(i,pV.cells u x1 (sZ ts 6 1))] (qS [] H)))) k4=some (.row e4 FV l4 n4):=by
    simp only[qS,pY];rw[aSD hk34,aSD hik4,aSD hik4];exact h4
  obtain⟨bb4,cap4,hb4⟩: ∃bb cap,((ok&&decide (4≤c))=true→g.cur k4 n4=some (.slice (some ⟨bb,0,none⟩) n4 cap)∧0<n4∧α=⟨bb,(n4-1)*2+1,none⟩):=by
    by_cases c4:4≤c
    · obtain⟨bb,cap,q1,q2,q3⟩:=a4 c4
      exact⟨bb,cap,fun _=>⟨q1,q2,q3⟩⟩
    exact⟨0,0,fun h=>by simp [c4] at h⟩
  obtain⟨g4,E4⟩:=aKL (b:=ok&&decide (4≤c)) (z:=y++s) (bb:=bb4) (cap:=cap4) E3.heap h4' (fun h=>⟨E3.le.cur _ _ _ (hb4 h).1,(hb4 h).2.1⟩);have T1:=rD.trans (side:=[]) (rds:=[]) E0 E1;have T2:=rD.trans (side:=[]) (rds:=[]) T1 E2;have T3:=rD.trans (side:=[]) (rds:=[]) T2 E3;have T4:=rD.trans (side:=[]) (rds:=[]) T3 E4
  have hww:(if (ok&&decide (4≤c))=true then(if (ok&&decide (c=3))=true then(if (ok&&decide (c=2))=true then(if (ok&&decide (c=1))=true then w1.setCells p.1 (p.2+6) [.string ⟨(y++s).toArray⟩] else w1).setCells p.1 (p.2+7) [.string ⟨(y++s).toArray⟩] else(if (ok&&decide (c=1))=true then w1.setCells p.1 (p.2+6) [.string ⟨(y++s).toArray⟩] else w1)).setCells bb (n3-1) [.string ⟨(y++s).toArray⟩] else(if (ok&&decide (c=2))=true then(if (ok&&decide (c=1))=true then w1.setCells p.1 (p.2+6) [.string ⟨(y++s).toArray⟩] else w1).setCells p.1 (p.2+7) [.string ⟨(y++s).toArray⟩] else(if (ok&&decide (c=1))=true then w1.setCells p.1 (p.2+6) [.string ⟨(y++s).toArray⟩] else w1))).setCells bb4 ((n4-1)*2+1) [.string ⟨(y++s).toArray⟩] else(if (ok&&decide (c=3))=true then(if (ok&&decide (c=2))=true then(if (ok&&decide (c=1))=true then w1.setCells p.1 (p.2+6) [.string ⟨(y++s).toArray⟩] else w1).setCells p.1 (p.2+7) [.string ⟨(y++s).toArray⟩] else(if (ok&&decide (c=1))=true then w1.setCells p.1 (p.2+6) [.string ⟨(y++s).toArray⟩] else w1)).setCells bb (n3-1) [.string ⟨(y++s).toArray⟩] else(if (ok&&decide (c=2))=true then(if (ok&&decide (c=1))=true then w1.setCells p.1 (p.2+6) [.string ⟨(y++s).toArray⟩] else w1).setCells p.1 (p.2+7) [.string ⟨(y++s).toArray⟩] else(if (ok&&decide (c=1))=true then w1.setCells p.1 (p.2+6) [.string ⟨(y++s).toArray⟩] else w1))))=w':=by
    rw[hw'];cases ok with
    |false=>simp
    | true=>
      by_cases c1:c=1
      · subst c1
        obtain⟨p',hp',rfl⟩:=a1 rfl;rw[hp] at hp';obtain rfl:=aSG hp';simp
      by_cases c2:c=2
      · subst c2
        obtain⟨p',hp',rfl⟩:=a2 rfl;rw[hp] at hp';obtain rfl:=aSG hp';simp
      by_cases c3:c=3
      · subst c3
        rw[(hb3 pD).2.2];simp
      have c4:4≤c:=by omega
      rw[(hb4 (by simp [c4])).2.2];simp [c1,c2,c3,c4]
  rw[hww] at T4;refine⟨_,rfl,hK g4 w' _ (rD.w ?_)⟩;refine(rD.more (sd2:=[]) (r2:=[]) (U2:=[(i,pV.cells u x2 (sZ (sZ ts 6 1) 7 1)),(k3,.row e3 .str (EP (ok&&decide (c=3)) (y++s) l3) n3),(k4,.row e4 FV (EQ (ok&&decide (4≤c)) (y++s) l4) n4)]) T4 (fun j=>?_) (fun j hj=>?_)).slot' ⟨.inr ⟨rfl,rfl⟩,trivial⟩
  · simp only[qS,pY]
    by_cases j1:i=j
    · subst j1
      rw[aSB rfl,aSD (Ne.symm hik4),aSD (Ne.symm hik3),aSB rfl]
    rw[aSD j1]
    by_cases j3:k3=j
    · subst j3
      rw[aSB rfl,aSD (Ne.symm hk34),aSB rfl]
    rw[aSD j3]
    by_cases j4:k4=j
    · subst j4
      rw[aSB rfl,aSB rfl]
    rw[aSD j4,aSD j4,aSD j3,aSD j1,aSD j1]
  simp only[qS,q9,aSP,aT2,or_false] at hj|-
  rcases hj with rfl|rfl|rfl|rfl<;>simp
theorem aKN {fop:Operand}{args:Array Operand}{tys:Array TypeId}(ho:o.op= .call ⟨.value fop,args,tys⟩) {ρ:Operand→pW}(hf:rH g w (ρ fop) (a.eval fop)) (hρ: ∀x∈args.toList,rH g w (ρ x) (a.eval x)) {base:Nat}{e:qI}
    (hr:MY T Γ base H (BF T ρ args.toList tys.toList) (ρ fop)=some e) (hs: ∀p∈e.side,p) (hfr:xO g base e) (hlen:args.size=tys.size):r8 P o a g w H e:=by
  unfold MY at hr;split at hr
  · rename_i x k heq
    rw[heq] at hf;exact aKM hT hΓ hH ho hf.1 hρ hr hs hlen
  · rename_i f caps k heq
    unfold ZP at hr;split at hr
    · rename_i hfm
      rw[heq] at hf;unfold a9Q at hr;split at hr
      · subst hfm
        refine aKH hT hΓ hH ho ?_ hρ hr hlen;rcases hf.1 with⟨h1,_⟩ |⟨_,vs,h2,h3⟩
        .cases h1
        rw[show vs=[] from h2] at h3
        simpa using h3
      cases hr
    exact aBq hT hΓ hH ho hf hρ (by rw[heq];exact hr) hs hfr hlen
  rename_i s _ _
  exact aBq hT hΓ hH ho hf hρ hr hs hfr hlen
theorem aBu: ∀{xs:List Operand}{ts:List TypeId},K5 xs ts=true→xs.length=ts.length
  |[],[],_=>rfl
  |_::xs,_::ts,h=>by simp only[K5] at h;simp [aBu h]
  |[],_::_,h=>by cases h
  |_::_,[],h=>by cases h
theorem a0W {op:Op}(ho:o.op=op) {ρ:Operand→pW}(hρ: ∀x∈sF op,rH g w (ρ x) (a.eval x)) {base:Nat}{e:qI}(hr:u6 T Γ o.type ρ base H op=some e) (hs: ∀p∈e.side,p) (hf:xO g base e):r8 P o a g w H e:=by
  unfold u6 at hr;split at hr
  · rename_i x
    exact aAC hT hH (.inl ho) (hρ x (by simp [sF])) hr hf
  · rename_i x
    exact aAC hT hH (.inr ho) (hρ x (by simp [sF])) hr hf
  .exact aJL hT hH ho hr hf
  · rename_i t x
    exact aJM hT hH ho (hρ x (by simp [sF])) (fun _=>a0H hT hΓ hH (hρ x (by simp [sF]))) hr hf
  · rename_i t ps
    exact aJp hT hH ho (ρ:=ρ) (fun q hq=>hρ q.2 (by
      simp only[sF];generalize ps.toList=l at hq
      induction l with
      |nil=>cases hq
      |cons p l ih=>rcases aSP.1 hq with rfl|h<;>simp_all [sF.parts])) hr
  · rename_i t n ps
    exact aJU hT hH ho (ρ:=ρ) (fun q hq=>hρ q.2 (by
      simp only[sF];generalize ps.toList=l at hq
      induction l with
      |nil=>cases hq
      |cons p l ih=>rcases aSP.1 hq with rfl|h<;>simp_all [sF.parts])) hr hf
  · rename_i t x
    exact aJE hT hH ho (hρ x (by simp [sF])) hr hs
  · rename_i t x y
    exact aJT hT hH ho (hρ x (by simp [sF])) (a0H hT hΓ hH (hρ y (by simp [sF]))) hr hs hf
  · rename_i x
    exact aJj hT hH ho (hρ x (by simp [sF])) hr
  · rename_i op t x y t'
    cases hw:SS op (rO T t) (ρ x) (ρ y) with
    | some r=>
      rw[hw] at hr;exact aJa hH ho (hρ x (by simp [sF])) (hρ y (by simp [sF])) (by rw[hw];exact hr)
    |none=>
    rw[hw] at hr;cases hb:SR op (ρ x) (ρ y) with
    | some r=>
      rw[hb] at hr;exact aI9 hH ho (hρ x (by simp [sF])) (hρ y (by simp [sF])) (by rw[hb];exact hr) hs
    | none=>
      rw[hb] at hr;exact aKx hT hH ho (hρ x (by simp [sF])) (hρ y (by simp [sF])) hr
  · rename_i op t x
    exact aJb hH ho (hρ x (by simp [sF])) hr hs
  · rename_i t t' x
    cases hb:SU (rO T t) (rO T t') (ρ x) with
    | some r=>
      rw[hb] at hr;exact aJc hT hH ho (hρ x (by simp [sF])) (by rw[hb];exact hr)
    | none=>
      rw[hb] at hr;exact aKB hT hH ho (hρ x (by simp [sF])) hr
  · rename_i f first caps
    have hfi:first= #[]:=by
      cases hl:first.toList with
      |nil=>apply aTF.1;simpa using hl
      |cons x l=>rw[hl] at hr;cases hr
    subst hfi;exact aJt hT hH ho (ρ:=ρ) (fun x hx=>hρ x (by simpa[sF] using hx)) hr
  · rename_i t x lo hi
    refine aJF hT hH ho (ρ:=ρ) (hρ x (by simp [sF])) (fun y hy=>hρ y ?_) (fun y hy=>hρ y ?_) hr hs
    · cases lo with
      |none=>simp at hy
      |some l=>simp at hy;subst hy;simp [sF,sF.opt,qS]
    cases hi with
    |none=>simp at hy
    |some l=>simp at hy;subst hy;cases lo<;>simp [sF,sF.opt,qS]
  · rename_i t x f
    exact aJh hT hH ho (hρ x (by simp [sF])) hr
  · rename_i t x f
    exact aJg hT hH ho (hρ x (by simp [sF])) hr
  · rename_i t x ix
    exact aJl hT hH ho (hρ x (by simp [sF])) (hρ ix (by simp [sF])) hr hs
  · rename_i t x ix
    exact aJk hT hH ho (hρ x (by simp [sF])) (hρ ix (by simp [sF])) hr hs
  · rename_i x i
    exact aJi hT hH ho (hρ x (by simp [sF])) hr hs
  · rename_i t r
    exact aJX hT hH ho hr hf
  · rename_i t x
    exact aJ3 hT hH ho (hρ x (by simp [sF])) hr hf
  · rename_i x b
    exact aJ4 hT hH ho (hρ x (by simp [sF])) hr
  · rename_i t x i ok
    exact aJ0 hT hH ho (hρ x (by simp [sF])) (hρ i (by simp [sF])) hr
  · rename_i t m k x
    exact aAP hT hH (.inl ho) (hρ m (by simp [sF])) (hρ k (by simp [sF])) (aAO (hρ x (by simp [sF]))) hr
  · rename_i t m k x
    exact aAP hT hH (.inr ho) (hρ m (by simp [sF])) (hρ k (by simp [sF])) (aAO (hρ x (by simp [sF]))) hr
  · rename_i c
    obtain⟨cal,args,tys⟩:=c;simp only at hr;unfold K9 at hr;split at hr
    .exact aJs hT hH ho (ρ:=ρ) (fun x hx=>hρ x (by simpa[sF] using hx)) hr
    .exact aKC hT hH ho (ρ:=ρ) (fun x hx=>hρ x (by simpa[sF] using hx)) hr hs
    .exact aAp (mx:=true) hT hH ho (ρ:=ρ) (fun x hx=>hρ x (by simpa[sF] using hx)) hr
    .exact aAp (mx:=false) hT hH ho (ρ:=ρ) (fun x hx=>hρ x (by simpa[sF] using hx)) hr
    · rename_i f
      cases hsl:K5 args.toList tys.toList with
      |false=>rw[hsl] at hr;cases hr
      | true=>
        rw[hsl] at hr;simp only[ZQ] at hr;exact aKN hT hΓ hH ho (hρ f (by simp [sF])) (fun x hx=>hρ x (by simp [sF];right;simpa using hx)) hr hs hf (by simpa using aBu hT hΓ hH hsl)
    cases hr
  cases hr
end
def AL (g:Gh) (w:pM) (env:List (Nat×pW)) (tmps:Array pN):Prop:= ∀t,rH g w (lk env t) (tmps.getD t undef)
def zN (B:Nat) (w:pM) (ds:List Deferred):Prop:=ds.Nodup/\∀d∈ds,∃D,d={target:= .collected D,args:= #[]}/\B<=D/\NG<=D/\w.heap[D]? =some (.deferred (some []))
theorem aBv (B:Nat) (w:pM):zN B w []:=⟨List.nodup_nil,fun d hd=>by cases hd⟩
theorem zN.same {B:Nat}{w w':pM}{ds:List Deferred}(h:zN B w ds) (hb: ∀D:Nat,w.heap[D]? =some (Obj.deferred (some []))->w'.heap[D]? =some (Obj.deferred (some []))):zN B w' ds:=
 ⟨h.1,fun d hd=>by obtain⟨D,h1,h2,h0,h3⟩:=h.2 d hd;exact⟨D,h1,h2,h0,hb D h3⟩⟩
def G6:Obj->Bool
 | .deferred _=>true
 | .loop _=>true
 |_=>false
theorem a0X {w:pM}{b:Nat}{ob:Obj}(hd:w.heap[b]? =some ob) (hm:G6 ob=true) (o:Nat):w.cell? ⟨b,o,none⟩=none:=by
 unfold World.cell?;simp only[hd];cases ob<;>first|rfl|cases hm
theorem VJ {g:Gh}{w:pM}{i:Nat}{blk:pV}(h:zZ g w i blk) {b o:Nat}(ho:rY g i blk b o) {ob:Obj}(hd:w.heap[b]? =some ob) (hm:G6 ob=true):False:=by
 have hrow: ∀{e:TypeId}{c n:Nat}{v:pN}{xs:pI},w.ownsRow 0 e c v n xs->v.ownBlock=some b->False:=by
  intro e c n v xs hr hb;rcases hr.2 with⟨rfl,_⟩ |⟨g',cap,cur,rfl,_,h3,_⟩
  .cases hb
  simp only[Value.ownBlock,aSC] at hb;subst hb;rw[hd] at h3;cases h3;cases hm
 cases blk with
 |cells t x toks=>
  obtain⟨p,cs,hp,_,_,ht,_⟩:=h;obtain⟨q,hq,rfl,h1,h2⟩:=ho;rw[hp] at hq;obtain rfl:=aSG hq;have:=(ht.1 (o-p.2) pB).1;rw[a0X hd hm] at this;cases this
 |grow e c n=>
  obtain⟨v,xs,hv,hr,_⟩:=h;obtain⟨v',hv',hb⟩:=ho;rw[hv] at hv';obtain rfl:=aSG hv';exact hrow hr hb
 |row e t l n=>
  obtain⟨_,v,xs,hv,hr,_⟩:=h;obtain⟨v',hv',hb⟩:=ho;rw[hv] at hv';obtain rfl:=aSG hv';exact hrow hr hb
 |map k v l=>
  obtain⟨p,es,cl,hp,h0,h2,_⟩:=h;obtain⟨q,hq,h1⟩:=ho;rw[hp] at hq;obtain rfl:=aSG hq;rw[show b=p.1 from h1] at hd;rw[h2] at hd;cases hd;cases hm
 |iter s n=>
  obtain⟨p,hp,h0,h2,_⟩:=h;obtain⟨q,hq,h1⟩:=ho;rw[hp] at hq;obtain rfl:=aSG hq;rw[show b=p.1 from h1] at hd;rw[h2] at hd;cases hd;cases hm
 |dead=>exact ho.elim
theorem zN.eff {B:Nat}{g g':Gh}{w w':pM}{H:rX}{e:qI}{v:pN}{ds:List Deferred}(h:zN B w ds) (hH:s5 g w H) (k:zK g w H e g' w' v):zN B w' ds:=
 h.same fun D hD=>by
  rw[k.fr.blk D (aS6.1 hD).1 (fun o ⟨i,blk,_,h1,h2⟩=>VJ (hH.blk i blk h1) h2 hD rfl)];exact hD
structure uM (B:Nat) (g:Gh) (w:pM) (s:St) (a:Act):Prop where
 env:AL g w s.env a.tmps
 heap:s5 g w s.H
 size:a.tmps.size=s.N
 nb: ∀i,s.nb<=i->g.J i=none/\∀n,g.cur i n=none
 def_:zN B w a.defers
 np:s.np<=s.nb
theorem aKO (g:Gh) (w:pM) (v:pN):yH g w (Y6 v) v:=by
 unfold Y6;split
 .exact vC _ _ _
 .exact w9 _ _ _ _
 .rename_i s;have:=KN g w s.data.toList;rw[aUb] at this;exact this
 .exact rfl
 .exact .inr ⟨rfl,rfl⟩
 .exact .inr ⟨rfl,rfl⟩
 .exact .inr ⟨rfl,rfl⟩
 exact trivial
theorem A2 {g:Gh}{w:pM}{env:List (Nat×pW)}{a:Act}(h:AL g w env a.tmps) (x:Operand):rH g w (tT env x) (a.eval x):=by
 cases x with
 |tmp t=>exact h t
 |const v=>exact⟨aKO g w v,trivial⟩
 |func f=>exact⟨.inr ⟨rfl,[],rfl,rfl⟩,trivial⟩
 |global i=>exact⟨trivial,trivial⟩
theorem NB {g:Gh}{w:pM}{G:Bool}(hG:G=true): ∀{ss:List pW}{s:pW}{v:pN},s∈ss->(∀p∈yS G ss,p)->rH g w s v->rH g w (sL s) v
 |x::ss,s,v,hm,hn,hs=>by
  have hcase: ∀{s:pW},(∀p∈yS G [s],p)->rH g w s v->rH g w (sL s) v:=by
   intro s hn hs;obtain⟨d,k⟩:=s;cases d with
   |cond p d=>
    refine⟨hs.1.1 (hn (G=true->p=true) (by simp [yS]) hG),?_⟩;simp only[sL]
   |_=>exact hs
  have hsplit: ∀p,p∈yS G [x]->p∈yS G (x::ss):=by
   intro p hp;unfold yS at hp|-;split at hp
   .cases hp
   .rename_i heq;simp only[aTk] at heq;obtain⟨rfl,rfl⟩:=heq;rcases aSP.1 hp with h|h
    .exact h▸aS2
    cases h
   rename_i h0 heq;simp only[aTk] at heq;obtain⟨_,rfl⟩:=heq;cases hp
  have hsplit2: ∀p,p∈yS G ss->p∈yS G (x::ss):=by
   intro p hp;generalize hL:yS G ss=L at hp;unfold yS;split
   .rename_i h;cases h
   .rename_i heq;simp only[aTk] at heq;obtain⟨_,rfl⟩:=heq;rw[hL];exact aSQ _ hp
   rename_i heq;simp only[aTk] at heq;obtain⟨_,rfl⟩:=heq;rw[hL];exact hp
  rcases aSP.1 hm with rfl|hm
  .exact hcase (fun p hp=>hn p (hsplit p hp)) hs
  exact NB hG hm (fun p hp=>hn p (hsplit2 p hp)) hs
theorem VK {env:List (Nat×pW)}: ∀{xs:List Operand}{x:Operand},x∈xs->tT env x∈C5 env xs
 |y::xs,x,h=>by
  simp only[C5];rcases aSP.1 h with rfl|h
  .exact aS2
  exact aSQ _ (VK h)
theorem QD: ∀(ops:List Oper) (j:Nat),zW ops j=(ops[j]?).bind (·.dst)
 |[],j=>by simp [zW]
 |o::_,0=>rfl
 |_::r,j+1=>by simpa[zW] using QD r j
section
variable {P:Program}{g:Gh}{w:pM}{T:sG}{Γ:sV}(hT:wW P T) (hΓ:DG P Γ)
include hT hΓ
theorem aKP {ops:List Oper}{o:Oper}{a:Act}{env:List (Nat×pW)}(henv:AL g w env a.tmps) {j:Nat}{b:Bool}(hg:o.guard=some (j,b)) {G:Bool}(h:FX env b (zW ops j)=some G):Region.wanted o (yielded ops.toArray a.tmps)=G:=by
 rw[QD] at h;unfold Region.wanted;rw[hg];simp only;cases hd:(ops[j]?).bind (·.dst) with
 |none=>rw[hd] at h;cases h
 |some t=>
  rw[hd] at h;simp only[FX] at h;have hy:yielded ops.toArray a.tmps j=match a.tmps[t]? with|some (.bool b)=>some b|_=>none:=by
   unfold yielded;have:(ops.toArray[j]?).bind (·.dst)=some t:=by simpa using hd
   rw[this];rfl
  have hv:=henv t;generalize hl:lk env t=s at h hv;unfold a9V at h;have hb: ∀c,a.tmps.getD t undef= .bool c->a.tmps[t]? =some (.bool c):=by
   intro c hc;rw[aTb] at hc;cases hq:a.tmps[t]? with
   |none=>rw[hq] at hc;simp [undef] at hc
   |some v=>rw[hq] at hc;simp at hc;rw[hc]
  split at h
  .rename_i c k;simp only[aSC] at h;have:=hb _ (vB hv.1);rw[hy,this,<-h];cases c<;>cases b<;>rfl
  .rename_i p c k;simp only[aSC] at h;subst h;cases p with
   |true=>
    have:=hb _ (vB (hv.1.1 rfl));rw[hy,this];cases c<;>cases b<;>rfl
   |false=>
    have hu:=hv.1.2 rfl;have: ∀c,a.tmps[t]? ≠some (.bool c):=by
     intro c hc;rw[aTb,hc] at hu;simp [undef] at hu
    rw[hy];cases hq:a.tmps[t]? with
    |none=>cases b<;>rfl
    |some v=>cases v<;>first|(exact absurd hq (this _)) |(cases b<;>rfl)
  cases h
theorem aKQ {ops:List Oper}{o:Oper}{a:Act}{env:List (Nat×pW)}(henv:AL g w env a.tmps) {j:Nat}{b:Bool}(hg:o.guard=some (j,b)) (h:KA env b (zW ops j)=false):Region.wanted o (yielded ops.toArray a.tmps)=false:=by
 rw[QD] at h;unfold Region.wanted;rw[hg];simp only;cases hd:(ops[j]?).bind (·.dst) with
 |none=>rw[hd] at h;cases h
 |some t=>
  rw[hd] at h;simp only[KA] at h;have hy:yielded ops.toArray a.tmps j=match a.tmps[t]? with|some (.bool b)=>some b|_=>none:=by
   unfold yielded;have:(ops.toArray[j]?).bind (·.dst)=some t:=by simpa using hd
   rw[this];rfl
  have hv:=henv t;generalize hl:lk env t=s at h hv;have hb: ∀c,a.tmps.getD t undef= .bool c->a.tmps[t]? =some (.bool c):=by
   intro c hc;rw[aTb] at hc;cases hq:a.tmps[t]? with
   |none=>rw[hq] at hc;simp [undef] at hc
   |some v=>rw[hq] at hc;simp at hc;rw[hc]
  have hun:a.tmps.getD t undef=undef->(yielded ops.toArray a.tmps j==some b)=false:=by
   intro hu;have: ∀c,a.tmps[t]? ≠some (.bool c):=by
    intro c hc;rw[aTb,hc] at hu;simp [undef] at hu
   rw[hy];cases hq:a.tmps[t]? with
   |none=>cases b<;>rfl
   |some v=>cases v<;>first|(exact absurd hq (this _)) |(cases b<;>rfl)
  unfold a9W at h;split at h
  .rename_i c k;have:=hb _ (vB hv.1);rw[hy,this];cases c<;>cases b<;>first|rfl|cases h
  .rename_i p c k;cases p with
   |true=>
    have:=hb _ (vB (hv.1.1 rfl));rw[hy,this];cases c<;>cases b<;>first|rfl|cases h
   |false=>exact hun (hv.1.2 rfl)
  .rename_i p k;subst h;exact hun (hv.1.2 rfl)
  cases h
theorem QE {G:Bool}{p:Prop}: ∀{l:List Prop},p∈l->(G=true->p)∈PR G l
 |q::l,h=>by
  simp only[PR];rcases aSP.1 h with rfl|h
  .exact aS2
  exact aSQ _ (QE h)
theorem a0Y {o:Oper}{a:Act}{H:rX}(hH:s5 g w H) {c x y:Operand}(hop:o.op= .pick c x y) {sc sx sy:pW}(hc:rH g w sc (a.eval c)) (hx:rH g w sx (a.eval x)) (hy:rH g w sy (a.eval y)) {e:qI}(hr:PQ sc sx sy=some e) (hs: ∀p∈e.side,p):r8 P o a g w H e:=by
 intro K Q hK;unfold PQ at hr;split at hr
 .rename_i z k;have hz:=vB hc.1;have run:(execOp a.eval o).run P w= .ok (.value (if z then a.eval x else a.eval y)) w:=by
   unfold execOp;rw[hop];simp [hz,asBool]
  have fin: ∀{v:Bool}{side:List Prop},(if z then a.eval x else a.eval y)= .bool v->e=⟨side,(.val .bool v,none),[],[]⟩->o.wp P a w K Q:=by
   intro v side hv he;subst he;refine r8.value (v:= .bool v) (g':=g) (w':=w) (H:=H) (by rw[run,hv]) (.pure hH (s:=(.val .bool v,none)) ⟨(vC g w v:yH g w (.val .bool v) (.bool v)),trivial⟩) K Q hK
  unfold a9X at hr;split at hr
  .rename_i m1 _ m2 _;simp only[aSC] at hr;refine fin (v:=cond z m1 m2) ?_ hr.symm;cases z
   .exact vB hy.1
   exact vB hx.1
  .rename_i p m1 _ m2 _;simp only[aSC] at hr;refine fin (v:=cond z m1 m2) ?_ hr.symm;cases z
   .exact vB hy.1
   exact vB (hx.1.1 (hs (true=true->p=true) (by rw[<-hr];simp) rfl))
  .rename_i m1 _ p m2 _;simp only[aSC] at hr;refine fin (v:=cond z m1 m2) ?_ hr.symm;cases z
   .exact vB (hy.1.1 (hs (false=false->p=true) (by rw[<-hr];simp) rfl))
   exact vB hx.1
  .rename_i q m1 _ p m2 _;simp only[aSC] at hr;refine fin (v:=cond z m1 m2) ?_ hr.symm;cases z
   .exact vB (hy.1.1 (hs (false=false->p=true) (by rw[<-hr];simp) rfl))
   exact vB (hx.1.1 (hs (true=true->q=true) (by rw[<-hr];simp) rfl))
  .rename_i m1 _ p _;simp only[aSC] at hr;have hz1:z=true:=hs _ (by rw[<-hr];simp);refine fin (v:=m1) ?_ hr.symm;rw[hz1];exact vB hx.1
  .rename_i q m1 _ p _;simp only[aSC] at hr;have hz1:z=true:=hs (z=true) (by rw[<-hr];simp);refine fin (v:=m1) ?_ hr.symm;rw[hz1];exact vB (hx.1.1 (hs (q=true) (by rw[<-hr];simp)))
  .rename_i p _ m2 _;simp only[aSC] at hr;have hz1:z=false:=hs _ (by rw[<-hr];simp);refine fin (v:=m2) ?_ hr.symm;rw[hz1];exact vB hy.1
  .rename_i p _ q m2 _;simp only[aSC] at hr;have hz1:z=false:=hs (z=false) (by rw[<-hr];simp);refine fin (v:=m2) ?_ hr.symm;rw[hz1];exact vB (hy.1.1 (hs (q=true) (by rw[<-hr];simp)))
  cases hr
 cases hr
omit hT hΓ in
theorem QF {np:Nat}{x:Option qI}{e:qI}(h:ZW np x=some e):x=some e/\(HJ e.rds=true->HS np e.upd=true):=by
 cases x with
 |none=>cases h
 |some q=>
  simp only[ZW] at h;cases hq:HJ q.rds with
  |false=>
   rw[hq] at h;cases h;exact⟨rfl,fun h=>by rw[hq] at h;cases h⟩
  |true=>
   rw[hq] at h;simp only[a90] at h;split at h
   .rename_i hc;cases h;exact⟨rfl,fun _=>hc⟩
   cases h
omit hT hΓ in
theorem aBw {np:Nat}{H:rX}: ∀{U:List (Nat×pV)},HS np U=true->∀{i:Nat}{u:Ty}{y:u.den}{us:pG},i<np->pY (qS U H) i=some (.cells u y us)->pY H i=some (.cells u y us)
 |[],_,i,u,y,us,_,h=>h
 |(j,b)::U,h,i,u,y,us,hi,hg=>by
  simp only[qS,pY] at hg;split at hg
  .rename_i e;subst e;simp only[aSC] at hg;subst hg;simp only[HS] at h;split at h
   .omega
   cases h
  refine aBw ?_ hi hg;unfold HS at h;split at h
  .rename_i heq;cases heq
  .rename_i heq;cases heq;split at h
   .exact h
   cases h
  rename_i heq;cases heq;exact h
theorem aBx {ops:List Oper}{o:Oper}{a:Act}{s:St}{e:qI}(henv:AL g w s.env a.tmps) (hH:s5 g w s.H) (hr:zJ T Γ ops o s=some e) (hs: ∀p∈e.side,p) (hf:xO g s.nb e) {K:Act->pM->Prop}{Q:Exit->Act->pM->Prop}
  (hK: ∀g' w' v,zK g w s.H e g' w' v->K (a.put o.dst v) w'):
  if Region.wanted o (yielded ops.toArray a.tmps) then o.wp P a w K Q else K (a.put o.dst undef) w:=by
 replace hr:=(QF hr).1;unfold N4 at hr;cases hgd:o.guard with
 |none=>
  rw[hgd] at hr;simp only at hr;have hw:Region.wanted o (yielded ops.toArray a.tmps)=true:=by unfold Region.wanted;rw[hgd]
  rw[aSB hw];cases hop:o.op with
  |pick c x y=>
   rw[hop] at hr;simp only[N3] at hr;exact a0Y hT hΓ hH hop (A2 henv c) (A2 henv x) (A2 henv y) hr hs K Q hK
  |_=>
   rw[hop] at hr;simp only[N3] at hr;rw[<-hop] at hr;generalize hpl:u6 T Γ o.type (fun x=>sL (tT s.env x)) s.nb s.H o.op=op at hr;cases op with
   |none=>cases hr
   |some e0=>
    simp only[N1,aSC] at hr;subst hr;refine a0W hT hΓ hH rfl (ρ:=fun x=>sL (tT s.env x)) (fun x hx=>?_) hpl (fun p hp=>hs p (wH.2 (.inr hp))) hf K Q (fun g' w' v h=>hK g' w' v ⟨h.le,h.slot,h.heap,h.fr,h.perm,h.gho,h.ty⟩);exact NB rfl (VK hx) (fun p hp=>hs p (wH.2 (.inl hp))) (A2 henv x)
 |some jb=>
  obtain⟨j,b⟩:=jb;rw[hgd] at hr;simp only at hr;cases hsk:Γ (UH j b) with
  |some sg=>
   rw[hsk] at hr;simp only[PS] at hr;cases hdf:a9Y o.op with
   |true=>rw[hdf] at hr;cases hr
   |false=>
   rw[hdf] at hr;simp only[a9Z,aSC] at hr;subst hr;have hup:KA s.env b (zW ops j)=false:=hs _ aS2;rw[aKQ hT hΓ henv hgd hup,aSD pC];exact hK g w undef (zK.pure hH ⟨⟨fun hc=>(by cases hc),fun _=>rfl⟩,trivial⟩)
  |none=>
  rw[hsk] at hr;simp only[PS] at hr;generalize hG:FX s.env b (zW ops j)=oG at hr;cases oG with
  |none=>cases hr
  |some G=>
   have hw:=aKP hT hΓ henv hgd hG;rw[hw];by_cases hpk: ∃c x y,o.op= .pick c x y
   .obtain⟨c,x,y,hop⟩:=hpk;rw[hop] at hr;simp only[N2] at hr;generalize hpl:PQ (sL (tT s.env c)) (tT s.env x) (tT s.env y)=op at hr;cases op with
    |none=>cases hr
    |some e0=>
     unfold HR at hr;split at hr
     .rename_i side d k rds heq;simp only[aSC] at hr heq;subst hr;subst heq;by_cases hGt:G=true
      .rw[aSB hGt];refine a0Y hT hΓ hH hop (NB hGt (ss:=[tT s.env c]) pD (fun p hp=>hs p (wH.2 (.inl hp))) (A2 henv c)) (A2 henv x) (A2 henv y) hpl (fun p hp=>hs (G=true->p) (wH.2 (.inr (QE hT hΓ hp))) hGt) K Q (fun g' w' v h=>hK g' w' v ⟨h.le,⟨⟨fun _=>h.slot.1,fun hc=>by rw[hGt] at hc;cases hc⟩,trivial⟩,h.heap,h.fr,h.perm,h.gho,h.ty⟩)
      rw[aSD hGt];exact hK g w undef (zK.pure hH ⟨⟨fun hc=>absurd hc hGt,fun _=>rfl⟩,trivial⟩)
     .rename_i side sl u us rds heq;simp only[aSC] at hr heq;subst hr;subst heq;have hGt:G=true:=hs _ aS2;rw[aSB hGt];exact a0Y hT hΓ hH hop (NB hGt (ss:=[tT s.env c]) pD (fun p hp=>hs p (aSQ _ (wH.2 (.inl hp)))) (A2 henv c)) (A2 henv x) (A2 henv y) hpl (fun p hp=>hs (G=true->p) (aSQ _ (wH.2 (.inr (QE hT hΓ hp)))) hGt) K Q (fun g' w' v h=>hK g' w' v ⟨h.le,h.slot,h.heap,h.fr,h.perm,h.gho,h.ty⟩)
     cases hr
   have e1:N2 T Γ o s (some G) o.op=HR G (yS G (C5 s.env (sF o.op))) (u6 T Γ o.type (fun x=>sL (tT s.env x)) s.nb s.H o.op):=by
    cases ho:o.op<;>first|rfl|(exact absurd ⟨_,_,_,ho⟩ hpk)
   rw[e1] at hr;generalize hpl:u6 T Γ o.type (fun x=>sL (tT s.env x)) s.nb s.H o.op=op at hr;cases op with
   |none=>cases hr
   |some e0=>
    unfold HR at hr;split at hr
    .rename_i side d k rds heq;simp only[aSC] at hr heq;subst hr;subst heq;by_cases hGt:G=true
     .rw[aSB hGt];refine a0W hT hΓ hH rfl (ρ:=fun x=>sL (tT s.env x)) (fun x hx=>?_) hpl (fun p hp=>hs (G=true->p) (wH.2 (.inr (QE hT hΓ hp))) hGt) (fun i hi=>by cases hi) K Q (fun g' w' v h=>hK g' w' v ⟨h.le,⟨⟨fun _=>h.slot.1,fun hc=>by rw[hGt] at hc;cases hc⟩,trivial⟩,h.heap,h.fr,h.perm,h.gho,h.ty⟩);exact NB hGt (VK hx) (fun p hp=>hs p (wH.2 (.inl hp))) (A2 henv x)
     rw[aSD hGt];exact hK g w undef (zK.pure hH ⟨⟨fun hc=>absurd hc hGt,fun _=>rfl⟩,trivial⟩)
    .rename_i side sl u us rds heq;simp only[aSC] at hr heq;subst hr;subst heq;have hGt:G=true:=hs _ aS2;rw[aSB hGt];refine a0W hT hΓ hH rfl (ρ:=fun x=>sL (tT s.env x)) (fun x hx=>?_) hpl (fun p hp=>hs (G=true->p) (aSQ _ (wH.2 (.inr (QE hT hΓ hp)))) hGt) hf K Q (fun g' w' v h=>hK g' w' v ⟨h.le,h.slot,h.heap,h.fr,h.perm,h.gho,h.ty⟩);exact NB hGt (VK hx) (fun p hp=>hs p (aSQ _ (wH.2 (.inl hp)))) (A2 henv x)
    cases hr
end
structure sX (A:Nat->Nat->Prop) (L:List pV) (g0:Gh) (w0:pM) (g:Gh) (w:pM) (H:rX):Prop where
 shut: ∀b o,g0.S b o->g.S b o/\w.cell? ⟨b,o,none⟩=w0.cell? ⟨b,o,none⟩
 fr:Fr A w0 w g0.S g.S
 perm: ∀i blk b o,pY H i=some blk->rY g i blk b o->w0.heap.size<=b\/A b o
 J: ∀i p,i<L.length->g0.J i=some p->g.J i=some p
 live: ∀i,i<L.length->(∃p,g.J i=some p)\/(∃n v,g.cur i n=some v)
 ty: ∀i u y us,i<L.length->pY H i=some (.cells u y us)->∃x ts,L[i]? =some (.cells u x ts)
 cur: ∀i n v,i<L.length->g0.cur i n=some v->g.cur i n=some v
def sX.eff {A:Nat->Nat->Prop}{L:List pV}{g0 g g':Gh}{w0 w w':pM}{H:rX}{e:qI}{v:pN}(h:sX A L g0 w0 g w H) (k:zK g w H e g' w' v) (hc:HJ e.rds=true->HS L.length e.upd=true):sX A L g0 w0 g' w' (qS e.upd H):=by
 have hown: ∀b o,sI g H (q9 e.upd) b o->w0.heap.size<=b\/A b o:=fun b o ⟨i,blk,_,h2,h3⟩=>h.perm i blk b o h2 h3;refine⟨fun b o hs=>?_,h.fr.trans k.fr hown,fun i blk b o hg ho=>?_,fun i p hi hp=>k.le.J _ _ (h.J i p hi hp),fun i hi=>?_,fun i u y us hi hg=>?_,fun i n u hi hu=>k.le.cur _ _ _ (h.cur i n u hi hu)⟩
 .obtain⟨h1,h2⟩:=h.shut b o hs;exact⟨k.le.S b o h1,(k.le.cell b o h1).trans h2⟩
 .by_cases hi:i∈q9 e.upd
  .rcases k.perm i blk b o hi hg ho with h1|h1
   .exact .inl (aTA h.fr.size h1)
   exact hown b o h1
  exact h.perm i blk b o ((A0 hi).symm.trans hg) ((wU (k.gho i hi).1 (k.gho i hi).2).1 ho)
 .rcases h.live i hi with⟨p,hp⟩ |⟨n,u,hu⟩
  .exact .inl ⟨p,k.le.J _ _ hp⟩
  exact .inr ⟨n,u,k.le.cur _ _ _ hu⟩
 cases hre:HJ e.rds with
 |true=>exact h.ty i u y us hi (aBw (hc hre) hi hg)
 |false=>
  rcases k.ty hre i u y us hg with⟨x,ts,h1⟩ |⟨h1,h2⟩
  .exact h.ty i u x ts hi h1
  rcases h.live i hi with⟨p,hp⟩ |⟨n,u,hu⟩
  .rw[h1] at hp;cases hp
  rw[h2] at hu;cases hu
def zO:pG->Nat->pK
 |[],_=>none
 |(n,o)::r,k=>if n=k then some o else zO r k
def tZ (g:Gh) (np:Nat) (m:pG):Gh:=
 ⟨g.S,fun i=>if i<np then g.J i else(zO m i).bind g.J,fun i n=>if i<np then g.cur i n else(zO m i).bind fun o=>g.cur o n⟩
def VL {n o:Nat}: ∀{m:pG},N5 n o m=false->∀n' o',(n',o')∈m->n'≠n/\o'≠o
 |[],_,_,_,h=>by cases h
 |(a,b)::m,h,n',o',hm=>by
  simp only[N5,aUp,aTo] at h;rcases aSP.1 hm with h1|h1
  .cases h1;exact h.1
  exact VL h.2 n' o' h1
def a0Z {np:Nat}: ∀{m:pG},wT np m=true->∀{n o:Nat},(n,o)∈m->zO m n=some o/\(n<np->o=n)
 |[],_,_,_,h=>by cases h
 |(a,b)::m,hk,n,o,h=>by
  simp only[wT,aSV,aTg,aUe,aSL] at hk;obtain⟨⟨h1,h2⟩,h3⟩:=hk;simp only[zO];rcases aSP.1 h with h4|h4
  .cases h4;rw[aSB rfl];exact⟨rfl,fun h5=>by rcases h1 with h1|h1<;>omega⟩
  have h5:=VL h2 n o h4;rw[aSD (Ne.symm h5.1)];exact a0Z h3 h4
def AM: ∀{m:pG}{k j:Nat},vZ m k=some j->(j,k)∈m
 |[],_,_,h=>by cases h
 |(a,b)::m,k,j,h=>by
  simp only[vZ] at h;split at h
  .rename_i e;subst e;simp only[aSC] at h;subst h;exact aS2
  exact aSQ _ (AM h)
def yW {g:Gh}{np:Nat}{m:pG}(hk:wT np m=true) {n o:Nat}(h:(n,o)∈m):(tZ g np m).J n=g.J o/\(tZ g np m).cur n=g.cur o:=by
 obtain⟨h1,h2⟩:=a0Z hk h;refine⟨?_,?_⟩
 .show (if n<np then g.J n else(zO m n).bind g.J)=_;by_cases hn:n<np
  .rw[aSB hn,h2 hn]
  rw[aSD hn,h1];rfl
 funext q;show (if n<np then g.cur n q else(zO m n).bind fun o=>g.cur o q)=_;by_cases hn:n<np
 .rw[aSB hn,h2 hn]
 rw[aSD hn,h1];rfl
def a00 {g:Gh}{np:Nat}{m:pG}(hk:wT np m=true): ∀(l l':pG) (vs:pI),y7 g l vs->C7 m l=some l'->y7 (tZ g np m) l' vs
 |[],l',vs,h,hr=>by simp only[C7,aSC] at hr;subst hr;exact h
 |(i,o)::l,l',vs,⟨p,vs',h1,h2,h3⟩,hr=>by
  simp only[C7] at hr;cases hi:vZ m i with
  |none=>rw[hi] at hr;cases hr2:C7 m l<;>rw[hr2] at hr<;>cases hr
  |some j=>
   rw[hi] at hr;cases hr2:C7 m l with
   |none=>rw[hr2] at hr;cases hr
   |some l2=>
    rw[hr2] at hr;simp only[C7.renCons,aSC] at hr;subst hr;exact⟨p,vs',by rw[(yW hk (AM hi)).1];exact h1,h2,a00 hk l l2 vs' h3 hr2⟩
def aKR {m:pG}{u t:Ty}{x y:t.den}{o:Nat}{l:List u.den}(h:yT m t x=some y) (hg:qT (.list u) t x o=some l):qT (.list u) t y o=some l:=
 a0K (yT m) (fun _ _ _=>rfl) (fun _ _=>rfl) h hg
def aKS {c n3 n4:Nat}{a b d:pK}{y:Nat×Nat×(Nat×Nat)×(Nat×Nat)}(h:ZX c n3 n4 a b d=some y): ∃i k3 k4,a=some i/\b=some k3/\d=some k4/\y=(c,i,(k3,n3),(k4,n4)):=by
 unfold ZX at h;split at h
 .exact⟨_,_,_,rfl,rfl,rfl,(aSG h).symm⟩
 cases h
def QG {g:Gh}{w:pM}{np:Nat}{m:pG}(hk:wT np m=true): ∀{t:Ty}{x y:t.den}{cs:pI},Rd g w t x cs->yT m t x=some y->Rd (tZ g np m) w t y cs
 | .bool,_,_,_,r,h=>by cases h;exact r
 | .int _,_,_,_,r,h=>by cases h;exact r
 | .str,_,_,_,r,h=>by cases h;exact r
 | .unit,_,_,_,r,h=>by cases h;exact r
 | .list t,x,y,_,r,h=>by
  simp only[yT] at h;split at h
  .rename_i hp;cases h;exact vT (g:=g) (g':=tZ g np m) rfl (t:= .list t) (by simpa[Ty.pure] using hp) r
  .cases h
 | .ref,none,y,_,r,h=>by cases h;exact r
 | .ref,some (i,o),y,_,⟨p,h1,h2⟩,h=>by
  simp only[yT,UN] at h;cases hi:vZ m i with
  |none=>rw[hi] at h;cases h
  |some j=>
   rw[hi] at h;cases h;exact⟨p,by rw[(yW hk (AM hi)).1];exact h1,h2⟩
 | .clo,none,y,_,r,h=>by cases h;exact r
 | .clo,some (f,l),y,_,⟨vs,h1,h2⟩,h=>by
  simp only[yT,a94] at h;cases hi:C7 m l with
  |none=>rw[hi] at h;cases h
  |some l'=>
   rw[hi] at h;cases h;exact⟨vs,a00 hk l l' vs h1 hi,h2⟩
 | .fn,_,_,_,r,h=>by cases h;exact r
 | .rl _ _,none,y,_,r,h=>by cases h;exact r
 | .rl _ _,some (k,n),y,_,⟨v,h1,h2⟩,h=>by
  simp only[yT,a96] at h;cases hi:vZ m k with
  |none=>rw[hi] at h;cases h
  |some j=>
   rw[hi] at h;cases h;exact⟨v,by rw[(yW hk (AM hi)).2];exact h1,h2⟩
 | .mref,none,y,_,r,h=>by cases h;exact r
 | .mref,some (i,o),y,_,⟨p,h1,h2⟩,h=>by
  simp only[yT,UN] at h;cases hi:vZ m i with
  |none=>rw[hi] at h;cases h
  |some j=>
   rw[hi] at h;cases h;exact⟨p,by rw[(yW hk (AM hi)).1];exact h1,h2⟩
 | .ap,(c,i,(k3,n3),(k4,n4)),y,_,r,h=>by
  simp only[yT,a97] at h;obtain⟨i',k3',k4',e1,e2,e3,rfl⟩:=aKS h;exact a0L (g:=g) (g':=tZ g np m) (fun _ _ h=>⟨h,rfl⟩) (fun p hp=>⟨p,by rw[(yW hk (AM e1)).1];exact hp,rfl,rfl⟩) (fun v hv=>by rw[(yW hk (AM e2)).2];exact hv) (fun v hv=>by rw[(yW hk (AM e3)).2];exact hv) r
 | .mp,none,y,_,r,h=>by cases h;exact r
 | .mp,some i,y,_,⟨p,h1,h2⟩,h=>by
  simp only[yT,a95] at h;cases hi:vZ m i with
  |none=>rw[hi] at h;cases h
  |some j=>
   rw[hi] at h;cases h;exact⟨p,by rw[(yW hk (AM hi)).1];exact h1,h2⟩
 | .pair a b,x,y,_,⟨c1,c2,e,r1,r2⟩,h=>by
  simp only[yT] at h;obtain⟨h1,h2⟩:=a0J h;refine⟨c1,c2,e,?_,?_⟩
  .split at h1
   .rename_i hp;exact(aSG h1)▸vT (g:=g) (g':=tZ g np m) rfl hp r1
   exact QG hk r1 h1
  split at h2
  .rename_i hp;exact(aSG h2)▸vT (g:=g) (g':=tZ g np m) rfl hp r2
  exact QG hk r2 h2
def VM {g:Gh}{w:pM}{np:Nat}{m:pG}(hk:wT np m=true) {s:pW}{v:pN}(h:rH g w s v):rH (tZ g np m) w (zX m s) v:=by
 have caps: ∀(l l':pG) (vs:pI),y7 g l vs->C7 m l=some l'->y7 (tZ g np m) l' vs:=a00 hk;unfold zX;split
 .rename_i k n k';cases hi:vZ m k with
  |none=>exact⟨trivial,trivial⟩
  |some j=>
   obtain⟨h1,h2⟩:=h.1;exact⟨⟨by rw[(yW hk (AM hi)).2];exact h1,h2⟩,trivial⟩
 .obtain h1:=h.1;refine⟨?_,trivial⟩;rcases h1 with⟨h1,_⟩ |⟨_,h2⟩
  .cases h1
  exact .inr ⟨rfl,h2⟩
 .rename_i p k;obtain⟨i,o⟩:=p;simp only[a92];cases hi:vZ m i with
  |none=>exact⟨trivial,trivial⟩
  |some j=>
   simp only[Option.map_some,zX.refSlot];obtain⟨q,hq,hv⟩:=wZ h.1;exact⟨.inr ⟨rfl,q,by rw[(yW hk (AM hi)).1];exact hq,by rw[hv]⟩,trivial⟩
 .rename_i f l k;cases hl:C7 m l with
  |none=>exact⟨trivial,trivial⟩
  |some l'=>
   simp only[zX.cloSlot];rcases h.1 with⟨h1,_⟩ |⟨_,vs,h2,h3⟩
   .cases h1
   exact⟨.inr ⟨rfl,vs,caps l l' vs h2 hl,h3⟩,trivial⟩
 .rename_i i k;cases hi:vZ m i with
  |none=>exact⟨trivial,trivial⟩
  |some j=>
   simp only[zX.mpSlot];rcases h.1 with⟨h1,_⟩ |⟨_,p,h2,h3⟩
   .cases h1
   exact⟨.inr ⟨rfl,p,by rw[(yW hk (AM hi)).1];exact h2,h3⟩,trivial⟩
 .rename_i t x k _ _ _ _;split
  .rename_i hp;have hv:sW (tZ g np m) w t x v:=h.1.imp (fun⟨a,cs,e,q⟩=>⟨a,cs,e,vT (g:=g) (g':=tZ g np m) rfl hp q⟩) (fun⟨a,q⟩=>⟨a,vT (g:=g) (g':=tZ g np m) rfl hp q⟩);refine⟨hv,?_⟩;replace h:=aAR h;generalize htk:EI t k=k' at h|-;cases k' with
   |none=>trivial
   |some k=>
    simp only[a93];cases hj:vZ m k with
    |none=>trivial
    |some j=>
     have h2:=h.2;cases t with
     |list u=>
      show (tZ g np m).cur j _=_;rw[(yW hk (AM hj)).2];exact h2
     |pair a b=>cases htk
     |_=>exact h2.elim
  cases hy:yT m t x with
  |none=>exact⟨trivial,trivial⟩
  |some y=>
   simp only[zX.valSlot];exact⟨h.1.imp (fun⟨a,cs,e,q⟩=>⟨a,cs,e,QG hk q hy⟩) (fun⟨a,q⟩=>⟨a,QG hk q hy⟩),trivial⟩
 .rename_i t x k;split
  .rename_i hp;obtain⟨b,o,cs,h1,h2,h3,h4⟩:=h.1;exact⟨⟨b,o,cs,h1,h2,h3,vT (g:=g) (g':=tZ g np m) rfl hp h4⟩,trivial⟩
  exact⟨trivial,trivial⟩
 .exact⟨h.1,trivial⟩
 exact⟨trivial,trivial⟩
def aBy {q j:Nat}{x:Nat×Nat}: ∀{r:pG},x∈UO q j r->x=(q,j)\/x∈r
 |[],h=> .inl (aST.1 h)
 |(a,b)::r,h=>by
  simp only[UO] at h;split at h
  .exact aSP.1 h
  rcases aSP.1 h with h|h
  .exact .inr (by rw[h];exact aS2)
  exact(aBy h).imp id (aSQ _)
def VN {m:pG}: ∀{ts:pG}{q j:Nat},(q,j)∈KE m ts->∃k,(q,k)∈ts/\vZ m k=some j
 |[],_,_,h=>by cases h
 |(a,b)::ts,q,j,h=>by
  simp only[KE] at h;cases hb:vZ m b with
  |none=>
   rw[hb] at h;obtain⟨k,h1,h2⟩:=VN h;exact⟨k,aSQ _ h1,h2⟩
  |some j'=>
   rw[hb] at h;simp only[KE.renTok1] at h;rcases aBy h with h1|h1
   .cases h1;exact⟨b,aS2,hb⟩
   obtain⟨k,h1,h2⟩:=VN h1;exact⟨k,aSQ _ h1,h2⟩
def KU {g:Gh}{w:pM}{np:Nat}{m:pG}(hk:wT np m=true) {n o:Nat}(hm:(n,o)∈m) {b:Option pV}(h: ∀c,b=some c->zZ g w o c):
  zZ (tZ g np m) w n (yU m b)/\∀bb oo,rY (tZ g np m) n (yU m b) bb oo->∃c,b=some c/\rY g o c bb oo:=by
 obtain⟨hJ,hcur⟩:=yW (g:=g) hk hm;unfold yU;split
 .rename_i t x toks;split
  .rename_i hp;obtain⟨p,cs,h1,h2,h3,h4,h5,h6⟩:=h _ rfl;refine⟨⟨p,cs,by rw[hJ];exact h1,vT (g:=g) (g':=tZ g np m) rfl hp h2,h3,h4,h5,fun q j hmem=>?_⟩,fun bb oo ⟨pp,e1,e2⟩=>⟨_,rfl,pp,by rw[hJ] at e1;exact e1,e2⟩⟩;obtain⟨k,k1,k2⟩:=VN hmem;obtain⟨u,l,v,g1,g2,g3⟩:=h6 q k k1;exact⟨u,l,v,g1,g2,by rw[(yW hk (AM k2)).2];exact g3⟩
  cases hy:yT m t x with
  |none=>exact⟨trivial,fun _ _ h=>h.elim⟩
  |some y=>
   obtain⟨p,cs,h1,h2,h3,h4,h5,h6⟩:=h _ rfl;simp only[ZY];refine⟨⟨p,cs,by rw[hJ];exact h1,QG hk h2 hy,h3,h4,h5,fun q j hmem=>?_⟩,fun bb oo ⟨pp,e1,e2⟩=>⟨_,rfl,pp,by rw[hJ] at e1;exact e1,e2⟩⟩;obtain⟨k,k1,k2⟩:=VN hmem;obtain⟨u,l,v,g1,g2,g3⟩:=h6 q k k1;exact⟨u,l,v,aKR hy g1,g2,by rw[(yW hk (AM k2)).2];exact g3⟩
 .rename_i e c k;obtain⟨v,xs,h1,h2,h3,h4⟩:=h _ rfl;exact⟨⟨v,xs,by rw[hcur];exact h1,h2,fun q hq=>by rw[hcur];exact h3 q hq,h4⟩,fun bb oo ⟨v',e1,e2⟩=>⟨_,rfl,v',by rw[hcur] at e1;exact e1,e2⟩⟩
 .rename_i e t l n;split
  .rename_i hp;obtain⟨h0,v,xs,h1,h2,h5,h3,h4⟩:=h _ rfl;exact⟨⟨h0,v,xs,by rw[hcur];exact h1,h2,C8 (fun _ _ h=>vT (g:=g) (g':=tZ g np m) rfl hp h) h5,fun q hq=>by rw[hcur];exact h3 q hq,h4⟩,fun bb oo ⟨v',e1,e2⟩=>⟨_,rfl,v',by rw[hcur] at e1;exact e1,e2⟩⟩
  exact⟨trivial,fun _ _ h=>h.elim⟩
 .rename_i k v l;split
  .rename_i hp;rw[aSV] at hp;obtain⟨p,es,cl,h1,h0,h2,h3,h4⟩:=h _ rfl;exact⟨⟨p,es,cl,by rw[hJ];exact h1,h0,h2,Q1 (g:=g) (g':=tZ g np m) rfl hp.1 hp.2 h3,h4⟩,fun bb oo ⟨pp,e1,e2⟩=>⟨_,rfl,pp,by rw[hJ] at e1;exact e1,e2⟩⟩
  exact⟨trivial,fun _ _ h=>h.elim⟩
 .obtain⟨p,h1,h0,h2,h4⟩:=h _ rfl;exact⟨⟨p,by rw[hJ];exact h1,h0,h2,h4⟩,fun bb oo ⟨pp,e1,e2⟩=>⟨_,rfl,pp,by rw[hJ] at e1;exact e1,e2⟩⟩
 exact⟨trivial,fun _ _ h=>h.elim⟩
def I5 {m:pG}{H:rX}: ∀{l:pG}{n:Nat}{b:pV},pY (UP m H l) n=some b->∃o,(n,o)∈l/\b=yU m (pY H o)
 |[],_,_,h=>by cases h
 |(a,c)::l,n,b,h=>by
  simp only[UP,pY] at h;split at h
  .rename_i e;subst e;exact⟨c,aS2,(aSG h).symm⟩
  obtain⟨o,h1,h2⟩:=I5 h;exact⟨o,aSQ _ h1,h2⟩
def aBz {m:pG}{env:List (Nat×pW)}: ∀(l:pL) (t:Nat),lk (PV m env l) t=(.any,none)\/lk (PV m env l) t=zX m (lk env t)
 |[],_=> .inl rfl
 |a::l,t=>by
  simp only[PV,lk];split
  .rename_i e;subst e;exact .inr rfl
  exact aBz l t
def aBA: ∀{m:pG}{n o:Nat},(n,o)∈m->n<UQ m
 |(a,b)::m,n,o,h=>by
  simp only[UQ];rcases aSP.1 h with h1|h1
  .cases h1;omega
  have:=aBA h1;omega
def a01: ∀{m:pG}{n o:Nat},zO m n=some o->(n,o)∈m
 |[],_,_,h=>by cases h
 |(a,b)::m,n,o,h=>by
  simp only[zO] at h;split at h
  .rename_i e;subst e;simp only[aSC] at h;subst h;exact aS2
  exact aSQ _ (a01 h)
def a02 {B:Nat}{A:Nat->Nat->Prop}{L:List pV}{g0 g:Gh}{w0 w:pM}{s:St}{a:Act}(h:uM B g w s a) (hg:sX A L g0 w0 g w s.H) (hnp:s.np=L.length) (k:vY) (hk:wT s.np k.ids=true):
  uM B (tZ g s.np k.ids) w (s.keep k) a/\sX A L g0 w0 (tZ g s.np k.ids) w (s.keep k).H/\(s.keep k).np=L.length/\(s.keep k).N=s.N:=by
 unfold St.keep;rw[hk];refine⟨⟨fun t=>?_,⟨fun i b hb=>?_,fun i j bi bj b o hij h1 h2 o1 o2=>?_,h.heap.sl,h.heap.tab.1,fun i b bb oo hb ho=>by
   obtain⟨o,h1,rfl⟩:=I5 hb;obtain⟨c1,e1,o1'⟩:=(KU hk h1 fun c hc=>h.heap.blk o c hc).2 bb oo ho;exact h.heap.tab.2 o c1 bb oo e1 o1'⟩,h.size,fun i hi=>?_,h.def_,Nat.le_max_left _ _⟩,⟨hg.shut,hg.fr,fun i blk b o hb ho=>?_,fun i p hi hp=>?_,fun i hi=>?_,fun i u y us hi hb=>?_,fun i n u hi hu=>(by
   show (if i<s.np then g.cur i n else _)=_;rw[aSB pB];exact hg.cur i n u hi hu)⟩,hnp,rfl⟩
 .rcases aBz (m:=k.ids) (env:=s.env) k.slots t with e|e
  .exact⟨by rw[show lk (PW s k true).env t=_ from e];trivial,by rw[show lk (PW s k true).env t=_ from e];trivial⟩
  have:=VM hk (h.env t);rw[show lk (PW s k true).env t=_ from e];exact this
 .obtain⟨o,h1,rfl⟩:=I5 hb;exact(KU hk h1 fun c hc=>h.heap.blk o c hc).1
 .obtain⟨p,k1,rfl⟩:=I5 h1;obtain⟨q,k2,rfl⟩:=I5 h2;obtain⟨c1,e1,o1'⟩:=(KU hk k1 fun c hc=>h.heap.blk p c hc).2 b o o1;obtain⟨c2,e2,o2'⟩:=(KU hk k2 fun c hc=>h.heap.blk q c hc).2 b o o2;refine h.heap.dis p q c1 c2 b o (fun e=>?_) e1 e2 o1' o2';subst e;have inj: ∀{m:pG},wT s.np m=true->∀{i j o:Nat},(i,o)∈m->(j,o)∈m->i=j:=by
   intro m
   induction m with
   |nil=>intro _ _ _ _ h;cases h
   |cons z m ih=>
    obtain⟨z1,z2⟩:=z;intro hk i j o h1 h2;simp only[wT,aSV,aTg] at hk;rcases aSP.1 h1 with h1|h1<;>rcases aSP.1 h2 with h2|h2
    .cases h1;cases h2;rfl
    .cases h1;exact absurd rfl (VL hk.1.2 _ _ h2).2
    .cases h2;exact absurd rfl (VL hk.1.2 _ _ h1).2
    exact ih hk.2 h1 h2
  exact hij (inj hk k1 k2)
 .have hi': ¬i<s.np:=by have:=aTA (Nat.le_max_left _ _) hi;omega
  have hold:zO k.ids i=none:=by
   cases ho:zO k.ids i with
   |none=>rfl
   |some o=>
    have:=aBA (a01 ho);have:=aTA (Nat.le_max_right _ _) hi;omega
  refine⟨?_,fun n=>?_⟩
  .show (if i<s.np then g.J i else(zO k.ids i).bind g.J)=none;rw[aSD hi',hold];rfl
  show (if i<s.np then g.cur i n else(zO k.ids i).bind fun o=>g.cur o n)=none;rw[aSD hi',hold];rfl
 .obtain⟨p,h1,rfl⟩:=I5 hb;obtain⟨c,e1,e2⟩:=(KU hk h1 fun c hc=>h.heap.blk p c hc).2 b o ho;exact hg.perm p c b o e1 e2
 .show (if i<s.np then g.J i else _)=_;rw[aSB pB];exact hg.J i p hi hp
 .rcases hg.live i hi with⟨p,hp⟩ |⟨n,v,hv⟩
  .left;refine⟨p,?_⟩;show (if i<s.np then g.J i else _)=_;rw[aSB pB];exact hp
  right;refine⟨n,v,?_⟩;show (if i<s.np then g.cur i n else _)=_;rw[aSB pB];exact hv
 obtain⟨o,h1,h2⟩:=I5 hb;have ho:=(a0Z hk h1).2 pB;subst ho;unfold yU at h2;split at h2
 .rename_i t x toks heq;split at h2
  .simp only[pV.cells.injEq] at h2;obtain⟨rfl,_⟩:=h2;exact hg.ty o u x toks hi heq
  cases hy:yT k.ids t x with
  |none=>rw[hy] at h2;cases h2
  |some y=>
   rw[hy] at h2;simp only[ZY,pV.cells.injEq] at h2;obtain⟨rfl,_⟩:=h2;exact hg.ty o u x toks hi heq
 .cases h2
 .split at h2<;>cases h2
 .split at h2<;>cases h2
 .cases h2
 cases h2
def G7 {B:Nat}{A:Nat->Nat->Prop}{L:List pV}{g0 g:Gh}{w0 w:pM}{s:St}{a:Act}(h:uM B g w s a) (hg:sX A L g0 w0 g w s.H) (hnp:s.np=L.length) (k:vY):
  ∃g',uM B g' w (s.keep k) a/\sX A L g0 w0 g' w (s.keep k).H/\(s.keep k).np=L.length/\(s.keep k).N=s.N:=by
 unfold St.keep;cases hk:wT s.np k.ids with
 |false=>
  refine⟨g,⟨fun t=>⟨trivial,trivial⟩,⟨(fun i b h=>by cases h),(fun i j bi bj b o _ h=>by cases h),h.heap.sl,h.heap.tab.1,(fun i b bb oo h=>by cases h)⟩,h.size,h.nb,h.def_,h.np⟩,⟨hg.shut,hg.fr,(fun i blk b o h=>by cases h),hg.J,hg.live,(fun i u y us _ h=>by cases h),hg.cur⟩,hnp,rfl⟩
 |true=>
  have:=a02 h hg hnp k hk;unfold St.keep at this;rw[hk] at this;exact⟨_,this⟩
end Go.Proofs.YtcpbaddnmpeipaaGreatDoor.Vc
