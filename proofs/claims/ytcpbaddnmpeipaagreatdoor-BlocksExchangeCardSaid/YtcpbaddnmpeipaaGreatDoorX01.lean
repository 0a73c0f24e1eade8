/- Packed by a program of mine (wip/tools/pack.py): the same texts with short names and few blanks. -/
import Derived.ChangeKeysEq
import Derived.Laws.BytesArg
import Derived.Laws.StructEq
import Derived.Lib.AppendStr
import Derived.MapKept
import Derived.RangeFuncLeaves
import Derived.RangeFuncNested
import Derived.WalkSpells
import Derived.Test.YtcpbaddnmpeipaaGreatDoorX00
set_option linter.defProp false
set_option linter.unusedVariables false
set_option linter.unusedSimpArgs false
set_option linter.unusedSectionVars false
set_option maxRecDepth 100000
set_option maxHeartbeats 4000000
namespace Go.Proofs.YtcpbaddnmpeipaaGreatDoor.Vc
open Go.RowKit
def yS (g:Gh) (base:Nat) (e:r6):Prop:= ∀i,i∈qU e.upd->base<=i->g.J i=none/\∀n,g.cur i n=none
section
variable {P:Program}{o:Oper}{a:Act}{g:Gh}{w:qD}{H:sJ}{T:sZ}(hT:xZ P T) (hH:sO g w H)
include hT hH
theorem Mo {x:Operand}(ho:o.op= .move x\/o.op= .assign x) {sx:qQ}(z:rX g w sx (a.eval x)) {base:Nat}{e:r6}(hr:dk base (s5 T o.type) sx=some e) (hf:yS g base e):rR P o a g w H e:=by
 have h:(execOp a.eval o).run P w= .ok (.value (a.eval x)) w:=by rcases ho with ho|ho<;>simp [execOp,ho]
 generalize hst:s5 T o.type=ot at hr;unfold dk at hr;split at hr
 .cases hr;have D:a.eval x= .slice none 0 0:=z.1;have j:=(hf base (by simp [qU]) (aGc _)).2;refine rR.value (v:= .slice none 0 0) (by rw[h,D]) (rU.row (v:= .slice none 0 0) (xs:=[]) hH rfl (World.ownsRow_nil w 0 _ _) rfl (fun m _=>j m) (fun u E=>by rw[j] at E;cases E) (.inl ⟨rfl,rfl,rfl,aGc _,fun _ _ _=>rfl⟩) (fun _ _ _=>rfl) (fun b hb=>by cases hb) (fun b hb=>by cases hb) ⟨⟨by simp [Gh.tok],.inl ⟨rfl,rfl⟩⟩,trivial⟩)
 .cases hr;have D:a.eval x= .slice none 0 0:=z.1;refine rR.value (v:= .slice none 0 0) (by rw[h,D]) (rU.nilTok hH rfl (hf base (by simp [qU]) (aGc _)).2)
 .cases hr
 cases hr;exact rR.value h (.pure hH z)
theorem a42 {u:Ty}{y:List u.den}{k:qB}{v:qE}{cs:q8}(h:EB g (.list u) y v k) (j:cs=[v]):I7 g (.list u) y cs (yI k 0):=by
 intro q kk hm;cases k with
 |none=>simp [yI] at hm
 |some k=>
  simp only[yI,aF7,aGi] at hm;obtain⟨rfl,rfl⟩:=hm;exact⟨u,y,v,by unfold rH;simp [uM],by rw[j];rfl,h⟩
omit hT hH in
theorem ip {w:qD}: ∀(ls:List (Nat×TypeId×Nat)) (i:Nat) (g:Gh) (H:sJ),sO g w H->(∀j,i<=j->j<i+ls.length->∀n,g.cur j n=none)->
  ∃g1,rU g w H ⟨[],(.any,none),F0 ls i,[]⟩ g1 w undef/\g1.J=g.J/\(∀o k,(o,k)∈D5 ls i->g1.cur k 0=some (.slice none 0 0))/\(∀k,k<i->g1.cur k=g.cur k)
 |[],i,g,H,hH,_=>⟨g,.pure hH ⟨trivial,trivial⟩,rfl,fun _ _ h=>by simp [D5] at h,fun _ _=>rfl⟩
 |(o,e,c)::r,i,g,H,hH,hf=>by
  have e1:=rU.nilTok (side:=[]) (d:= .val (.list .bool) []) (rds:=[]) (base:=i) (e:=e) (c:=c) (u:= .bool) hH rfl (hf i (aGc _) pV);have z: ∀k n,k≠i->(g.tok i 0 (.slice none 0 0)).cur k n=g.cur k n:=fun k n D=>by
   show (if k=i/\n=0 then _ else _)=_;rw[aFQ (fun h=>D h.1)]
  obtain⟨g1,k1,k2,k3,k4⟩:=ip r (i+1) (g.tok i 0 (.slice none 0 0)) (rD [(i,qP.grow e c 0)] H) e1.heap (fun j F E n=>by rw[z j n pT];exact hf j pT (by simp only[aFV];omega) n);refine⟨g1,e1.trans k1,k2.trans rfl,fun o' k hm=>?_,fun k D=>?_⟩
  .simp only[D5,aF1,aGi] at hm;rcases hm with⟨rfl,rfl⟩ |hm
   .rw[k4 _ pT];show (if k=k/\0=0 then _ else _)=_;simp
   exact k3 o' k hm
  rw[k4 k pT];funext n;exact z k n pT
omit hT hH in
theorem iq: ∀{ls:List (Nat×TypeId×Nat)}{i o k:Nat},(o,k)∈D5 ls i->∃q∈ls,q.1=o
 |[],_,_,_,h=>by simp [D5] at h
 |(o',e,c)::r,i,o,k,h=>by
  simp only[D5,aF1,aGi] at h;rcases h with⟨j,_⟩ |h
  .exact⟨(o',e,c),by simp,j.symm⟩
  obtain⟨q,j,z⟩:=iq h;exact⟨q,by simp [j],z⟩
omit hT hH in
theorem ir {t:Ty}: ∀{ls:List (Nat×TypeId×Nat)},GC t ls=true->∀q∈ls,GB t q.1=true
 |[],_,_,h=>by cases h
 |(o,e,c)::r,h,q,hq=>by
  simp only[GC,aF0] at h;rcases aF1.1 hq with rfl|hq
  .exact h.1
  exact ir h.2 q hq
omit hT hH in
theorem S7: ∀(ls:List (Nat×TypeId×Nat)) (i j:Nat),j∈qU (F0 ls i)↔i<=j/\j<i+ls.length
 |[],i,j=>by simp only[F0,qU,aHj,aF8,false_iff];omega
 |(o,e,c)::r,i,j=>by
  simp only[F0,DB,S7 r (i+1) j,qU,aF7,aFV];omega
omit hT hH in
theorem iu {w:qD}: ∀(R:List (Nat×Nat×Ty)) (i:Nat) (g:Gh) (H:sJ),sO g w H->(∀j,i<=j->j<i+R.length->∀n,g.cur j n=none)->
  ∃g1,rU g w H ⟨[],(.any,none),GD R i,[]⟩ g1 w undef/\g1.J=g.J/\(∀j,j<R.length->g1.cur (i+j) 0=some (.slice none 0 0))/\(∀k,k<i->g1.cur k=g.cur k)
 |[],i,g,H,hH,_=>⟨g,.pure hH ⟨trivial,trivial⟩,rfl,fun _ h=>by simp at h,fun _ _=>rfl⟩
 |(o,e,u)::r,i,g,H,hH,hf=>by
  have z:=hf i (aGc _) pV;have e1:=rU.row (side:=[]) (rds:=[]) (k:=i) (e:=e) (t:=u) (l:=[]) (n:=0) (s:=(.any,none)) (val:=undef) (v:= .slice none 0 0) (xs:=[]) hH rfl (World.ownsRow_nil w 0 _ _) rfl (fun m _=>z m) (fun u E=>by rw[z] at E;cases E) (.inl ⟨rfl,rfl,rfl,aGc _,fun _ _ _=>rfl⟩) (fun _ _ _=>rfl) (fun b hb=>by cases hb) (fun b hb=>by cases hb) ⟨trivial,trivial⟩;have D: ∀k n,k≠i->(g.tok i 0 (.slice none 0 0)).cur k n=g.cur k n:=fun k n F=>by
   show (if k=i/\n=0 then _ else _)=_;rw[aFQ (fun h=>F h.1)]
  obtain⟨g1,k1,k2,k3,k4⟩:=iu r (i+1) (g.tok i 0 (.slice none 0 0)) (rD [(i,qP.row e u [] 0)] H) e1.heap (fun j K I n=>by rw[D j n pT];exact hf j pT (by simp only[aFV];omega) n);refine⟨g1,e1.trans k1,k2.trans rfl,fun j G=>?_,fun k F=>?_⟩
  .cases j with
   |zero=>
    rw[aG0,k4 _ pT];show (if i=i/\0=0 then _ else _)=_;simp
   |succ j=>
    have:=k3 j (by simpa using G);rwa [show i+1+j=i+(j+1) by omega] at this
  rw[k4 k pT];funext n;exact D k n pT
omit hT hH in
theorem XB: ∀(R:List (Nat×Nat×Ty)) (i j:Nat),j∈qU (GD R i)↔i<=j/\j<i+R.length
 |[],i,j=>by simp only[GD,qU,aHj,aF8,false_iff];omega
 |(o,e,c)::r,i,j=>by
  simp only[GD,DB,XB r (i+1) j,qU,aF7,aFV];omega
omit hT hH in
theorem iw {α:Type}: ∀l:List α,RG l=l.length
 |[]=>rfl
 |_::l=>by simp only[RG,iw l,aFV]
omit hT hH in
theorem Mq {g:Gh}{w:qD}: ∀{t:Ty}{x:t.den}{cs:q8}{o:Nat},Rd g w t x cs->∀q∈AE t x o,o<=q.1/\cs[q.1-o]? =some (.slice none 0 0):=by
 intro t
 induction t with
 |pair a b iha ihb=>
  intro x cs o r q hq;obtain⟨c1,c2,rfl,r1,r2⟩:=r;simp only[AE,I8] at hq;have hl:=t8 r1;rcases hq with hq|hq
  .obtain⟨j,h⟩:=iha r1 q hq;exact⟨j,by rw[aF9 (aF5.1 h).1];exact h⟩
  .obtain⟨j,h⟩:=ihb r2 q hq;refine⟨pT,?_⟩;rw[aFZ pT,hl,show q.1-o-a.cells=q.1- (o+a.cells) by omega];exact h
 |rl e u=>
  intro x cs o r q hq;cases x with
  |none=>
   simp only[AE,dm,aF7] at hq;subst hq;refine⟨aGc _,?_⟩;rw[show cs=[.slice none 0 0] from r];simp
  |some z=>simp [AE,dm] at hq
 |_=>intro x cs o r q hq;simp [AE] at hq
omit hT hH in
theorem a43 {g:Gh}{w:qD}: ∀{t:Ty}{x:t.den}{cs:q8}{o:Nat},Rd g w t x cs->∀q∈I0 t x o,o<=q/\cs[q-o]? =some (.pointer none):=by
 intro t
 induction t with
 |pair a b iha ihb=>
  intro x cs o r q hq;obtain⟨c1,c2,rfl,r1,r2⟩:=r;simp only[I0,I8] at hq;have hl:=t8 r1;rcases hq with hq|hq
  .obtain⟨j,h⟩:=iha r1 q hq;exact⟨j,by rw[aF9 (aF5.1 h).1];exact h⟩
  .obtain⟨j,h⟩:=ihb r2 q hq;refine⟨pT,?_⟩;rw[aFZ pT,hl,show q-o-a.cells=q- (o+a.cells) by omega];exact h
 |mref=>
  intro x cs o r q hq;cases x with
  |none=>
   simp only[I0,dn,aF7] at hq;subst hq;refine⟨aGc _,?_⟩;rw[show cs=[.pointer none] from r];simp
  |some z=>simp [I0,dn] at hq
 |_=>intro x cs o r q hq;simp [I0] at hq
omit hT hH in
theorem iy {g:Gh}{w:qD}{t u:Ty}{x z:t.den}{y:u.den}{cs:q8}{o:Nat}{v:qE}(h:sT u y t x o=some z) (j:Rd g w u y [v]) (G:Rd g w t x cs) (D:cs[o]? =some v):Rd g w t z cs:=by
 obtain⟨c1,c2,c3,rfl,rfl,F,h3⟩:=S0 j G h;have E:=t8 j;simp only[aG2] at E;rw[<-E] at F;obtain⟨v',rfl⟩:=aHc.1 F;have:(c1++[v']++c3)[c1.length]? =some v':=by simp
 rw[this] at D;obtain rfl:=aFU D;exact h3
omit hT hH in
theorem iz {g:Gh}{w:qD}{t:Ty}{cs:q8}: ∀{R:List (Nat×Nat×Ty)}{i:Nat}{x z:t.den},CJ t i R (some x)=some z->Rd g w t x cs->(∀q∈R,cs[q.1]? =some (.slice none 0 0))->(∀j,j<R.length->g.cur (i+j) 0=some (.slice none 0 0))->Rd g w t z cs
 |[],i,x,z,h,D,_,_=>by simp only[CJ,aFO] at h;exact h▸D
 |(o,e,u)::r,i,x,z,h,D,F,E=>by
  simp only[CJ] at h;cases hs:sT (.rl e u) (some (i,0)) t x o with
  |none=>rw[hs] at h;cases r<;>simp [CJ] at h
  |some x'=>
   rw[hs] at h;refine iz h (iy (v:= .slice none 0 0) hs ⟨_,by simpa using E 0 pV,rfl,.inl ⟨rfl,rfl⟩⟩ D (F _ aGa)) (fun q hq=>F q (aF2 _ hq)) (fun j G=>?_);have:=E (j+1) (by simpa using G);rwa [show i+(j+1)=i+1+j by omega] at this
omit hT hH in
theorem Mr {g:Gh}{w:qD}{t:Ty}{cs:q8}{i:Nat}{p:Pl}(hp:g.J i=some p) (j:p.2=0): ∀{M:qC}{x z:t.den},JR t i M (some x)=some z->Rd g w t x cs->(∀q∈M,cs[q]? =some (.pointer none)/\gp p.3 q)->Rd g w t z cs
 |[],x,z,h,E,_=>by simp only[JR,aFO] at h;exact h▸E
 |q::r,x,z,h,E,D=>by
  simp only[JR] at h;cases hs:sT .mref (some (i,q)) t x q with
  |none=>rw[hs] at h;cases r<;>simp [JR] at h
  |some x'=>
   rw[hs] at h;exact Mr hp j h (iy (v:= .pointer none) hs ⟨p,hp,by rw[j,aGk];exact(D _ aGa).2,.inl rfl⟩ E (D _ aGa).1) (fun q hq=>D q (aF2 _ hq))
omit hT hH in
theorem XC {k:Nat}: ∀{ls:List (Nat×TypeId×Nat)}{q:Nat×TypeId×Nat},q∈D6 k ls->q.1+1≠k
 |[],_,h=>by cases h
 |(o,e,c)::r,q,h=>by
  simp only[D6] at h;split at h
  .exact XC h
  rename_i hne;rcases aF1.1 h with rfl|h
  .exact hne
  exact XC h
omit hT in
theorem ja {t:Ty}{y:t.den}{ls:List (Nat×TypeId×Nat)}{base:Nat}{e:r6}{cs:q8}{el:TypeId}(hr:RH base el t y ls (GC t ls)=some e) (hf:yS g base e) (U:Rd g w t y cs) (Y: ∀q∈ls,∃k,yQ k t 0 cs/\q.1+1≠k):
  ∃g',rU g w H e g' (w.alloc (.cells cs.toArray el)) (.pointer (some ⟨w.heap.size,0,none⟩)):=by
 cases hl:GC t ls with
 |false=>rw[hl] at hr;cases hr
 |true=>
  rw[hl] at hr;simp only[RH,iw] at hr;have cR:=fun q hq=>Mq (o:=0) U q hq;have cM: ∀q∈VL el t y,cs[q]? =some (.pointer none)/\gp (some (el,cs.length)) q:=by
   intro q hq;unfold VL at hq;split at hq
   .rename_i hb;have h0:=fun q hq=>a43 (o:=0) U q hq;have hl:=t8 U;generalize I0 t y 0=M at hq h0;rw[<-hl] at hq;unfold Kb at hq;split at hq
    .rename_i D;simp only[aF7] at hq;subst hq;exact⟨by simpa using(h0 0 pV).2,rfl,el,hb,by rw[D]⟩
    cases hq
   cases hq
  generalize AE t y 0=R at hr cR;generalize VL el t y=M at hr cM;cases F:CJ t (base+1+ls.length) R (some y) with
  |none=>
   rw[F] at hr;have:JR t base M none=none:=by cases M<;>rfl
   rw[this] at hr;cases hr
  |some z1=>
   rw[F] at hr;cases E:JR t base M (some z1) with
   |none=>rw[E] at hr;cases hr
   |some z=>
    rw[E] at hr;simp only[Kc,iw] at hr;obtain rfl:=(aFU hr);have K: ∀j,base+1<=j->j<base+1+ls.length+R.length->g.J j=none/\∀n,g.cur j n=none:=fun j I D=>hf j (by
     simp only[qU,aF1];right;rw[DB];by_cases h3:j<base+1+ls.length
     .exact .inr ((S7 ls (base+1) j).2 ⟨I,h3⟩)
     exact .inl ((XB R (base+1+ls.length) j).2 ⟨pT,D⟩)) pT
    have G:=hf base (by simp [qU]) (aGc _);obtain⟨g1,k1,k2,k3,k4⟩:=ip ls (base+1) g H hH (fun j I D=>(K j I pT).2);have Q: ∀j,base+1+ls.length<=j->j<base+1+ls.length+R.length->∀n,g1.cur j n=none:=by
     intro j I D n;have:=(k1.gho j (by simp only;rw[S7];omega)).2;rw[this];exact(K j pT D).2 n
    obtain⟨g2,m1,m2,m3,m4⟩:=iu R (base+1+ls.length) g1 _ k1.heap Q;have hJ:(g2.var base w.heap.size (some (el,cs.length))).J base=some ⟨w.heap.size,0,some (el,cs.length)⟩:=by simp [Gh.var]
    have hle:Le g w (g2.var base w.heap.size (some (el,cs.length))) w:=by
     refine((k1.le.trans m1.le).trans ⟨fun _ _ h=>h,fun _ _ _=>rfl,fun i p h=>?_,fun _ _ _ h=>h⟩);show (if i=base then _ else _)=_;rw[aFQ (fun e1=>by rw[e1,m2,k2,G.1] at h;cases h)];exact h
    have O:Rd (g2.var base w.heap.size (some (el,cs.length))) w t z cs:=Mr hJ rfl E (iz F (wW hle U) (fun q hq=>by simpa using(cR q hq).2) (fun j Z=>m3 j Z)) cM;have X:I7 g2 t z cs (D5 ls (base+1)):=by
     intro o k hm;obtain⟨q,hq,rfl⟩:=iq hm;obtain⟨kx,V,ha⟩:=Y q hq;obtain⟨u,I,D⟩:=Ly V O (ir hl q hq) pT;exact⟨u,[],_,I,D,m1.le.cur _ _ _ (k3 _ _ hm)⟩
    have e3:=rU.newVarJ (side:=[]) (rds:=[]) (base:=base) (toks:=D5 ls (base+1)) (e:=el) m1.heap O X (by rw[m2,k2];exact G.1) (by rw[m4 base pT,k4 base pT];exact funext G.2);have e4:=rU.trans (side:=[]) (rds:=[]) k1 m1;exact⟨_,rU.trans (side:=[]) (rds:=[]) e4 (e3.congrH (H':=rD (rD (GD R (base+1+ls.length)) (F0 ls (base+1))) H) (by simp only[MQ]))⟩
theorem jc {t:Ty}{y:t.den}{k:qB}{v:qE}(h:rX g w (.val t y,k) v):tJ g w t y v/\EB g t y v k:=by
 refine⟨h.1,?_⟩;cases k with
 |none=>trivial
 |some k=>exact h.2
theorem a44 {t:TypeId}{x:Operand}(ho:o.op= .box t x) {sx:qQ}(K:rX g w sx (a.eval x)) {base:Nat}{e:r6}(hr:dp base t (s5 T t) sx=some e) (hf:yS g base e):rR P o a g w H e:=by
 generalize hst:s5 T t=ot at hr;have z:(execOp a.eval o).run P w= .ok (.value (.pointer (some ⟨w.heap.size,0,none⟩))) (w.alloc (.cells (a.eval x).cells.toList.toArray t)):=by
  unfold execOp;rw[ho];simp only[Instr.box,Go.newVar,newRow,aF4,run_newObj,aFX,aGg,aHk];rfl
 have one: ∀{u:Ty}{y:u.den},tJ g w u y (a.eval x)->u.isRow=false->(a.eval x).cells.toList=[a.eval x]:=fun E D=>by
  have I:=AW (y5 D E) _ (aF7.2 rfl);cases h:a.eval x<;>first|rfl|(rw[h] at I;simp [Value.oneCell'] at I)
 unfold dp at hr;split at hr
 .rename_i ti u y k;split at hr
  .obtain⟨E,G⟩:=jc hT hH K;have F:=GJ E;unfold Kd at hr;split at hr
   .rename_i a' b' y' k' _;have M:yQ k' (.pair a' b') 0 (a.eval x).cells.toList:=G;obtain⟨g',h⟩:=ja (el:=t) hH hr hf F (fun q hq=>⟨k',M,XC hq⟩);exact rR.value z h
   .rename_i u' y' k';cases hr;have j:=hf base (by simp [qU]) (aGc _);exact rR.value z (rU.newVar hH F (a42 hT hH G (one E rfl)) j.1 (funext j.2))
   cases hr;have j:=hf base (by simp [qU]) (aGc _);exact rR.value z (rU.newVar hH F (fun q k hm=>by cases hm) j.1 (funext j.2))
  cases hr
 cases hr
theorem Ms {t:TypeId}(run: ∀ti,s5 T t=some ti->(execOp a.eval o).run P w= .ok (.value (.pointer (some ⟨w.heap.size,0,none⟩))) (w.alloc (.cells (uO ti.ty).toArray t))) {base:Nat}{e:r6}(hr:RI base t (s5 T t)=some e) (hf:yS g base e):rR P o a g w H e:=by
 generalize hst:s5 T t=ot at hr;unfold RI at hr;split at hr
 .rename_i u el by' ar ls_;cases hr;have j:=hf base (by simp [qU]) (aGc _);have D:=hf (base+1) (by simp [qU]) pT;have F:=tB hT hst;have e1:=rU.nilTok (side:=[]) (d:= .val (.list u) []) (rds:=[]) (base:=base+1) (e:=el) (c:=u.cells) (u:=u) hH rfl D.2;have E:=e1.heap;have z:I7 (g.tok (base+1) 0 (.slice none 0 0)) (.list u) [] [.slice none 0 0] [(0,base+1)]:=by
   intro q kk hm;simp only[aF7,aGi] at hm;obtain⟨rfl,rfl⟩:=hm;exact⟨u,[],.slice none 0 0,by unfold rH;simp [uM],rfl,by simp [Gh.tok]⟩
  have e2:=rU.newVar (side:=[]) (rds:=[]) (base:=base) (toks:=[(0,base+1)]) (e:=t) E (F3 (g.tok (base+1) 0 (.slice none 0 0)) w (.list u)) z j.1 (by
   funext n;show (if base=base+1/\n=0 then _ else _)=_;rw[aFQ pT];exact j.2 n)
  exact rR.value (run _ hst) (rU.trans (side:=[]) (rds:=[]) e1 e2)
 .rename_i ti G;obtain⟨g',h⟩:=ja (el:=t) hH hr hf (F3 g w ti.ty) (fun q _=>⟨0,X4 _ _,pT⟩);exact rR.value (run _ hst) h
 cases hr
theorem a47 {t:TypeId}(ho:o.op= .alloc t) {base:Nat}{e:r6}(hr:RI base t (s5 T t)=some e) (hf:yS g base e):rR P o a g w H e:=by
 have run: ∀ti,s5 T t=some ti->(execOp a.eval o).run P w= .ok (.value (.pointer (some ⟨w.heap.size,0,none⟩))) (w.alloc (.cells (uO ti.ty).toArray t)):=by
  intro ti j;obtain⟨i,hi,E,z⟩:=F5 (tB hT j);have D:(yR ti.ty).cells=(uO ti.ty).toArray:=by
   have:=GJ (MR g w ti.ty);unfold yR;cases h:ti.ty<;>simp [Ty.isRow,uO,Value.cells]
  unfold execOp;rw[ho];simp only[Instr.alloc,zeroValue,typeInfo,Go.newVar,newRow,aF4,aGR,hi,z,D,run_newObj,aFX,aGg];rfl
 exact Ms hT hH run hr hf
theorem a48 {t:TypeId}{x:Operand}(ho:o.op= .box t x) {sx:qQ}(E:rX g w sx (a.eval x)) (z: ∀ti:Option TI,rX g w (OM ti sx) (a.eval x)) {base:Nat}{e:r6}(hr:dq base t (s5 T t) sx=some e) (hf:yS g base e):rR P o a g w H e:=by
 generalize hst:s5 T t=ot at hr;unfold dq at hr;split at hr
 .rename_i u el by' ls_ k;obtain⟨g',h⟩:=ja (el:=t) hH hr hf (show Rd g w (.rl el u) none [.slice none 0 0] from rfl) (fun q hq=>by cases hq);have D:a.eval x= .slice none 0 0:=E.1;refine rR.value ?_ h;unfold execOp;rw[ho];simp only[Instr.box,Go.newVar,newRow,aF4,run_newObj,aFX,aGg,D];rfl
 .rename_i u el by' ar ls_ k;rw[<-hst] at hr;refine Ms hT hH (fun ti j=>?_) hr hf;rw[hst] at j;cases j;have D:a.eval x= .slice none 0 0:=E.1;unfold execOp;rw[ho];simp only[Instr.box,Go.newVar,newRow,aF4,run_newObj,aFX,aGg,D];rfl
 rw[<-hst] at hr;exact a44 hT hH ho (z _) hr hf
omit hT hH in
theorem a49 {t:Ty}{y:t.den}{k:qB}{v:qE}(h:EB g t y v k):EB g t y v (G8 t k):=by
 cases t with
 |list u=>exact h
 |_=>trivial
omit hT hH in
theorem Mt {off:Nat}: ∀{l:pY}{o k:Nat},(o,k)∈OV off l->∃q,o=off+q/\(q,k)∈l
 |[],_,_,h=>by cases h
 |(q,k')::r,o,k,h=>by
  simp only[OV,aF1,aGi] at h;rcases h with⟨rfl,rfl⟩ |h
  .exact⟨q,rfl,aGa⟩
  obtain⟨q',z,j⟩:=Mt h;exact⟨q',z,aF2 _ j⟩
omit hT hH in
theorem Mu {v t:Ty}{y:t.den}: ∀{u:Ty}{x z:u.den}{o q:Nat}{l:(Ty.list v).den},sT t y u x o=some z->rH (.list v) t y q=some l->q<t.cells->rH (.list v) u z (o+q)=some l:=by
 intro u
 induction u with
 |pair a b iha ihb=>
  intro x z o q l h g hq;by_cases D:o=0/\t= .pair a b
  .obtain⟨rfl,rfl⟩:=D;unfold sT at h;rw[aHQ rfl] at h;simp only[uM,aFO] at h;subst h;simpa using g
  .have keyh:(if o<a.cells then(sT t y a x.1 o).map (fun q=>(q,x.2)) else(sT t y b x.2 (o-a.cells)).map (fun q=>(x.1,q)))=some z:=by
    cases o with
    |zero=>
     unfold sT at h;rw[aHi (fun e=>D ⟨rfl,e⟩)] at h;simpa using h
    |succ o=>simpa[sT] using h
   have keyg: ∀m,rH (.list v) (.pair a b) z m=(if m<a.cells then rH (.list v) a z.1 m else rH (.list v) b z.2 (m-a.cells)):=by
    intro m;cases m with
    |zero=>
     conv=>lhs;unfold rH
     rw[aHi (by intro e;cases e),Nat.zero_sub]
    |succ m=>simp [rH]
   rw[keyg];by_cases ho:o<a.cells
   .rw[aFP ho] at keyh;obtain⟨z',j,rfl⟩:=aF6.1 keyh;have E:o+t.cells<=a.cells:=by
     have: ∀{u:Ty}{x z:u.den}{o:Nat},sT t y u x o=some z->o+t.cells<=u.cells:=by
      intro u
      induction u with
      |pair a b iha ihb=>
       intro x z o h;have key: ∀o,(if o<a.cells then(sT t y a x.1 o).map (fun q=>(q,x.2)) else(sT t y b x.2 (o-a.cells)).map (fun q=>(x.1,q)))=some z->o+t.cells<=a.cells+b.cells:=by
        intro o h;by_cases ho:o<a.cells
        .rw[aFP ho] at h;obtain⟨z',j,_⟩:=aF6.1 h;have:=iha j;omega
        rw[aFQ ho] at h;obtain⟨z',j,_⟩:=aF6.1 h;have:=ihb j;omega
       cases o with
       |zero=>
        unfold sT at h;split at h
        .rename_i e;subst e;simp
        .exact key 0 (by simpa using h)
       |succ o=>exact key (o+1) (by simpa[sT] using h)
      |_=>
       intro x z o h;cases o with
       |zero=>
        unfold sT at h;split at h
        .rename_i e;subst e;simp
        .simp at h
       |succ o=>simp [sT] at h
     exact this j
    rw[aFP pT];exact iha j g hq
   .rw[aFQ ho] at keyh;obtain⟨z',j,rfl⟩:=aF6.1 keyh;rw[aFQ pT,show o+q-a.cells=o-a.cells+q from by omega];exact ihb j g hq
 |_=>
  intro x z o q l h g hq;cases o with
  |zero=>
   unfold sT at h;split at h
   .rename_i e;subst e;simp only[uM,aFO] at h
    try subst h
    simpa using g
   .simp at h
  |succ o=>simp [sT] at h
omit hT hH in
theorem Mv {v:Ty}: ∀{t:Ty}{x:t.den}{q:Nat}{l:(Ty.list v).den},rH (.list v) t x q=some l->q<t.cells:=by
 intro t
 induction t with
 |pair s t ihs iht=>
  intro x q l g;have key: ∀q,(if q<s.cells then rH (.list v) s x.1 q else rH (.list v) t x.2 (q-s.cells))=some l->q<s.cells+t.cells:=by
   intro q g;by_cases h:q<s.cells
   .omega
   rw[aFQ h] at g;have:=iht g;omega
  cases q with
  |zero=>
   unfold rH at g;rw[aHi (by intro e;cases e)] at g;exact key 0 (by simpa using g)
  |succ q=>exact key (q+1) (by simpa[rH] using g)
 |unit=>
  intro x q l g;cases q with
  |zero=>unfold rH at g;rw[aHi (by intro e;cases e)] at g;cases g
  |succ q=>simp [rH] at g
 |_=>
  intro x q l g;cases q with
  |zero=>simp [Ty.cells]
  |succ q=>simp [rH] at g
omit hT in
theorem rU.retok {i:Nat}{u:Ty}{z:u.den}{toks nt:pY}{p:Pl}(hb:qS H i=some (.cells u z toks)) (hp:g.J i=some p)
  (U: ∀cs,Rd g w u z cs->w.rangeAt p.1 p.2 cs->I7 g u z cs nt):rU g w H ⟨[],(.any,none),[(i,.cells u z (rD nt toks))],[]⟩ g w undef:=by
 obtain⟨p',cs,F,R,E,I,K,G⟩:=hH.blk i _ hb;rw[hp] at F;obtain rfl:=aFU F;have get: ∀j blk,j∈qU [(i,qP.cells u z (rD nt toks))]->qS (rD [(i,qP.cells u z (rD nt toks))] H) j=some blk->j=i/\blk= .cells u z (rD nt toks):=by
  intro j blk hi D;simp only[qU,aF7] at hi;subst hi;simp only[rD,qS,aHp,aFO] at D;exact⟨rfl,D.symm⟩
 have perm: ∀j blk b o,j∈qU [(i,qP.cells u z (rD nt toks))]->qS (rD [(i,qP.cells u z (rD nt toks))] H) j=some blk->sL g j blk b o->w.heap.size<=b\/t7 g H (qU [(i,qP.cells u z (rD nt toks))]) b o:=by
  intro j blk b o hi D ho;obtain⟨rfl,rfl⟩:=get j blk hi D;exact .inr ⟨j,_,hi,hb,ho⟩
 have le:Le g w g w:=⟨fun _ _ h=>h,fun _ _ _=>rfl,fun _ _ h=>h,fun _ _ _ h=>h⟩;have fr:Fr (t7 g H (qU [(i,qP.cells u z (rD nt toks))])) w w g.S g.S:=⟨rfl,rfl,rfl,aGc _,fun _ _ _=>rfl,fun _ _ _ _=>⟨rfl,rfl⟩,fun _ _ h=> .inl h,fun _ _ h=> .inl h⟩;refine⟨le,⟨trivial,trivial⟩,hH.upd le fr perm (fun _ _=>⟨rfl,rfl⟩) (fun j blk hi D=>?_) (fun i j bi bj b o hi V M Q O _ _=>M ((get i bi hi Q).1.trans (get j bj V O).1.symm)) (fun b o h=>hH.sl b o h),fr,perm,fun _ _=>⟨rfl,rfl⟩,fun j u' y' us h=>?_⟩
 .obtain⟨rfl,rfl⟩:=get j blk hi D;refine⟨p,cs,hp,R,E,I,K,fun q kk hm=>?_⟩;rcases(I8.1 hm) with hm|hm
  .exact U cs R E q kk hm
  exact G q kk hm
 simp only[rD,qS] at h;split at h
 .rename_i e1;subst e1;simp only[aFO,qP.cells.injEq] at h;obtain⟨rfl,_⟩:=h;exact .inl ⟨z,toks,hb⟩
 exact .inl ⟨y',us,h⟩
omit hT hH in
theorem a5a {g:Gh}{t a b:Ty}{y:t.den}{v:qE}{k:qB}(h:k.isSome=true) (j:t= .pair a b) (z:EB g t y v k): ∃m,k=some m/\yQ m t 0 v.cells.toList:=by
 subst j;cases k with
 |none=>cases h
 |some k=>exact⟨k,rfl,z⟩
omit hT hH in
theorem a5b {base i off:Nat}{b:Option qP}{ls:List (Nat×TypeId×Nat)}{t:Ty}{y:t.den}{k:qB}{e:r6}(h:I2 base i off b ls t y k=some e):
  (∃(s:Ty) (x:s.den) (toks:pY) (z:s.den),b=some (.cells s x toks)/\sT t y s x off=some z/\k.isSome=true/\(∃a c,t= .pair a c)/\∃m,k=some m/\GC t (D6 m ls)=true/\
   e=⟨[],(.any,none),(i,.cells s z (rD (OV off (D5 (D6 m ls) base)) (tT toks off t.cells)))::rD (F0 (D6 m ls) base) [(i,.cells s z (tT toks off t.cells))],[i]⟩)\/VW t y k i off b=some e:=by
 unfold I2 at h;split at h
 .rename_i q r a c y' k';cases D:GC (.pair a c) (D6 k' (q::r)) with
  |false=>rw[D] at h;unfold VX at h;split at h<;>first|cases h|(rename_i E;cases E)
  |true=>
   rw[D] at h;unfold VX at h;split at h
   .rename_i s x toks _;cases j:sT (.pair a c) y' s x off with
    |none=>rw[j] at h;cases h
    |some z=>
     rw[j] at h;exact .inl ⟨s,x,toks,z,rfl,j,rfl,⟨a,c,rfl⟩,_,rfl,D,(aFU h).symm⟩
   cases h
 exact .inr h
omit hT hH in
theorem Mw {i off k n el:Nat}{u v:Ty}{x:v.den}{ts:pY}{ls:List (Nat×TypeId×Nat)}{y:Option r6}{e:r6}(h:fe H i off k n el u v x ts ls y=some e):y=some e\/ez i (zC el u (some (k,n)) v x off)=some e\/RN i off k n u v x (tT ts off 1) (qS H k)=some e:=by
 cases y with
 |some r=>exact .inl h
 |none=>cases ls with
  |nil=>exact .inr (.inl h)
  |cons q r=>exact .inr (.inr h)
omit hT hH in
theorem a5c {v:Ty}{e:Nat}{u:Ty}{y:q9}: ∀{t:Ty}{x z:t.den}{o q:Nat}{l:(Ty.list v).den},sT (.rl e u) y t x o=some z->rH (.list v) t x q=some l->q≠o:=by
 intro t
 induction t with
 |pair a b iha ihb=>
  intro x z o q l h g;have keyh:(if o<a.cells then(sT (.rl e u) y a x.1 o).map (fun q=>(q,x.2)) else(sT (.rl e u) y b x.2 (o-a.cells)).map (fun q=>(x.1,q)))=some z:=by
   cases o with
   |zero=>
    unfold sT at h;rw[aHi (by intro e;cases e)] at h;simpa using h
   |succ o=>simpa[sT] using h
  have keyg:(if q<a.cells then rH (.list v) a x.1 q else rH (.list v) b x.2 (q-a.cells))=some l:=by
   cases q with
   |zero=>
    unfold rH at g;rw[aHi (by intro e;cases e)] at g;simpa using g
   |succ q=>simpa[rH] using g
  intro D;subst D;by_cases hq:q<a.cells
  .rw[aFP hq] at keyh keyg;obtain⟨z',j,_⟩:=aF6.1 keyh;exact iha j keyg rfl
  .rw[aFQ hq] at keyh keyg;obtain⟨z',j,_⟩:=aF6.1 keyh;exact ihb j keyg rfl
 |rl e' u'=>
  intro x z o q l h g D;cases q with
  |zero=>
   unfold rH at g;split at g
   .rename_i e1;cases e1
   .cases g
  |succ q=>simp [rH] at g
 |_=>
  intro x z o q l h g D;cases o with
  |zero=>
   unfold sT at h;split at h
   .rename_i e1;cases e1
   .cases h
  |succ o=>simp [sT] at h
omit hT hH in
theorem Mx {n:Nat}: ∀{l:List (Nat×qP)},VZ n l=true->∀j,j∈qU l->j<n
 |[],_,j,h=>by cases h
 |(i,b)::r,h,j,z=>by
  simp only[VZ] at h;split at h
  .simp only[qU,aF1] at z;rcases z with rfl|z
   .assumption
   exact Mx h j z
  cases h
omit hT in
theorem My {v:Ty}{t:Ty}: ∀{R:List (Nat×Nat×Ty)}{i:Nat}{x z:t.den}{q:Nat}{l:(Ty.list v).den},CJ t i R (some x)=some z->rH (.list v) t x q=some l->rH (.list v) t z q=some l
 |[],i,x,z,q,l,h,g=>by simp only[CJ,aFO] at h;exact h▸g
 |(o,e,u)::r,i,x,z,q,l,h,g=>by
  simp only[CJ] at h;cases hs:sT (.rl e u) (some (i,0)) t x o with
  |none=>rw[hs] at h;cases r<;>simp [CJ] at h
  |some x'=>
   rw[hs] at h;have hne:=a5c hs g;exact My h (XA hH hs g (fun⟨D,j⟩=>by simp only[Ty.cells] at j;omega))
omit hT in
theorem rU.reread {i:Nat}{u:Ty}{z z2:u.den}{toks0 toks:pY}{p:Pl}(hb:qS H i=some (.cells u z toks0)) (hp:g.J i=some p) (G: ∀x∈toks,x∈toks0)
  (U: ∀cs,Rd g w u z cs->w.rangeAt p.1 p.2 cs->Rd g w u z2 cs) (hl: ∀(v:Ty) q (l:(Ty.list v).den),rH (.list v) u z q=some l->rH (.list v) u z2 q=some l):rU g w H ⟨[],(.any,none),[(i,.cells u z2 toks)],[]⟩ g w undef:=by
 obtain⟨p',cs,F,X,E,K,M,I⟩:=hH.blk i _ hb;rw[hp] at F;obtain rfl:=aFU F;have get: ∀j blk,j∈qU [(i,qP.cells u z2 toks)]->qS (rD [(i,qP.cells u z2 toks)] H) j=some blk->j=i/\blk= .cells u z2 toks:=by
  intro j blk hi D;simp only[qU,aF7] at hi;subst hi;simp only[rD,qS,aHp,aFO] at D;exact⟨rfl,D.symm⟩
 have perm: ∀j blk b o,j∈qU [(i,qP.cells u z2 toks)]->qS (rD [(i,qP.cells u z2 toks)] H) j=some blk->sL g j blk b o->w.heap.size<=b\/t7 g H (qU [(i,qP.cells u z2 toks)]) b o:=by
  intro j blk b o hi D ho;obtain⟨rfl,rfl⟩:=get j blk hi D;exact .inr ⟨j,_,hi,hb,ho⟩
 have le:Le g w g w:=⟨fun _ _ h=>h,fun _ _ _=>rfl,fun _ _ h=>h,fun _ _ _ h=>h⟩;have fr:Fr (t7 g H (qU [(i,qP.cells u z2 toks)])) w w g.S g.S:=⟨rfl,rfl,rfl,aGc _,fun _ _ _=>rfl,fun _ _ _ _=>⟨rfl,rfl⟩,fun _ _ h=> .inl h,fun _ _ h=> .inl h⟩;refine⟨le,⟨trivial,trivial⟩,hH.upd le fr perm (fun _ _=>⟨rfl,rfl⟩) (fun j blk hi D=>?_) (fun i j bi bj b o hi V O R Q _ _=>O ((get i bi hi R).1.trans (get j bj V Q).1.symm)) (fun b o h=>hH.sl b o h),fr,perm,fun _ _=>⟨rfl,rfl⟩,fun j u' y' us h=>?_⟩
 .obtain⟨rfl,rfl⟩:=get j blk hi D;refine⟨p,cs,hp,U cs X E,E,K,M,fun q kk hm=>?_⟩;obtain⟨v,l,vv,Z,Y,h3⟩:=I q kk (G _ hm);exact⟨v,l,vv,hl v q l Z,Y,h3⟩
 simp only[rD,qS] at h;split at h
 .rename_i e1;subst e1;simp only[aFO,qP.cells.injEq] at h;obtain⟨rfl,_⟩:=h;exact .inl ⟨z,toks0,hb⟩
 exact .inl ⟨y',us,h⟩
omit hT in
theorem a5d {base:Nat}{e0 e:r6}(hr:RM base (some e0)=some e) {w':qD}{g1:Gh}{i:Nat}{v:Ty}{z:v.den}{ts:pY}{U:List (Nat×qP)}(Q:e0.upd=(i,.cells v z ts)::U) (hs:e0.side=[]) (hl:e0.slot=(.any,none)) (h0:rU g w H e0 g1 w' undef) (hf:yS g base e):
  e.side=[]/\∃g',rU g w H e g' w' undef:=by
 obtain⟨sd,s,up,rd⟩:=e0;simp only at Q hs hl;subst Q hs hl;simp only[RM] at hr;split at hr
 case isFalse=>cases hr
 rename_i M;have E:=Mx M;cases G:CJ v base (AE v z 0) (some z) with
 |none=>rw[G] at hr;cases hr
 |some z2=>
  rw[G] at hr;simp only[VY,aFO] at hr;subst hr;refine⟨rfl,?_⟩;obtain⟨p,cs,hp,R,Y,_,_,_⟩:=h0.heap.blk i (.cells v z ts) (by simp [rD,qS]);have D: ∀j,base<=j->j<base+(AE v z 0).length->∀n,g1.cur j n=none:=by
   intro j K V n;have I:j∉qU ((i,qP.cells v z ts)::U):=fun h=>by have:=E j h;omega
   rw[(h0.gho j I).2];exact(hf j (by simp only[qU,aF1];right;rw[DB];exact .inl ((XB _ base j).2 ⟨K,V⟩)) K).2 n
  obtain⟨g2,m1,m2,m3,m4⟩:=iu (AE v z 0) base g1 _ h0.heap D;have O:qS (rD (GD (AE v z 0) base) (rD ((i,qP.cells v z ts)::U) H)) i=some (.cells v z ts):=by
   rw[AY (fun h=>by
    have K:=(XB _ base i).1 h;have V:=E i (by simp [qU]);omega)]
   simp [rD,qS]
  have cR:=fun cs (R:Rd g2 w' v z cs) q hq=>Mq (o:=0) R q hq;have e3:=rU.reread (z2:=z2) (p:=p) m1.heap O (by rw[m2];exact hp) (fun _ h=>h) (fun cs F _=>iz G F (fun q hq=>by simpa using(cR cs F q hq).2) (fun j I=>m3 j I)) (fun v' q l X=>My hH G X);have e4:=rU.trans (side:=[]) (rds:=[]) h0 m1;have e5:=rU.trans (side:=[]) (rds:=[i]) e4 (e3.congrH (H':=rD (rD (GD (AE v z 0) base) ((i,qP.cells v z ts)::U)) H) (by simp only[MQ]));exact⟨_,e5⟩
omit hT hH in
theorem a5e {i:Nat}{d:DV}{r3 r4:Nat×Nat}{sd:List Prop}{y:Nat×Nat×(Nat×Nat)×(Nat×Nat)}(h:W5 i d r3 r4=some (sd,y)) (hs: ∀p∈sd,p) {v:qE}(O:zM g w (.apd d) v):GI g w y [v]:=by
 obtain⟨b,u,rfl,F,E,M⟩:=O;unfold W5 at h;split at h
 .rename_i j o;obtain⟨p,hp,rfl⟩:=y6 M;unfold Kk at h;split at h
  .rename_i G;subst G;split at h
   .rename_i ho;subst ho;cases h;exact .inr ⟨pU,b,_,rfl,F,E,fun _=>⟨p,hp,rfl⟩,fun q=>absurd q pU,fun q=>absurd q pU,fun q=>absurd q pU⟩
   split at h
   .rename_i ho;subst ho;cases h;exact .inr ⟨pU,b,_,rfl,F,E,fun q=>absurd q pU,fun _=>⟨p,hp,rfl⟩,fun q=>absurd q pU,fun q=>absurd q pU⟩
   cases h
  cases h
 .rename_i k n c ix o;obtain⟨bb,cap,z,h0,Q,rfl⟩:=M;unfold Kl at h;split at h
  .rename_i K;subst K;split at h
   .rename_i ho;subst ho;split at h
    .rename_i D;cases h;have e1:=hs _ (aGa);have e2:=hs _ (aF2 _ aGa);rw[D,e1] at z;refine .inr ⟨pU,b,_,rfl,F,E,fun q=>absurd q pU,fun q=>absurd q pU,fun _=>⟨bb,cap,by rw[D];exact z,pT,by congr 1;omega⟩,fun q=>absurd q pU⟩
    cases h
   cases h
  split at h
  .rename_i I;subst I;split at h
   .rename_i ho;subst ho;split at h
    .rename_i D;cases h;have e1:=hs _ (aGa);have e2:=hs _ (aF2 _ aGa);rw[D,e1] at z;refine .inr ⟨pU,b,_,rfl,F,E,fun q=>absurd q pU,fun q=>absurd q pU,fun q=>absurd q pU,fun _=>⟨bb,cap,by rw[D];exact z,pT,by congr 1;omega⟩⟩
    cases h
   cases h
  cases h
 cases h
theorem a5f {t:TypeId}{x y:Operand}(ho:o.op= .store t x y) {sx sy:qQ}(hx:rX g w sx (a.eval x)) (hy:rX g w sy (a.eval y)) {base:Nat}{e:r6}(hr:W7 base H (s5 T t) sx sy=some e) (ht: ∀p∈e.side,p) (hf:yS g base e):rR P o a g w H e:=by
 generalize hst:s5 T t=ot at hr;unfold W7 at hr;split at hr
 .rename_i ti i off k kk n k2;generalize hb:qS H i=ob at hr;unfold OW at hr;split at hr
  .rename_i u el _ _ _ v x' toks;rcases Mw hr with hq|hq|hq
   case inr.inr hq=>
    clear hr;generalize hk:qS H kk=ok at hq;unfold RN at hq;split at hq
    case h_2=>cases hq
    rename_i el2 t2 l2 m2;split at hq
    case isFalse=>cases hq
    rename_i qs;subst qs;generalize F:sT (.list t2) l2 v x' off=oz at hq;cases oz with
    |none=>cases hq
    |some z'=>
     simp only[W3,aFO] at hq;subst hq;have hM:n=m2:=ht _ (aF7.2 rfl);subst hM;have Q:=tB hT hst;obtain⟨p,hp,O⟩:=y6 hx.1;obtain⟨h1,M⟩:=hy.1;obtain⟨g1,k1,k2,k3,k4⟩:=Md hH hk;have va:i≠kk:=fun e1=>by rw[e1,hk] at hb;cases hb
     have vv:qS (rD [(kk,qP.grow el2 t2.cells n)] H) i=some (.cells v x' toks):=by
      simp only[rD,qS];rw[aFQ (Ne.symm va)];exact hb
     have Y:Rd g1 w (.list t2) l2 [a.eval y]:=k4 _ ⟨_,by rw[k2];exact h1,rfl,M⟩;obtain⟨I,G⟩:=rU.store (side:=[]) (rds:=[i]) (k:=none) (v:=a.eval y) k3.heap vv (by rw[k1];exact hp) F Y trivial (fun _ _ _=>rfl) (fun _=>rfl);have X:(a.eval y).cells= #[a.eval y]:=by rcases M with⟨M,_⟩ |⟨_,_,M,_⟩<;>(rw[M];rfl)
     refine rR.skip (w':=w.setCells p.1 (p.2+off) [a.eval y]) ?_ (rU.trans (side:=[n=n]) (rds:=[i,kk]) k3 I);obtain⟨inf,hi,R,_⟩:=F5 Q;have E:=run_storeCells_cells (P:=P) p.1 (p.2+off) [a.eval y] 0 w (fun j Z=>by simpa using(G j Z).1) (fun j Z=>by simpa using(G j Z).2) (fun v O=>AW Y v O);simp only[aG0] at E;have V:(a.eval y).cells.size=inf.size:=by rw[R,X];rfl
     have hh:(a.eval y).cells.toList=[a.eval y]:=by rw[X]
     simp only[execOp,ho,O,Instr.storeAt,Instr.sureAddr,storeVar,aF4,aGg,aFX,sizeOf,typeInfo,aGR,hi,V,ne_eq,not_true_eq_false,aHW,hh,E]
   case inr.inl hq=>
    replace hr:=hq;generalize F:zC el u (some (kk,n)) v x' off=oz at hr;cases oz with
    |none=>cases hr
    |some z'=>
     cases hr;have Q:=tB hT hst;obtain⟨p,hp,O⟩:=y6 hx.1;obtain⟨h1,M⟩:=hy.1;have Y:Rd g w (.rl el u) (some (kk,n)) [a.eval y]:=⟨_,h1,rfl,M⟩;obtain⟨I,G⟩:=AI.openS (side:=[]) (rds:=[1000000000,i]) hH hb hp F Y rfl rfl;have X:(a.eval y).cells= #[a.eval y]:=by rcases M with⟨M,_⟩ |⟨_,_,M,_⟩<;>(rw[M];rfl)
     refine rR.skipW (w':=w.setCells p.1 (p.2+off) [a.eval y]) ?_ I;obtain⟨inf,hi,R,_⟩:=F5 Q;have E:=run_storeCells_cells (P:=P) p.1 (p.2+off) [a.eval y] 0 w (fun j Z=>by simpa using(G j Z).1) (fun j Z=>by simpa using(G j Z).2) (fun v O=>AW Y v O);simp only[aG0] at E;have V:(a.eval y).cells.size=inf.size:=by rw[R,X];rfl
     have hh:(a.eval y).cells.toList=[a.eval y]:=by rw[X]
     simp only[execOp,ho,O,Instr.storeAt,Instr.sureAddr,storeVar,aF4,aGg,aFX,sizeOf,typeInfo,aGR,hi,V,ne_eq,not_true_eq_false,aHW,hh,E]
   replace hr:=hq;generalize F:sT (.rl el u) (some (kk,n)) v x' off=oz at hr;cases oz with
   |none=>cases hr
   |some z'=>
    cases hr;have Q:=tB hT hst;obtain⟨p,hp,O⟩:=y6 hx.1;obtain⟨h1,M⟩:=hy.1;have Y:Rd g w (.rl el u) (some (kk,n)) [a.eval y]:=⟨_,h1,rfl,M⟩;obtain⟨I,G⟩:=rU.store (side:=[]) (rds:=[i]) (k:=none) (v:=a.eval y) hH hb hp F Y trivial (fun _ _ _=>rfl) (fun _=>rfl);have X:(a.eval y).cells= #[a.eval y]:=by rcases M with⟨M,_⟩ |⟨_,_,M,_⟩<;>(rw[M];rfl)
    refine rR.skip (w':=w.setCells p.1 (p.2+off) [a.eval y]) ?_ I;obtain⟨inf,hi,R,_⟩:=F5 Q;have E:=run_storeCells_cells (P:=P) p.1 (p.2+off) [a.eval y] 0 w (fun j Z=>by simpa using(G j Z).1) (fun j Z=>by simpa using(G j Z).2) (fun v O=>AW Y v O);simp only[aG0] at E;have V:(a.eval y).cells.size=inf.size:=by rw[R,X];rfl
    have hh:(a.eval y).cells.toList=[a.eval y]:=by rw[X]
    simp only[execOp,ho,O,Instr.storeAt,Instr.sureAddr,storeVar,aF4,aGg,aFX,sizeOf,typeInfo,aGR,hi,V,ne_eq,not_true_eq_false,aHW,hh,E]
  cases hr
 .rename_i ti i off _ d _;generalize hb:qS H i=ob at hr;generalize k0:ti.ty=ty0 at hr;unfold et at hr;split at hr
  case h_2=>cases hr
  rename_i v x' toks;generalize k9:W5 i d (W4 (D3 v x' 8)) (W4 (D3 v x' 11))=od at hr;cases od with
  |none=>cases hr
  |some q=>
   obtain⟨sd,yy⟩:=q;simp only[eq] at hr;generalize F:sT .ap yy v x' off=oz at hr;cases oz with
   |none=>cases hr
   |some z'=>
    simp only[ep,aFO] at hr;subst hr;have Q:=tB hT hst;obtain⟨p,hp,O⟩:=y6 hx.1;have Y:Rd g w .ap yy [a.eval y]:=a5e k9 ht hy.1;obtain⟨I,G⟩:=rU.store (side:=sd) (rds:=[i]) (k:=none) (v:=a.eval y) hH hb hp F Y trivial (fun _ _ _=>rfl) (fun _=>rfl);have X:(a.eval y).cells= #[a.eval y]:=by
     obtain⟨b,u,e1,_⟩:=hy.1;rw[e1];rfl
    refine rR.skip (w':=w.setCells p.1 (p.2+off) [a.eval y]) ?_ I;obtain⟨inf,hi,R,_⟩:=F5 Q;have E:=run_storeCells_cells (P:=P) p.1 (p.2+off) [a.eval y] 0 w (fun j Z=>by simpa using(G j Z).1) (fun j Z=>by simpa using(G j Z).2) (fun v O=>AW Y v O);simp only[aG0] at E;have V:(a.eval y).cells.size=inf.size:=by rw[R,X,k0];rfl
    have hh:(a.eval y).cells.toList=[a.eval y]:=by rw[X]
    simp only[execOp,ho,O,Instr.storeAt,Instr.sureAddr,storeVar,aF4,aGg,aFX,sizeOf,typeInfo,aGR,hi,V,ne_eq,not_true_eq_false,aHW,hh,E]
 .rename_i ti k n c i o' _ u z kk;split at hr
  .rename_i hu;subst hu;generalize hk:qS H k=ob at hr;unfold W6 at hr;split at hr
   .rename_i e' t' l m;split at hr
    .rename_i hc;generalize F:sT ti.ty z t' (qV t' l i) o'=oz at hr;cases oz with
     |none=>cases hr
     |some z'=>
      cases hr;have hM:=ht _ (aF7.2 rfl);obtain⟨b,cap,xs,c1,c2,c3,O,hB,hV,hF,hl,hi,h0,e1,e2,e3,e4⟩:=Mg hT hH hx.1 hk hM hc;subst hM;have Q:=tB hT hst;obtain⟨hL,hX⟩:=jc hT hH hy;have Y:=GJ hL;have kB:=t8 Y;obtain⟨d1,d2,d3,f1,f2,f3,f4⟩:=S0 Y e4 F;obtain⟨_,_,_,_,ko,v2,_,kn,hE⟩: ∃(_:True) (_:True) (v0:qE) (xs0:q8),g.cur k n=some v0/\w.ownsRow 0 e' t'.cells v0 n xs0/\uI (Rd g w t') t'.cells l xs0/\(∀m,n<m->g.cur k m=none)/\∀b,v0.ownBlock=some b->∀o,¬g.S b o:=by
       obtain⟨_,v0,xs0,q1,q2,q3,q4,q5⟩:=hH.blk k _ hk;exact⟨trivial,trivial,v0,xs0,q1,q2,q3,q4,q5⟩
      rw[hB] at ko;obtain rfl:=aFU ko;rcases hV.2 with⟨h5,_⟩ |⟨q,cap',cur,h5,_,hg,q6,hcm,vs,hY⟩
      .cases h5
      simp only[aHw,aFO,Addr.mk.injEq,and_true,true_and] at h5;obtain⟨rfl,rfl⟩:=h5;have qm:=hV.1;have k6:=t8 f4;simp only[aFR] at k6;have ql:c2.length=t'.cells:=by rw[e3,hc]
      have hd:d1.length+d2.length+d3.length=t'.cells:=by rw[<-ql,f1];simp only[aFR]
      have qn:c1.length+c2.length+c3.length=n*t'.cells:=by rw[<-qm,e1];simp only[aFR]
      have hC:cur.toList=(c1++(d1++d2++d3)++c3)++cur.toList.drop (n*t'.cells):=by
       conv=>lhs;rw[<-aG1 (n*t'.cells) cur.toList,hY,e1,f1]
      obtain⟨D,hD⟩: ∃D,D=cur.toList.drop (n*t'.cells):=⟨_,rfl⟩;rw[<-hD] at hC;have hJ:cur.toList=(c1++d1)++(d2++(d3++c3++D)):=by rw[hC];simp only[aF3]
      have hU:i.toNat*c+o'=(c1++d1).length:=by rw[aFR,e2,f2]
      have kF:(a.eval y).cells.toList.length=d2.length:=by rw[kB,f3]
      have k8:i.toNat*c+o'+0+(a.eval y).cells.toList.length<=cur.size:=by
       have:cur.size=cur.toList.length:=by simp
       rw[this,hJ,aG0,hU,kF];simp only[aFR];omega
      have hP:=run_storeCells_at P b (i.toNat*c+o') e' (a.eval y).cells.toList 0 cur w hg k8 (fun v O=>AW Y v O);have hA:cur.toList.take (i.toNat*c+o'+0)++(a.eval y).cells.toList++cur.toList.drop (i.toNat*c+o'+0+(a.eval y).cells.toList.length)=(c1++(d1++(a.eval y).cells.toList++d3)++c3)++D:=by
       rw[aG0,hU,kF,hJ,aHe,List.drop_append,List.drop_of_length_le pT,List.nil_append,aGB,aHY];simp only[aF3]
      rw[hA] at hP;obtain⟨inf,k7,R,_⟩:=F5 Q;have V:(a.eval y).cells.size=inf.size:=by rw[R,<-kB,aGP]
      have hK:((c1++(d1++(a.eval y).cells.toList++d3)++c3)++D).length=cur.size:=by
       have:cur.size=cur.toList.length:=by simp
       rw[this,hC];simp only[aFR];omega
      have hN:(c1++(d1++(a.eval y).cells.toList++d3)++c3).length=n*t'.cells:=by
       rw[<-qn];simp only[aFR];rw[f1];simp only[aFR];omega
      have kl:(w.setRow b ((c1++(d1++(a.eval y).cells.toList++d3)++c3)++D).toArray).ownsRow 0 e' t'.cells (.slice (some ⟨b,0,none⟩) n cap) n (c1++(d1++(a.eval y).cells.toList++d3)++c3):=
       ⟨hN,.inr ⟨b,cap,_,rfl,aGS _,aH1 w b cur _ e' _ hg,q6,hcm,by rw[aGT,hK,vs],by rw[<-hN];exact aHe⟩⟩
      have vy:uI (Rd g w t') t'.cells (l.set i.toNat z') (c1++(d1++(a.eval y).cells.toList++d3)++c3):=by
       obtain⟨q1,q2,q3,r1,r2,r3,r4⟩:=X9 hF f4 (t8 f4) hi;have s1:q1=c1/\q2=c2/\q3=c3:=by
        have h6:q1++(q2++q3)=c1++(c2++c3):=by rw[<-aF3,<-r1,e1,aF3]
        obtain⟨h7,h8⟩:=aHx h6 (by rw[r2,e2,hc]);obtain⟨h9,v1⟩:=aHx h8 (by rw[r3,e3,hc]);exact⟨h7,h9,v1⟩
       obtain⟨rfl,rfl,rfl⟩:=s1;exact r4
      have hI: ∀o,t7 g H [k] b o:=fun o=>⟨k,_,by simp,hk,_,hB,rfl⟩;refine rR.skip (w':=w.setRow b ((c1++(d1++(a.eval y).cells.toList++d3)++c3)++D).toArray) ?_ (rU.row (v:= .slice (some ⟨b,0,none⟩) n cap) hH (by rw[List.length_set];exact hl) kl vy kn (fun u hu=>by rw[hB] at hu;exact(aFU hu).symm)
       (.inr ⟨some b,⟨rfl,rfl,rfl,by simp,fun q _ hq=>aHG w b q _ (fun e=>hq (by rw[e]))⟩,fun b' K o=>by cases K;exact hI o⟩) (fun b' o hS=>?_) hE (fun b' K=>by cases K;exact .inr hI) ⟨trivial,trivial⟩)
      .simp only[execOp,ho,O,Instr.storeAt,Instr.sureAddr,storeVar,aF4,aGg,aFX,sizeOf,typeInfo,aGR,k7,V,ne_eq,not_true_eq_false,aHW,hP]
      have hne:b'≠b:=fun e=>hE b rfl o (e▸hS);exact aGf (a:=⟨b',o,none⟩) (aHG w b b' _ hne)
    cases hr
   cases hr
  cases hr
 .rename_i ti i off k u z kk;split at hr
  .rename_i hu;subst hu;generalize hb:qS H i=ob at hr;have Q:=tB hT hst;obtain⟨p,hp,O⟩:=y6 hx.1;obtain⟨hL,hX⟩:=jc hT hH hy;have Y:=GJ hL;have k5:ti.ty.isRow=false->(a.eval y).cells.toList=[a.eval y]:=fun hA=>by
    have h1:=AW (y5 hA hL) _ (aF7.2 rfl);cases h:a.eval y<;>first|rfl|(rw[h] at h1;simp [Value.oneCell'] at h1)
   have hQ:w.there p.1 (p.2+off) (a.eval y).cells.toList.length->(execOp a.eval o).run P w= .ok .skip (w.setCells p.1 (p.2+off) (a.eval y).cells.toList):=by
    intro G;obtain⟨inf,hi,R,_⟩:=F5 Q;have hW:=t8 Y;have E:=run_storeCells_cells (P:=P) p.1 (p.2+off) (a.eval y).cells.toList 0 w (fun j Z=>by simpa using(G j Z).1) (fun j Z=>by simpa using(G j Z).2) (fun v O=>AW Y v O);simp only[aG0] at E;have V:(a.eval y).cells.size=inf.size:=by rw[R,<-hW,aGP]
    simp only[execOp,ho,O,Instr.storeAt,Instr.sureAddr,storeVar,aF4,aGg,aFX,sizeOf,typeInfo,aGR,hi,V,ne_eq,not_true_eq_false,aHW,E]
   have fin: ∀{e0:r6}{g1:Gh}{w':qD}{j:Nat}{v:Ty}{zz:v.den}{ts:pY}{U:List (Nat×qP)},I2 base i off ob ti.ls ti.ty z kk=some e0->e0.upd=(j,.cells v zz ts)::U->e0.side=[]->e0.slot=(.any,none)->(execOp a.eval o).run P w= .ok .skip w'->rU g w H e0 g1 w' undef->rR P o a g w H e:=by
    intro e0 g1 w' j v zz ts U h0 h1 M h3 h5 h6;rw[h0] at hr;cases K:M8 ti.ty with
    |false=>
     rw[K] at hr;cases hr;exact rR.skip h5 h6
    |true=>
     rw[K] at hr;obtain⟨_,g',h7⟩:=a5d hH hr h1 M h3 h6 (fun q hq hle=>hf q hq pT);exact rR.skip h5 h7
   obtain⟨e0,hz⟩: ∃e0,I2 base i off ob ti.ls ti.ty z kk=some e0:=by
    cases h:I2 base i off ob ti.ls ti.ty z kk with
    |some e0=>exact⟨e0,rfl⟩
    |none=>
     rw[h] at hr;cases K:M8 ti.ty<;>rw[K] at hr<;>cases hr
   have vr: ∀q,q∈qU e0.upd->q∈qU e.upd:=by
    rw[hz] at hr;cases K:M8 ti.ty with
    |false=>rw[K] at hr;cases hr;exact fun _ h=>h
    |true=>
     rw[K] at hr;obtain⟨sd,s,up,rd⟩:=e0;simp only[eo] at hr;unfold RM at hr;split at hr
     .rename_i heq;cases heq;split at hr
      case isFalse=>cases hr
      generalize v3:CJ _ _ _ _=ozz at hr;cases ozz with
      |none=>cases hr
      |some z2=>
       simp only[VY,aFO] at hr;subst hr;intro q hq;simp only[qU,aF1];right;rw[DB];exact .inr hq
     cases hr
   replace hf:yS g base e0:=fun q hq hle=>hf q (vr q hq) hle;rcases a5b hz with⟨s,x',toks,z',K,F,kd,⟨pa,pb,hG⟩,mk_,q7,ky,rfl⟩ |ha
   .rw[K] at hb;have hn:yQ mk_ ti.ty 0 (a.eval y).cells.toList:=by
     obtain⟨m',e1,e2⟩:=a5a kd hG hX;rw[q7] at e1;obtain rfl:=aFU e1;exact e2
    have kA:=fun q hq=>XC (k:=mk_) (ls:=ti.ls) (q:=q) hq;generalize D6 mk_ ti.ls=lsm at hf ky kA hz;obtain⟨I,G⟩:=rU.store (side:=[]) (rds:=[i]) (k:=none) (v:=undef) hH hb hp F Y trivial (fun _ _ _=>rfl) (fun h=>by rw[hG] at h;cases h);have vl: ∀j,base<=j->j<base+lsm.length->∀n,g.cur j n=none:=fun j h1 M=>(hf j (by
     simp only[qU,aF1];right;rw[DB];exact .inl ((S7 _ base j).2 ⟨h1,M⟩)) h1).2
    obtain⟨g1,k1,k2,k3,k4⟩:=ip lsm base g _ I.heap vl;have e2:=rU.trans (side:=[]) (rds:=[]) I k1;have v9:i<base:=by
     rcases aG6 i base with h|h
     .exact h
     have:=(hf i (by simp [qU]) h).1;rw[hp] at this;cases this
    have vb:i∉qU (F0 lsm base):=fun h=>by
     have:=(S7 _ base i).1 h;omega
    have vt:qS (rD (rD (F0 lsm base) [(i,qP.cells s z' (tT toks off ti.ty.cells))]) H) i=some (.cells s z' (tT toks off ti.ty.cells)):=by
     rw[MQ,AY vb];simp [rD,qS]
    have v4:=t8 Y;have e3:=rU.retok (p:=p) (nt:=OV off (D5 lsm base)) e2.heap vt (by rw[k2];exact hp) (fun cs vx q0 o k hm=>by
     obtain⟨q,rfl,hq⟩:=Mt hm;obtain⟨en,he,rfl⟩:=iq hq;obtain⟨u,h1,M⟩:=Ly hn Y (ir ky en he) (by have:=kA en he;omega);have kx:en.1<(a.eval y).cells.toList.length:=(aF5.1 M).1;have h3:=Mu F h1 pT;refine⟨u,[],.slice none 0 0,h3,?_,k3 _ _ hq⟩;have hW:=t8 vx;have v5:=Mv h3;have hc:cs[off+en.1]? =some cs[off+en.1]:=aFW pT;have ha:=q0 _ _ hc;have kt:=aHl p.1 (a.eval y).cells.toList (p.2+off) w (fun j Z=>(G j Z).1) en.1 kx;rw[aGv] at kt;rw[kt] at ha;rw[hc,<-ha,<-M,aFW kx])
    exact fin (w':=w.setCells p.1 (p.2+off) (a.eval y).cells.toList) hz rfl rfl rfl (hQ G) (rU.trans (side:=[]) (rds:=[i]) e2 e3)
   cases ob with
   |none=>cases ha
   |some bl=>
   cases bl with
   |cells s q toks=>
    simp only[VW] at ha;generalize F:sT ti.ty z s q off=oz at ha;cases oz with
    |none=>cases ha
    |some z'=>
     simp only[OU,aFO] at ha;subst ha;obtain⟨I,G⟩:=rU.store (side:=[]) (rds:=[i]) hH hb hp F Y (a49 hX) (fun a b e=>by rw[e];rfl) k5;exact fin (w':=w.setCells p.1 (p.2+off) (a.eval y).cells.toList) hz rfl rfl rfl (hQ G) I
   |_=>cases ha
  cases hr
 cases hr
omit hT in
theorem rU.poke {k:Nat}{e:TypeId}{t:Ty}{l:List t.den}{m:Nat}(hk:qS H k=some (.row e t l m)) {b cap:Nat}(h:g.cur k m=some (.slice (some ⟨b,0,none⟩) m cap)) {i:Int}(h0:0<=i) (h1:i<(m:Int)) {o':Nat}{uT:Ty}{y:uT.den}{z':t.den}(V:sT uT y t (qV t l i) o'=some z') {u:qE}(hy:Rd g w uT y [u]):
  rU g w H ⟨[],(.any,none),[(k,.row e t (l.set i.toNat z') m)],[]⟩ (g.tok k m (.slice (some ⟨b,0,none⟩) m cap)) (w.setCells b (i.toNat*t.cells+o') [u]) undef:=by
 obtain⟨hl,v0,xs,U,I,hF,Q,z⟩:=hH.blk k _ hk;rw[h] at U;obtain rfl:=aFU U;have hi:i.toNat<l.length:=by rw[hl];omega
 obtain⟨c1,c2,c3,e1,e2,e3,e4⟩:=X7 hF (Mc h0 hi);obtain⟨d1,d2,d3,f1,f2,f3,f4⟩:=S0 hy e4 V;rcases I.2 with⟨Z,_⟩ |⟨q,cap',cur,Z,_,hg,hh,hcm,hj,M⟩
 .cases Z
 simp only[aHw,aFO,Addr.mk.injEq,and_true,true_and] at Z;obtain⟨rfl,rfl⟩:=Z;have hc:=I.1;have Y:=t8 f4;have ha:=t8 hy;simp only[aFR,aG2] at Y ha;have hd:d1.length+d2.length+d3.length=t.cells:=by rw[<-e3,f1];simp only[aFR]
 have he:c1.length+c2.length+c3.length=m*t.cells:=by rw[<-hc,e1];simp only[aFR]
 have j:cur.toList=(c1++(d1++d2++d3)++c3)++cur.toList.drop (m*t.cells):=by
  conv=>lhs;rw[<-aG1 (m*t.cells) cur.toList,M,e1,f1]
 obtain⟨D,hD⟩: ∃D,D=cur.toList.drop (m*t.cells):=⟨_,rfl⟩;rw[<-hD] at j;obtain⟨x2,rfl⟩: ∃x2,d2=[x2]:=aHc.1 pT;have R:cur.toList=(c1++d1)++(x2::(d3++c3++D)):=by rw[j];simp only[aF3,List.cons_append,List.nil_append]
 have X:i.toNat*t.cells+o'=(c1++d1).length:=by rw[aFR,e2,f2]
 have hw:w.setCells b (i.toNat*t.cells+o') [u]=w.setRow b ((c1++(d1++[u]++d3)++c3)++D).toArray:=by
  show w.setCell ⟨b,i.toNat*t.cells+o',none⟩ u=_;rw[setCell_eq_setRow w b _ cur e (0,0) u hg];congr 1;apply aG3.1;rw[Array.toList_setIfInBounds,R,X,List.set_append_right _ _ (aGc _),aHm,List.set_cons_zero];simp only[aF3,List.cons_append,List.nil_append]
 have F:((c1++(d1++[u]++d3)++c3)++D).length=cur.size:=by
  have:cur.size=cur.toList.length:=by simp
  rw[this,j];simp only[aFR,aG2]
 have G:(c1++(d1++[u]++d3)++c3).length=m*t.cells:=by
  rw[<-he,f1];simp only[aFR,aG2]
 have O:(w.setRow b ((c1++(d1++[u]++d3)++c3)++D).toArray).ownsRow 0 e t.cells (.slice (some ⟨b,0,none⟩) m cap) m (c1++(d1++[u]++d3)++c3):=
  ⟨G,.inr ⟨b,cap,_,rfl,aGS _,aH1 w b cur _ e _ hg,hh,hcm,by rw[aGT,F,hj],by rw[<-G];exact aHe⟩⟩
 have hn:uI (Rd g w t) t.cells (l.set i.toNat z') (c1++(d1++[u]++d3)++c3):=by
  obtain⟨q1,q2,q3,r1,r2,r3,r4⟩:=X9 hF f4 (t8 f4) hi;have s1:q1=c1/\q2=c2/\q3=c3:=by
   have h6:q1++(q2++q3)=c1++(c2++c3):=by rw[<-aF3,<-r1,e1,aF3]
   obtain⟨h7,h8⟩:=aHx h6 (by rw[r2,e2]);obtain⟨h9,ht⟩:=aHx h8 (by rw[r3,e3]);exact⟨h7,h9,ht⟩
  obtain⟨rfl,rfl,rfl⟩:=s1;exact r4
 have E: ∀o,t7 g H [k] b o:=fun o=>⟨k,_,by simp,hk,_,h,rfl⟩;rw[hw];refine rU.row (v:= .slice (some ⟨b,0,none⟩) m cap) hH (by rw[List.length_set];exact hl) O hn Q (fun u hu=>by rw[h] at hu;exact(aFU hu).symm)
  (.inr ⟨some b,⟨rfl,rfl,rfl,by simp,fun q _ hq=>aHG w b q _ (fun e=>hq (by rw[e]))⟩,fun b' K o=>by cases K;exact E o⟩) (fun b' o hS=>?_) z (fun b' K=>by cases K;exact .inr E) ⟨trivial,trivial⟩
 have hne:b'≠b:=fun e=>z b rfl o (e▸hS);exact aGf (a:=⟨b',o,none⟩) (aHG w b b' _ hne)
omit hT in
theorem rU.below {w1:qD}(h:Below w.heap.size w w1):rU g w H ⟨[],(.any,none),[],[]⟩ g w1 undef:=by
 have le:Le g w g w1:=⟨fun _ _ h=>h,fun b o j=>aGf (a:=⟨b,o,none⟩) (h.block b (hH.sl b o j)),fun _ _ h=>h,fun _ _ _ h=>h⟩;have fr:Fr (t7 g H (qU [])) w w1 g.S g.S:=⟨h.os,h.tape,h.output,h.size,fun b hb _=>h.block b hb,fun b o hb _=>⟨aGf (a:=⟨b,o,none⟩) (h.block b hb),aGF (a:=⟨b,o,none⟩) (h.block b hb)⟩,fun _ _ h=> .inl h,fun b s hs=> .inl ((CQ (h.block b (CP hs))).trans hs)⟩;exact⟨le,⟨trivial,trivial⟩,hH.upd le fr (fun _ _ _ _ hi=>(by cases hi)) (fun _ _=>⟨rfl,rfl⟩) (fun _ _ hi=>(by cases hi)) (fun _ _ _ _ _ _ hi=>(by cases hi)) (fun b o j=>aGq (hH.sl b o j) h.size),fr,fun _ _ _ _ hi=>(by cases hi),fun _ _=>⟨rfl,rfl⟩,fun _ _ y us h=> .inl ⟨y,us,h⟩⟩
theorem Mz {t:Ty}{n:Nat}{ev:Operand->qE}{ρ:Operand->qQ}: ∀(ps:List (Nat×Operand)) (l z:List t.den) (cs:q8),uI (Rd g w t) t.cells l cs->l.length=n->(∀q∈ps,rX g w (ρ q.2) (ev q.2))->CF t n (some l) (uW ρ ps)=some z->
  ∃cs',Instr.fill (fun i=>some (i*t.cells,t.cells)) cs.toArray (ps.map fun q=>(q.1,ev q.2))=some cs'.toArray/\uI (Rd g w t) t.cells z cs'/\z.length=n
 |[],l,z,cs,r,hl,_,h=>by
  simp only[uW,CF,aFO] at h;subst h;exact⟨cs,rfl,r,hl⟩
 |(i,q)::ps,l,z,cs,r,hl,hq,h=>by
  have h0:=hq (i,q) pV;generalize hs:ρ q=s at h0;simp only[uW,hs] at h;obtain⟨d,k⟩:=s;cases d with
  |val u y=>
   simp only[CF,Jm] at h;by_cases j:u=t/\i<n
   .rw[aHQ j] at h;obtain⟨rfl,hi⟩:=j;simp only[uM] at h;have D:=GJ h0.1;obtain⟨c1,c2,c3,rfl,F,h3,h4⟩:=X9 (i:=i) r D (t8 D) pT;obtain⟨cs',k1,k2,k3⟩:=Mz ps (l.set i y) z _ h4 (by simpa using hl) (fun q E=>hq q (by simp [E])) h;refine⟨cs',?_,k2,k3⟩;simp only[aGU];rw[Lx rfl (by have:=t8 D;simpa using this) (c1:=c1) (c2:=c2) (c3:=c3) pV F h3];exact k1
   .rw[aHi j] at h;cases ps with
    |nil=>simp [uW,CF] at h
    |cons p ps=>simp [uW,CF] at h
  |_=>simp [CF] at h
theorem jd {t:TypeId}{n:Nat}{ps:Array (Nat×Operand)}(ho:o.op= .buildSlice t n ps) {ρ:Operand->qQ}(hρ: ∀q∈ps.toList,rX g w (ρ q.2) (a.eval q.2)) {u:Ty}{el:TypeId}{by':Nat}{ar:Bool}{ls:List (Nat×TypeId×Nat)}(hst:s5 T t=some ⟨.list u,el,by',ar,ls⟩) {l:List u.den}
  (hb:CF u n (some (E9 u n)) (uW ρ ps.toList)=some l) (V:n<=16777216/\n*u.cells<=16777216):
  ∃cs':q8,uI (Rd g w u) u.cells l cs'/\l.length=n/\(execOp a.eval o).run P w= .ok (.value (.slice (some ⟨w.heap.size,0,none⟩) n n)) (w.alloc (.cells cs'.toArray el)):=by
    obtain⟨U,h3,_⟩:=(tB hT hst).2;obtain⟨ei,K,O⟩:=aF6.1 h3;simp only[aGi] at O;obtain⟨cs',k1,k2,k3⟩:=Mz hT hH ps.toList (E9 u n) l _ (Ml n) (Mm u n) hρ hb;refine⟨cs',k2,k3,?_⟩;have Q:(yR u).cells=(uO u).toArray:=by
     unfold yR;cases h:u<;>simp [Ty.isRow,uO,Value.cells]
    have F:(ps.map fun(q:Nat×Operand)=>(q.1,a.eval q.2)).toList=ps.toList.map fun q=>(q.1,a.eval q.2):=by simp
    have D:(uO u).length=u.cells:=t8 (F3 g w u);have E: ∀z:Array qE,(n*u.cells≠0->z=(uO u).toArray)->(Array.range (n*u.cells)).map (fun i=>z[i%z.size]!)=(List.flatten (List.replicate n (uO u))).toArray:=by
     intro z R;by_cases h0:n*u.cells=0
     .rw[h0];have:List.flatten (List.replicate n (uO u))=[]:=aGl (by simp [D,h0]);rw[this];simp
     rw[R h0];have M:0<u.cells:=Nat.pos_of_ne_zero (fun h=>h0 (by rw[h];simp));apply aG3.1;apply List.ext_getElem?;intro j;have key: ∀(m j:Nat),j<m*u.cells->(List.flatten (List.replicate m (uO u)))[j]? =(uO u)[j%u.cells]? :=by
      intro m
      induction m with
      |zero=>intro j h;simp at h
      |succ m ih=>
       intro j h;rw[List.replicate_succ,aGw];by_cases I:j<u.cells
       .rw[aF9 pT,Nat.mod_eq_of_lt I]
       rw[aFZ pT,D,ih (j-u.cells) (by rw[aG5] at h;omega)];congr 1
       conv=>rhs;rw[<-Nat.sub_add_cancel (Nat.le_of_not_lt I),Nat.add_mod_right]
     by_cases I:j<n*u.cells
     .have hm:j%u.cells<(uO u).length:=by rw[D];exact Nat.mod_lt _ M
      simp only[Array.toList_map,Array.toList_range,List.getElem?_map,List.getElem?_range I,Option.map_some,aGT,D];rw[key n j I,aFW hm];simp [getElem!_pos,hm]
     rw[aG7 pW,aG7 (by simp [D];omega)]
    have G: ¬(n*u.cells>2^24):=by have:=V.2;omega
    by_cases h0:n*u.cells=0
    .simp only[execOp,ho,Instr.buildSlice,aF4,aGe U,aFX,sizeOf,typeInfo,aGR,K,O.1,aGg,aFQ G,aFP h0];rw[E #[] (fun h=>absurd h0 h),F,k1];simp only[newRow,aF4,run_newObj,aFX,aGg];rfl
    simp only[execOp,ho,Instr.buildSlice,aF4,aGe U,aFX,sizeOf,typeInfo,aGR,K,O.1,aGg,aFQ G,aFQ h0,zeroValue,O.2.2,Q];rw[E (uO u).toArray (fun _=>rfl),F,k1];simp only[newRow,aF4,run_newObj,aFX,aGg];rfl
theorem a5g {t:TypeId}{n:Nat}{ps:Array (Nat×Operand)}(ho:o.op= .buildSlice t n ps) {ρ:Operand->qQ}(hρ: ∀q∈ps.toList,rX g w (ρ q.2) (a.eval q.2)) {base:Nat}{e:r6}(hr:dw base n (uW ρ ps.toList) (s5 T t)=some e) (hf:yS g base e):rR P o a g w H e:=by
 generalize hst:s5 T t=ot at hr;unfold dw at hr;split at hr
 .rename_i u el by' ls_;split at hr
  .rename_i G;generalize hb:CF u n (some (E9 u n)) (uW ρ ps.toList)=ol at hr;cases ol with
   |none=>cases hr
   |some l=>
    simp only[Ke] at hr;split at hr
    .rename_i E;cases hr;obtain⟨cs',k2,k3,j⟩:=jd hT hH ho hρ hst hb E.2;have z:=(hf base (by simp [qU]) (aGc _)).2;have D:=MN k2;have F:(w.alloc (.cells cs'.toArray el)).ownsRow 0 el u.cells (.slice (some ⟨w.heap.size,0,none⟩) n n) n cs':=⟨by rw[D,k3],.inr ⟨w.heap.size,n,cs'.toArray,rfl,aGS _,aHX w _,aGc _,by unfold maxLen;omega,by simp [D,k3],by simp [<-k3,<-D]⟩⟩;refine rR.value j (rU.row (v:= .slice (some ⟨w.heap.size,0,none⟩) n n) (xs:=cs') hH k3 F k2 (fun m _=>z m) (fun u I=>by rw[z] at I;cases I) (.inl (World.grownBy_alloc w _ _)) (fun b o h=>aGf (a:=⟨b,o,none⟩) (aGm _ _ _ (hH.sl b o h))) (fun b hb o hs=>?_) (fun b hb=>?_) ⟨⟨by simp [Gh.tok],.inr ⟨_,_,rfl,aGc _⟩⟩,trivial⟩)
     .cases hb;exact aHz _ (hH.sl _ _ hs)
     cases hb;exact .inl (aGc _)
    cases hr
  rename_i G;generalize hb:CF u n (some (E9 u n)) (uW ρ ps.toList)=ol at hr;cases ol with
  |none=>cases hr
  |some l=>
   simp only[VO] at hr;split at hr
   .rename_i E;cases hr;obtain⟨cs',k2,k3,j⟩:=jd hT hH ho hρ hst hb E;have z:=hf base (by simp [qU]) (aGc _);exact rR.value (v:= .slice (some ⟨w.heap.size,0,none⟩) n n) (w':=w.alloc (.cells cs'.toArray el)) j (rU.lit hH rfl k3 k2 (by unfold maxLen;omega) z.2)
   cases hr
 .rename_i u el by' ls_;generalize hb:CF u n (some (E9 u n)) (uW ρ ps.toList)=ol at hr;cases ol with
  |none=>cases hr
  |some l=>
   simp only[VO] at hr;split at hr
   .rename_i E;cases hr;obtain⟨cs',k2,k3,j⟩:=jd hT hH ho hρ hst hb E;have z:=hf base (by simp [qU]) (aGc _);exact rR.value (v:= .slice (some ⟨w.heap.size,0,none⟩) n n) (w':=w.alloc (.cells cs'.toArray el)) j (rU.lit hH rfl k3 k2 (by unfold maxLen;omega) z.2)
   cases hr
 cases hr
theorem a5h {args:Array Operand}{tys:Array TypeId}(ho:o.op= .call ⟨.builtin .append,args,tys⟩) {ρ:Operand->qQ}(hρ: ∀x∈args.toList,rX g w (ρ x) (a.eval x)) {e:r6}
  {t:TypeId}(hY:tys= #[t,t]) (hr:WE H (s5 T t) (w6 ρ args.toList)=some e) (hs: ∀p∈e.side,p):rR P o a g w H e:=by
 subst hY;generalize hst:s5 T t=ot at hr;generalize hM:w6 ρ args.toList=ss at hr;unfold WE at hr;split at hr
 .rename_i u el by' ar ls_ k n _ b1 r _;split at hr
  .rename_i kd;subst kd;generalize hk:qS H k=ob at hr;unfold WD at hr;split at hr
   .rename_i e' t' l m;split at hr
    .rename_i kk;subst kk;split at hr
     .rename_i hD;obtain⟨rfl,hU,hG⟩:=hD;simp only[uM] at hr;cases hr;have h7:=hs _ (by simp:(n=m)∈_);subst h7;have hE:=hs _ (by simp:((n+List.length r)*by'<=140737488355328)∈_);obtain⟨v,vr,hv,Z,hA⟩:=X6 hT hH hρ hM;obtain⟨h2,h3,_⟩:=(tB hT hst).2;obtain⟨ei,hc,hz⟩:=aF6.1 h3;simp only[aGi] at hz;obtain⟨cs,hx⟩:=I9 (a:=a) hT hH ho;obtain⟨hl,v0,xs,V,z,hd,F,E⟩:=hH.blk k _ hk;obtain⟨K,U⟩:=Z.1;rw[V] at K;obtain rfl:=aFU K;obtain⟨adr,capr,X,hV,ha⟩:=F4 hA.1;have Q:(l++r).length=n+List.length r:=by rw[aFR,hl]
      rw[Q];have M: ∀q,v0.ownBlock=some q->∀o,t7 g H [k] q o:=fun q hq o=>⟨k,_,by simp,hk,v0,V,hq⟩;by_cases hm:List.length r=0
      .obtain rfl:r=[]:=aGl hm;refine rR.value (v:=v0) (w':=w) ?_ (rU.row (v:=v0) (xs:=xs) hH Q z (by rw[List.append_nil];exact hd) F (fun u hu=>by
        have h5:g.cur k n=some u:=hu;rw[V] at h5;exact(aFU h5).symm) (.inl ⟨rfl,rfl,rfl,aGc _,fun _ _ _=>rfl⟩) (fun _ _ _=>rfl) E (fun q hq=> .inr (M q hq)) ⟨⟨by simp [Gh.tok],U⟩,trivial⟩)
       obtain⟨adl,capl,Y,hh⟩: ∃adl capl,v0= .slice adl n capl/\n<=capl:=by
        rcases U with⟨h,rfl⟩ |⟨b,cap,h,h'⟩
        .exact⟨_,_,h,aGc _⟩
        exact⟨_,_,h,h'⟩
       rw[hx,hv,X,Y];have hJ:(#[Value.slice adl n capl,Value.slice adr (List.length ([]:List b1.den)) capr]:Array qE)[0]? =some (.slice adl n capl):=rfl;have hI:(#[Value.slice adl n capl,Value.slice adr (List.length ([]:List b1.den)) capr]:Array qE)[1]? =some (.slice adr 0 capr):=rfl;have hy:(#[t,t]:Array TypeId)[0]? =some t:=rfl;have ht:(#[t,t]:Array TypeId)[1]? =some t:=rfl;simp only[builtin,Builtin.append_,hy,ht,hJ,hI,aF4,aGe h2,aFX,aGg,sizeOf,typeInfo,aGR,hc];cases adr<;>cases adl<;>simp [Builtin.lenOf,Builtin.firstCells,loadCells,loadCellsFrom,storeCells,hh]
      obtain⟨b,off,rfl,hL⟩: ∃b o,adr=some ⟨b,o,none⟩/\zD (Rd g w b1) w g.S b1.cells b o r:=by
       rcases ha with rfl|h
       .exact absurd rfl hm
       exact h
      obtain⟨news,hF,hB,_⟩:=S5 hL;obtain⟨q,cap,w',he,O,hq,hg,hn,R⟩:=Mn (P:=P) w t o.type e' ei (yR b1) b1.cells by' h2 hc hz.2.2 hz.1 hz.2.1 (by
       have:=t8 (GJ (MR g w b1));simpa using this) v0 n xs z ⟨b,off,none⟩ (List.length r) capr news (MN hF) (fun j u hu=>by rw[aG8];exact hB j u hu) (il (fun _ _ h=>AW h) hF) pT
       (by
        have:=Nat.mul_le_mul_left (n+List.length r) hG;unfold maxLen;omega) hE
      refine rR.value (v:= .slice (some ⟨q,0,none⟩) (n+List.length r) cap) (w':=w') ?_ (rU.row (v:= .slice (some ⟨q,0,none⟩) (n+List.length r) cap) (xs:=xs++news) hH Q O (gu hd hF) (fun m ko=>F m pT) (fun u hu=>by
       rw[F _ pT] at hu;cases hu) (.inr ⟨v0.ownBlock,hg,fun b hb o=>M b hb o⟩) (fun b o hS=>R b o (hH.sl b o hS) (fun hb=>absurd hS (E b hb o))) (fun b hb o hS=>?_) (fun b hb=>?_) ⟨⟨by simp [Gh.tok],.inr ⟨q,cap,rfl,hn⟩⟩,trivial⟩)
      .rw[hx,hv,X];simp only[builtin,aF4,he,aFX,aGg]
      .cases hb;rcases hq with h|h
       .rw[h] at hS;exact aHz _ (hH.sl _ _ hS)
       exact E _ h o hS
      cases hb;rcases hq with h|h
      .exact .inl (aHn h.symm)
      exact .inr (M _ h)
     cases hr
    cases hr
   cases hr
  cases hr
 .rename_i u el by' ar ls_ a1 l k b1 r k2;split at hr
  .rename_i kl;obtain⟨rfl,rfl⟩:=kl;simp only[uM] at hr;generalize hk:qS H k=ob at hr;unfold WC at hr;split at hr
   .rename_i e' c n;split at hr
    .rename_i hD;obtain⟨rfl,I,hU,hG⟩:=hD;cases hr;rw[aFR];have D:=hs _ (by simp:(List.length l=n)∈_);have hE:=hs _ (by simp:((List.length l+List.length r)*by'<=140737488355328)∈_);obtain⟨v,vr,hv,Z,hA⟩:=X6 hT hH hρ hM;obtain⟨h2,h3,_⟩:=(tB hT hst).2;obtain⟨ei,hc,hz⟩:=aF6.1 h3;simp only[aGi] at hz;obtain⟨cs,hx⟩:=I9 (a:=a) hT hH ho;obtain⟨v0,xs,V,z,F,E⟩:=hH.blk k _ hk;have K:g.cur k (List.length l)=some v:=Z.2;rw[D,V] at K;obtain rfl:=aFU K;obtain⟨adr,capr,X,hV,ha⟩:=F4 hA.1;obtain⟨adl,capl,Y,hh,h8⟩:=F4 Z.1;by_cases hm:List.length r=0
     ·
      obtain rfl:r=[]:=aGl hm;have ha:List.length l+List.length ([]:List b1.den)=n:=by rw[D];rfl
      have G: ∀i,qS (rD [(k,qP.grow e' c (List.length l+List.length ([]:List b1.den)))] H) i=qS H i:=by
       intro i;simp only[rD,qS];by_cases hi:k=i
       .subst hi;rw[aFP rfl,ha];exact hk.symm
       rw[aFQ hi]
      have hK:rU g w H ⟨[List.length l=n,(List.length l+List.length ([]:List b1.den))*by'<=140737488355328],(.val (.list b1) (l++[]),some k),[(k,.grow e' c (List.length l+List.length ([]:List b1.den)))],[k]⟩ g w v0:=by
       refine⟨.refl _ _,?_,⟨fun i b h=>hH.blk i b ((G i).symm.trans h),fun i j bi bj b o' h9 h1 h2=>hH.dis i j bi bj b o' h9 ((G i).symm.trans h1) ((G j).symm.trans h2),hH.sl,hH.tab.1,fun i blk b o' h hC=>hH.tab.2 i blk b o' ((G i).symm.trans h) hC⟩,.refl _ _ _,fun i blk b o' hi hg hC=> .inr ⟨i,blk,hi,(G i).symm.trans hg,hC⟩,fun _ _=>⟨rfl,rfl⟩,fun i u' y us h=> .inl ⟨y,us,(G i).symm.trans h⟩⟩;rw[List.append_nil];exact Z
      refine rR.value (v:=v0) (w':=w) ?_ hK;rw[hx,hv,X,Y];have hJ:(#[Value.slice adl (List.length l) capl,Value.slice adr (List.length ([]:List b1.den)) capr]:Array qE)[0]? =some (.slice adl (List.length l) capl):=rfl;have hI:(#[Value.slice adl (List.length l) capl,Value.slice adr (List.length ([]:List b1.den)) capr]:Array qE)[1]? =some (.slice adr 0 capr):=rfl;have hy:(#[t,t]:Array TypeId)[0]? =some t:=rfl;have ht:(#[t,t]:Array TypeId)[1]? =some t:=rfl;simp only[builtin,Builtin.append_,hy,ht,hJ,hI,aF4,aGe h2,aFX,aGg,sizeOf,typeInfo,aGR,hc];cases adr<;>cases adl<;>simp [Builtin.lenOf,Builtin.firstCells,loadCells,loadCellsFrom,storeCells,hh]
     obtain⟨b,off,rfl,hL⟩: ∃b o,adr=some ⟨b,o,none⟩/\zD (Rd g w b1) w g.S b1.cells b o r:=by
      rcases ha with rfl|h
      .exact absurd rfl hm
      exact h
     obtain⟨news,hF,hB,_⟩:=S5 hL;have hW:uI (Rd g w b1) b1.cells l xs:=by
      by_cases h0:List.length l=0
      .obtain rfl:l=[]:=aGl h0;have:xs=[]:=aGl (by rw[z.1,<-D];simp);exact this
      rcases h8 with rfl|⟨b0,off0,rfl,kn⟩
      .exact absurd rfl h0
      obtain⟨ls,hd,hR,_⟩:=S5 kn;rcases z.2 with⟨e1,e2⟩ |⟨q,cap,cur,e1,e2⟩
      .exact absurd (D.trans e2) h0
      rw[Y] at e1;simp only[aHw,aFO,Addr.mk.injEq] at e1;obtain⟨⟨rfl,rfl,_⟩,_,rfl⟩:=e1;have hX:v0= .slice (some ⟨b0,0,none⟩) n capl:=by rw[Y,D]
      have h6:=im (hX▸z);have:ls=xs:=by
       have hP:=MN hd;have hN:=z.1;apply List.ext_getElem?;intro j;by_cases hj:j<ls.length
       .have h1:=hR j ls[j] (aFW hj);have hQ:j<xs.length:=by rw[hN,I,<-D,<-hP];exact hj
        have h2:=h6 j xs[j] (aFW hQ);rw[h1] at h2;rw[aFW hj,aFW hQ,aFU h2]
       rw[aG7 pT,aG7 (by rw[hN,I,<-D,<-hP];omega)]
      rw[<-this];exact hd
     obtain⟨q,cap,w',he,O,hq,hg,hn,R⟩:=Mn (P:=P) w t o.type e' ei (yR b1) c by' h2 hc hz.2.2 (by rw[hz.1,I]) hz.2.1 (by
      have:=t8 (GJ (MR g w b1));rw[I];simpa using this) v0 n xs z ⟨b,off,none⟩ (List.length r) capr news (by rw[MN hF,I]) (fun j u hu=>by rw[aG8];exact hB j u hu) (il (fun _ _ h=>AW h) hF) pT
      (by
       have:=Nat.mul_le_mul_left (List.length l+List.length r) hG;unfold maxLen;omega) (by rw[<-D];exact hE)
     refine rR.value (v:= .slice (some ⟨q,0,none⟩) (n+List.length r) cap) (w':=w') ?_ (by
      have:=rU.append (side:=[List.length l=n,(List.length l+List.length r)*by'<=140737488355328]) (rds:=[k]) hH hk I D V z F E (I▸hW) (I▸hF) pT O hq hg hn R;rw[D];rw[D] at this;exact this)
     rw[hx,hv,X];simp only[builtin,aF4,he,aFX,aGg]
    cases hr
   cases hr
  cases hr
 cases hr
end
def AZ:Ty->TypeDesc
 | .int k=> .int k
 | .str=> .string
 |_=> .bool
theorem je {P:Program}{t:TypeId}{ti:TI}(h:tU P t ti) (z:F1 ti.ty=true):P.underlying t=some (AZ ti.ty):=by
 have j:=h.2;unfold xY at j;obtain⟨ty,el,by',ar,ls⟩:=ti;cases ty<;>simp only[F1,aHh] at z<;>exact j
theorem a5i {g:Gh}{w:qD}{k:Ty}(E:F1 k=true) {a x:k.den}{v u:qE}(D:tJ g w k a v) (j:tJ g w k x u):Instr.sameNow (AZ k) v u=some (I4 k a x)/\(I4 k a x=true->u=v):=by
 cases k with
 |int k=>
  rw[wH D,wH j];simp only[AZ,Instr.sameNow,aHp,I4];refine⟨?_,fun h=>?_⟩
  .congr 1
  .rw[aGt h]
 |str=>
  rw[x7 D,x7 j];simp only[AZ,Instr.sameNow,I4];refine⟨?_,fun h=>?_⟩
  .congr 1;rw[aHI,MapKept.bytes_beq,aFY];constructor
   .intro h;have:=aGd (fun z:ByteArray=>z.data.toList) h;simpa using this
   intro h;rw[h]
  .rw[aGt h]
 |bool=>
  rw[vU D,vU j];simp only[AZ,Instr.sameNow,I4];refine⟨trivial,fun h=>?_⟩;rw[aHr.1 h]
 |_=>simp [F1] at E
theorem jf {g:Gh}{w:qD}{k v:Ty}(F:F1 k=true) {a:k.den}{key:qE}(z:tJ g w k a key): ∀{l:List (k.den×v.den)}{es:List MapEntry}(i:Nat),F2 g w k v l es->
  (GH k v l a=false->Instr.findNow (AZ k) key es i=some none/\sW k v l a=v.zero/\∀b val born,tJ g w v b val->F2 g w k v (tA k v a b l) (es++[⟨key,val,born⟩]))/\
  (GH k v l a=true->∃j e,es[j]? =some e/\Instr.findNow (AZ k) key es i=some (some (i+j,e.val))/\tJ g w v (sW k v l a) e.val/\e.key=key/\∀b val,tJ g w v b val->F2 g w k v (tA k v a b l) (es.modify j fun e=>{e with key:=key,val:=val}))
 |[],es,i,h=>by
  rw[show es=[] from h];exact⟨fun _=>⟨rfl,rfl,fun b val born hb=>⟨_,[],rfl,z,hb,rfl⟩⟩,fun h=>by simp [GH] at h⟩
 |(x,y)::l,_,i,⟨e,es',rfl,E,D,h3⟩=>by
  obtain⟨s1,s2⟩:=a5i F z E;cases hq:I4 k a x with
  |true=>
   rw[hq] at s1;refine⟨fun h=>by simp [GH,hq] at h,fun _=>⟨0,e,rfl,?_,?_,s2 hq,fun b val hb=>?_⟩⟩
   .simp only[Instr.findNow,s1,aG0]
   .simp only[sW,hq,aHp];exact D
   .simp only[tA,hq,aHp];exact⟨_,es',rfl,z,hb,h3⟩
  |false=>
   rw[hq] at s1;obtain⟨f1,f2⟩:=jf (v:=v) F z (i+1) h3;refine⟨fun h=>?_,fun h=>?_⟩
   .simp only[GH,hq] at h;obtain⟨g1,g2,g3⟩:=f1 (by simpa using h);refine⟨by simp only[Instr.findNow,s1];exact g1,by simp only[sW,hq];simpa using g2,fun b val born hb=>?_⟩;simp only[tA,hq];exact⟨e,_,rfl,E,D,g3 b val born hb⟩
   simp only[GH,hq] at h;obtain⟨j,e',g1,g2,g3,g4,g5⟩:=f2 (by simpa using h);refine⟨j+1,e',by simpa using g1,by simp only[Instr.findNow,s1];rw[g2];congr 3;omega,by simp only[sW,hq];simpa using g3,g4,fun b val hb=>?_⟩;simp only[tA,hq];exact⟨e,_,rfl,E,D,g5 b val hb⟩
def MV (ok:Bool) (z:qE):Option (Nat×qE)->qE
 |some (_,v)=>if ok then .tuple #[v,.bool true] else v
 |none=>if ok then .tuple #[z,.bool false] else z
section
variable {P:Program}{o:Oper}{a:Act}{g:Gh}{w:qD}{H:sJ}{T:sZ}(hT:xZ P T) (hH:sO g w H)
include hT hH
theorem rU.newMap {side:List Prop}{rds:qC}{base:Nat}{k v:Ty}(hf:g.J base=none) (M:g.cur base=fun _=>none):
  rU g w H ⟨side,(.val .mp (some base),none),[(base,.map k v [])],rds⟩ (g.var base w.heap.size none) (w.alloc (.map #[] 0)) (.map (some w.heap.size)):=by
 have D:(g.var base w.heap.size none).J base=some ⟨w.heap.size,0,none⟩:=by simp [Gh.var]
 have le:Le g w (g.var base w.heap.size none) (w.alloc (.map #[] 0)):=⟨fun _ _ h=>h,fun b o h=>aGf (a:=⟨b,o,none⟩) (aGm _ _ _ (hH.sl b o h)),fun i p h=>by
  show (if i=base then _ else _)=_;rw[aFQ (fun e1=>by rw[e1,hf] at h;cases h)];exact h,fun _ _ _ h=>h⟩
 have fr:Fr (t7 g H (qU [(base,qP.map k v [])])) w (w.alloc (.map #[] 0)) g.S (g.var base w.heap.size none).S:=
  ⟨rfl,rfl,rfl,by simp,fun b hb _=>aGm _ _ _ hb,fun b o hb _=>⟨aGf (a:=⟨b,o,none⟩) (aGm _ _ _ hb),aGF (a:=⟨b,o,none⟩) (aGm _ _ _ hb)⟩,fun b o h=> .inl h,fun b s h=> .inl ((CQ (aGm _ _ _ (CP h))).trans h)⟩
 have gho: ∀i,i∉qU [(base,qP.map k v [])]->(g.var base w.heap.size none).J i=g.J i/\(g.var base w.heap.size none).cur i=g.cur i:=fun i hi=>⟨by
  show (if i=base then _ else _)=_;rw[aFQ (fun e1=>hi (by simp [qU,e1]))],rfl⟩
 have get: ∀i blk,i∈qU [(base,qP.map k v [])]->qS (rD [(base,qP.map k v [])] H) i=some blk->i=base/\blk= .map k v []:=by
  intro i blk hi z;simp only[qU,aF7] at hi;subst hi;simp only[rD,qS,aHp,aFO] at z;exact⟨rfl,z.symm⟩
 have perm: ∀i blk b o,i∈qU [(base,qP.map k v [])]->qS (rD [(base,qP.map k v [])] H) i=some blk->sL (g.var base w.heap.size none) i blk b o->w.heap.size<=b\/t7 g H (qU [(base,qP.map k v [])]) b o:=by
  intro i blk b o hi z ho;obtain⟨rfl,rfl⟩:=get i blk hi z;obtain⟨p,hp,K⟩:=ho;rw[D] at hp;obtain rfl:=aFU hp;exact .inl (aHn K.symm)
 refine⟨le,⟨.inr ⟨rfl,_,D,rfl⟩,trivial⟩,hH.upd le fr perm gho (fun i blk hi z=>?_) (fun i j bi bj b o hi I E G F _ _=>E ((get i bi hi G).1.trans (get j bj I F).1.symm)) (fun b o h=>aGq (hH.sl b o h) pV),fr,perm,gho,fun i u' y us h=>by
  simp only[rD,qS] at h;split at h
  .cases h
  exact .inl ⟨y,us,h⟩⟩
 obtain⟨rfl,rfl⟩:=get i blk hi z;refine⟨⟨w.heap.size,0,none⟩,#[],0,D,rfl,?_,rfl,fun o hs=>aHz _ (hH.sl _ _ hs)⟩;show (w.heap.push (.map #[] 0))[w.heap.size]? =_;rw[aHP]
theorem a5j {t:TypeId}{r:Option Operand}(ho:o.op= .makeMap t r) {base:Nat}{e:r6}(hr:ge T base (s5 T t) r=some e) (hf:yS g base e):rR P o a g w H e:=by
 generalize hst:s5 T t=ot at hr;unfold ge at hr;split at hr
 .rename_i el fl ar ls_;unfold Kt at hr;split at hr
  .split at hr
   .cases hr;have h:=hf base (by simp [qU]) (aGc _);refine rR.value (v:= .map (some w.heap.size)) (w':=w.alloc (.map #[] 0)) ?_ (rU.newMap hT hH h.1 (funext h.2));unfold execOp;rw[ho];simp only[Instr.makeMap,aF4,run_newObj,aFX,aGg,Option.map_none];rfl
   cases hr
  cases hr
 cases hr
theorem a5k {xt el fl:TypeId}{ok:Bool}{r:Nat}{es:Array MapEntry}{cl:Nat}{key z res:qE}{kd:TypeDesc}(hm:P.underlying xt=some (.map el fl)) (hb:w.heap[r]? =some (.map es cl)) (h:P.underlying el=some kd) (j: ∀ty,kd≠.interface ty) (F: ∀n t,kd≠.array n t) (E: ∀f,kd≠.struct f)
  {q:Option (Nat×qE)}(hq:Instr.findNow kd key es.toList 0=some q) (K:(zeroValue fl).run P w= .ok z w)
  (D:res=MV ok z q):(Instr.lookup xt (.map (some r)) key ok).run P w= .ok res w:=by
 have I: ∀em,(Instr.checkKey em 10000 el key).run P w= .ok () w:=by
  intro em;unfold Instr.checkKey;simp only[aF4,aGe h,aFX];cases kd<;>first|rfl|(exact absurd rfl (j _)) |(exact absurd rfl (F _ _)) |(exact absurd rfl (E _))
 have G:(Instr.findKey el key es.toList).run P w= .ok q w:=by
  unfold Instr.findKey;simp only[aF4,aGe h,aFX,hq,aGg]
 subst D;unfold Instr.lookup;simp only[aF4,aGe hm,aFX,MapKept.run_getObj_map hb,aGg,I,G];cases q with
 |none=>cases ok<;>simp [K,aF4,aFX,MV]
 |some q=>cases ok<;>simp [aF4,aFX,MV]
theorem a5l {xt el fl:TypeId}{ok:Bool}{key z:qE}{kd:TypeDesc}(hm:P.underlying xt=some (.map el fl)) (h:P.underlying el=some kd) (D: ∀ty,kd≠.interface ty) (F: ∀n t,kd≠.array n t) (E: ∀f,kd≠.struct f)
  (I:(zeroValue fl).run P w= .ok z w):(Instr.lookup xt (.map none) key ok).run P w= .ok (MV ok z none) w:=by
 have G: ∀em,(Instr.checkKey em 10000 el key).run P w= .ok () w:=by
  intro em;unfold Instr.checkKey;simp only[aF4,aGe h,aFX];cases kd<;>first|rfl|(exact absurd rfl (D _)) |(exact absurd rfl (F _ _)) |(exact absurd rfl (E _))
 have j:(Instr.findKey el key ([]:List MapEntry)).run P w= .ok none w:=by
  unfold Instr.findKey;simp only[aF4,aGe h,aFX,Instr.findNow,aGg]
 unfold Instr.lookup;simp only[aF4,aGe hm,aFX,aGg,G,j];cases ok<;>simp [I,aF4,aFX,MV,j]
theorem rU.updMap {side:List Prop}{rds:qC}{i:Nat}{k v:Ty}{l l':List (k.den×v.den)}{p:Pl}{es es':Array MapEntry}{cl cl':Nat}(hi:qS H i=some (.map k v l)) (hp:g.J i=some p) (I:p.2=0) (hb:w.heap[p.1]? =some (.map es cl)) (U: ∀o,¬g.S p.1 o) (V:F2 g w k v l' es'.toList):
  rU g w H ⟨side,(.any,none),[(i,.map k v l')],rds⟩ g {w with heap:=w.heap.setIfInBounds p.1 (.map es' cl')} undef:=by
 have K:p.1<w.heap.size:=(aGh.1 hb).1;have D: ∀b,b≠p.1->(w.heap.setIfInBounds p.1 (.map es' cl'))[b]? =w.heap[b]? :=fun b hne=>by rw[aG9 (Ne.symm hne)]
 have z: ∀o,t7 g H (qU [(i,qP.map k v l')]) p.1 o:=fun o=>⟨i,_,by simp [qU],hi,p,hp,rfl⟩;have le:Le g w g {w with heap:=w.heap.setIfInBounds p.1 (.map es' cl')}:=⟨fun _ _ h=>h,fun b o h=>aGf (a:=⟨b,o,none⟩) (D b (fun e=>U o (e▸h))),fun _ _ h=>h,fun _ _ _ h=>h⟩
 have fr:Fr (t7 g H (qU [(i,qP.map k v l')])) w {w with heap:=w.heap.setIfInBounds p.1 (.map es' cl')} g.S g.S:=
  ⟨rfl,rfl,rfl,by simp,fun b _ G=>D b (fun e=>G 0 (e▸z 0)),fun b o _ G=>⟨aGf (a:=⟨b,o,none⟩) (D b (fun e=>G (e▸z o))),aGF (a:=⟨b,o,none⟩) (D b (fun e=>G (e▸z o)))⟩,fun b o h=> .inl h,fun b s h=>(by
   by_cases e:b=p.1
   .exact .inr fun o=>e▸z o
   exact .inl ((CQ (D b e)).trans h))⟩
 have get: ∀j blk,j∈qU [(i,qP.map k v l')]->qS (rD [(i,qP.map k v l')] H) j=some blk->j=i/\blk= .map k v l':=by
  intro j blk E F;simp only[qU,aF7] at E;subst E;simp only[rD,qS,aHp,aFO] at F;exact⟨rfl,F.symm⟩
 have perm: ∀j blk b o,j∈qU [(i,qP.map k v l')]->qS (rD [(i,qP.map k v l')] H) j=some blk->sL g j blk b o->w.heap.size<=b\/t7 g H (qU [(i,qP.map k v l')]) b o:=by
  intro j blk b o E F ho;obtain⟨rfl,rfl⟩:=get j blk E F;obtain⟨q,hq,rfl⟩:=ho;rw[hp] at hq;obtain rfl:=aFU hq;exact .inr (z o)
 refine⟨le,⟨trivial,trivial⟩,hH.upd le fr perm (fun _ _=>⟨rfl,rfl⟩) (fun j blk E F=>?_) (fun j j' bi bj b o E M O R Q _ _=>O ((get j bi E R).1.trans (get j' bj M Q).1.symm)) (fun b o h=>by simpa using hH.sl b o h),fr,perm,fun _ _=>⟨rfl,rfl⟩,fun j u' y us h=>by
  simp only[rD,qS] at h;split at h
  .cases h
  exact .inl ⟨y,us,h⟩⟩
 obtain⟨rfl,rfl⟩:=get j blk E F;exact⟨p,es',cl',hp,I,by simp [aHF,K],gt le V,U⟩
theorem Na {i:Nat}{k:qB}{v:qE}(h:rX g w (.val .mp (some i),k) v): ∃p,g.J i=some p/\v= .map (some p.1):=by
 obtain⟨p,j,e⟩:=y5 rfl h.1;simp only[aGD,and_true] at e;exact⟨p,j,e⟩
theorem jg {k:Ty}:(∀ty,AZ k≠.interface ty)/\(∀n t,AZ k≠.array n t)/\(∀f,AZ k≠.struct f):=by
 cases k<;>exact⟨fun _ h=>by simp [AZ] at h,fun _ _ h=>by simp [AZ] at h,fun _ h=>by simp [AZ] at h⟩
theorem a5m {t:TypeId}{x y:Operand}{ok:Bool}(ho:o.op= .lookup t x y ok) {sx sy:qQ}(V:rX g w sx (a.eval x)) (X:rX g w sy (a.eval y)) {e:r6}(hr:WM T H ok (s5 T t) sx sy=some e):rR P o a g w H e:=by
 generalize hst:s5 T t=ot at hr;unfold WM at hr;split at hr
 .rename_i el fl ar ls_ i kk;generalize Q:s5 T el=ok1 at hr;generalize O:s5 T fl=ok2 at hr;unfold gg at hr;split at hr
  .rename_i kt vt k a' _;split at hr
   .rename_i z;unfold WL at hr;split at hr
    .rename_i k' v' l hb;split at hr
     .rename_i R;obtain⟨rfl,rfl⟩:=R;split at hr
      .rename_i h;obtain⟨p,es,cl,hp,ha,Y,Z,hS⟩:=hH.blk i _ hb;obtain⟨p',K,F⟩:=Na hT hH V;rw[hp] at K;obtain rfl:=aFU K;have hm:=(tB hT hst).2;simp only[xY] at hm;have D:=je (tB hT Q) (z▸h);obtain⟨iv,I,U,G⟩:=F5 (tB hT O);have M:(zeroValue fl).run P w= .ok (yR vt.ty) w:=by
        simp only[zeroValue,typeInfo,aF4,aGR,I,G,aFX,aGg]
       obtain⟨f1,f2⟩:=jf (v:=vt.ty) h X.1 0 Z;rw[<-z] at D;obtain⟨p1,p2,p3⟩:=jg hT hH (k:=k);have go: ∀{q res},Instr.findNow (AZ k) (a.eval y) es.toList 0=some q->res=MV ok (yR vt.ty) q->(execOp a.eval o).run P w= .ok (.value res) w:=by
        intro q res h1 h2;unfold execOp;rw[ho];simp only[F,aF4,a5k hT hH hm Y D p1 p2 p3 h1 M h2,aFX,aGg]
       cases E:GH k vt.ty l a' with
       |false=>
        obtain⟨g1,g2,_⟩:=f1 E;cases ok with
        |true=>
         cases hr;refine rR.pure hH (v:= .tuple #[yR vt.ty,.bool false]) (go g1 rfl) ?_;simp only[OL,E,g2];exact⟨[_,_],rfl,_,[_],rfl,MR g w _,trivial,_,[],rfl,vV g w false,trivial,rfl⟩
        |false=>
         cases hr;refine rR.pure hH (v:=yR vt.ty) (go g1 rfl) ?_;simp only[OL,g2];exact MR g w _
       |true=>
        obtain⟨j,e',g1,g2,g3,g4,g5⟩:=f2 E;cases ok with
        |true=>
         cases hr;refine rR.pure hH (v:= .tuple #[e'.val,.bool true]) (go g2 rfl) ?_;simp only[OL,E];exact⟨[_,_],rfl,_,[_],rfl,g3,trivial,_,[],rfl,vV g w true,trivial,rfl⟩
        |false=>
         cases hr;refine rR.pure hH (v:=e'.val) (go g2 rfl) ?_;simp only[OL];exact g3
      cases hr
     cases hr
    cases hr
   cases hr
  cases hr
 .rename_i el fl ar ls_ kk;generalize Q:s5 T el=ok1 at hr;generalize O:s5 T fl=ok2 at hr;unfold Ku at hr;split at hr
  .rename_i kt vt k a' _;split at hr
   .rename_i z;split at hr
    .rename_i h;have F:a.eval x= .map none:=by
      have e1:=y5 rfl V.1;simpa[Rd,MM] using e1
     have hm:=(tB hT hst).2;simp only[xY] at hm;have D:=je (tB hT Q) (z▸h);obtain⟨iv,I,U,G⟩:=F5 (tB hT O);have M:(zeroValue fl).run P w= .ok (yR vt.ty) w:=by
      simp only[zeroValue,typeInfo,aF4,aGR,I,G,aFX,aGg]
     rw[<-z] at D;obtain⟨p1,p2,p3⟩:=jg hT hH (k:=k);have go:(execOp a.eval o).run P w= .ok (.value (MV ok (yR vt.ty) none)) w:=by
      unfold execOp;rw[ho];simp only[F,aF4,a5l hT hH hm D p1 p2 p3 M,aFX,aGg]
     cases ok with
     |true=>
      cases hr;exact rR.pure hH (v:= .tuple #[yR vt.ty,.bool false]) go ⟨[_,_],rfl,_,[_],rfl,MR g w _,trivial,_,[],rfl,vV g w false,trivial,rfl⟩
     |false=>
      cases hr;exact rR.pure hH (v:=yR vt.ty) go (MR g w _)
    cases hr
   cases hr
  cases hr
 cases hr
theorem a5n {g:Gh}{w:qD}{k:Ty}(j:F1 k=true) {x:k.den}{v:qE}(h:tJ g w k x v) (n:Nat):Instr.sameBits n v v=true:=by
 cases k with
 |int k=>rw[wH h];cases n<;>simp [Instr.sameBits]
 |str=>rw[x7 h];cases n<;>simp [Instr.sameBits,MapKept.bytes_beq]
 |bool=>rw[vU h];cases n<;>simp [Instr.sameBits]
 |_=>simp [F1] at j
omit hT hH in
theorem Nb {T:sZ}{ti:Option TI}{s:qQ}{v:qE}(h:rX g w s v):rX g w (WO T ti s) v:=by
 unfold WO;split
 .unfold Kv;split
  .rename_i f x _;refine⟨.inr ⟨rfl,?_⟩,trivial⟩;rcases h.1 with⟨j,_⟩ |⟨j,vs,z,h3⟩
   .cases j
   rw[show vs=[] from z] at h3;exact h3
  exact h
 exact h
theorem Nc {t:TypeId}{m x y:Operand}(ho:o.op= .mapUpdate t m x y\/o.op= .insert t m x y) {sm sx sy:qQ}(hm:rX g w sm (a.eval m)) (V:rX g w sx (a.eval x)) (U:rX g w sy (a.eval y)) {e:r6}(hr:P0 T H (s5 T t) sm sx sy=some e):rR P o a g w H e:=by
 generalize hst:s5 T t=ot at hr;unfold P0 at hr;split at hr
 .rename_i el fl ar ls_ i kk;generalize Y:s5 T el=ok1 at hr;unfold WN at hr;split at hr
  .rename_i kt k a' _ u b _;split at hr
   .rename_i M;unfold OZ at hr;split at hr
    .rename_i k' v' l hb;split at hr
     .rename_i R;obtain⟨rfl,rfl⟩:=R;split at hr
      .rename_i h;cases hr;obtain⟨p,es,cl,hp,G,E,hM,X⟩:=hH.blk i _ hb;obtain⟨p',I,F⟩:=Na hT hH hm;rw[hp] at I;obtain rfl:=aFU I;have z:=(tB hT hst).2;simp only[xY] at z;have D:=je (tB hT Y) (M▸h);rw[<-M] at D;obtain⟨p1,p2,p3⟩:=jg hT hH (k:=k);have Q:(Instr.checkKey false 10000 el (a.eval x)).run P w= .ok () w:=by
        unfold Instr.checkKey;simp only[aF4,aGe D,aFX];generalize AZ k=kd at p1 p2 p3;cases kd<;>first|rfl|(exact absurd rfl (p1 _)) |(exact absurd rfl (p2 _ _)) |(exact absurd rfl (p3 _))
       have O: ∀{q},Instr.findNow (AZ k) (a.eval x) es.toList 0=some q->(Instr.findKey el (a.eval x) es.toList).run P w= .ok q w:=by
        intro q hq;unfold Instr.findKey;simp only[aF4,aGe D,aFX,hq,aGg]
       obtain⟨f1,f2⟩:=jf (v:=u) h V.1 0 hM;cases K:GH k u l a' with
       |false=>
        obtain⟨g1,_,g3⟩:=f1 K;refine rR.skip (w':={w with heap:=w.heap.setIfInBounds p.1 (.map (es.push ⟨a.eval x,a.eval y,cl⟩) (cl+1))}) ?_ (rU.updMap hT hH hb hp G E X ?_)
        .unfold execOp;rcases ho with ho|ho<;>rw[ho]<;>
          simp only[Instr.mapUpdate,F,aF4,aGe z,aFX,MapKept.run_getObj_map E,Q,O g1,MapKept.run_setObj_map _ E,aGg]
        .simp only[OL,Array.toList_push];exact g3 b _ _ U.1
       |true=>
        obtain⟨j,e',g1,g2,g3,g4,g5⟩:=f2 K;rw[aGk] at g2;refine rR.skip (w':={w with heap:=w.heap.setIfInBounds p.1 (.map (es.modify j fun e=>{e with key:=a.eval x,val:=a.eval y}) cl)}) ?_ (rU.updMap hT hH hb hp G E X ?_)
        .have Z:es[j]? =some e':=by rw[<-aGX];exact g1
         unfold execOp;rcases ho with ho|ho<;>rw[ho]<;>
          simp only[Instr.mapUpdate,F,aF4,aGe z,aFX,MapKept.run_getObj_map E,Q,O g2,Z,Option.map_some,aHV,g4,Instr.keyThatStays,a5n hT hH h V.1,aHp,MapKept.run_setObj_map _ E,aGg]
        simp only[OL,Array.toList_modify];exact g5 b _ U.1
      cases hr
     cases hr
    cases hr
   cases hr
  cases hr
 cases hr
end
theorem Nd {P:Program}{w:qD}{r:Nat}{s:ByteArray}{n:Nat}(hb:w.heap[r]? =some (.stringIter s n)):(getObj r).run P w= .ok (.stringIter s n) w:=by
 simp [getObj,Sem.run,hb]
theorem a5o {P:Program}{w:qD}{r:Nat}{s:ByteArray}{n:Nat}(o:Obj) (hb:w.heap[r]? =some (.stringIter s n)):(setObj r o).run P w= .ok () {w with heap:=w.heap.setIfInBounds r o}:=by
 simp [setObj,Sem.run,hb]
section
variable {P:Program}{o:Oper}{a:Act}{g:Gh}{w:qD}{H:sJ}{T:sZ}(hT:xZ P T) (hH:sO g w H)
include hT hH
theorem rU.newIter {side:List Prop}{rds:qC}{base:Nat}{s:pP}(hf:g.J base=none) (M:g.cur base=fun _=>none):
  rU g w H ⟨side,(.val .ref (some (base,0)),none),[(base,.iter s 0)],rds⟩ (g.var base w.heap.size none) (w.alloc (.stringIter ⟨s.toArray⟩ 0)) (.pointer (some ⟨w.heap.size,0,none⟩)):=by
 have D:(g.var base w.heap.size none).J base=some ⟨w.heap.size,0,none⟩:=by simp [Gh.var]
 have le:Le g w (g.var base w.heap.size none) (w.alloc (.stringIter ⟨s.toArray⟩ 0)):=⟨fun _ _ h=>h,fun b o h=>aGf (a:=⟨b,o,none⟩) (aGm _ _ _ (hH.sl b o h)),fun i p h=>by
  show (if i=base then _ else _)=_;rw[aFQ (fun e1=>by rw[e1,hf] at h;cases h)];exact h,fun _ _ _ h=>h⟩
 have fr:Fr (t7 g H (qU [(base,qP.iter s 0)])) w (w.alloc (.stringIter ⟨s.toArray⟩ 0)) g.S (g.var base w.heap.size none).S:=
  ⟨rfl,rfl,rfl,by simp,fun b hb _=>aGm _ _ _ hb,fun b o hb _=>⟨aGf (a:=⟨b,o,none⟩) (aGm _ _ _ hb),aGF (a:=⟨b,o,none⟩) (aGm _ _ _ hb)⟩,fun b o h=> .inl h,fun b s h=> .inl ((CQ (aGm _ _ _ (CP h))).trans h)⟩
 have gho: ∀i,i∉qU [(base,qP.iter s 0)]->(g.var base w.heap.size none).J i=g.J i/\(g.var base w.heap.size none).cur i=g.cur i:=fun i hi=>⟨by
  show (if i=base then _ else _)=_;rw[aFQ (fun e1=>hi (by simp [qU,e1]))],rfl⟩
 have get: ∀i blk,i∈qU [(base,qP.iter s 0)]->qS (rD [(base,qP.iter s 0)] H) i=some blk->i=base/\blk= .iter s 0:=by
  intro i blk hi z;simp only[qU,aF7] at hi;subst hi;simp only[rD,qS,aHp,aFO] at z;exact⟨rfl,z.symm⟩
 have perm: ∀i blk b o,i∈qU [(base,qP.iter s 0)]->qS (rD [(base,qP.iter s 0)] H) i=some blk->sL (g.var base w.heap.size none) i blk b o->w.heap.size<=b\/t7 g H (qU [(base,qP.iter s 0)]) b o:=by
  intro i blk b o hi z ho;obtain⟨rfl,rfl⟩:=get i blk hi z;obtain⟨p,hp,K⟩:=ho;rw[D] at hp;obtain rfl:=aFU hp;exact .inl (aHn K.symm)
 refine⟨le,⟨.inr ⟨rfl,_,D,rfl⟩,trivial⟩,hH.upd le fr perm gho (fun i blk hi z=>?_) (fun i j bi bj b o hi I E G F _ _=>E ((get i bi hi G).1.trans (get j bj I F).1.symm)) (fun b o h=>aGq (hH.sl b o h) pV),fr,perm,gho,fun i u' y us h=>by
  simp only[rD,qS] at h;split at h
  .cases h
  exact .inl ⟨y,us,h⟩⟩
 obtain⟨rfl,rfl⟩:=get i blk hi z;refine⟨⟨w.heap.size,0,none⟩,D,rfl,?_,fun o hs=>aHz _ (hH.sl _ _ hs)⟩;show (w.heap.push (.stringIter ⟨s.toArray⟩ 0))[w.heap.size]? =_;rw[aHP]
theorem rU.updIter {side:List Prop}{rds:qC}{i:Nat}{s:pP}{n n':Nat}{d:qQ}{val:qE}{p:Pl}(hi:qS H i=some (.iter s n)) (hp:g.J i=some p) (I:p.2=0) (hb:w.heap[p.1]? =some (.stringIter ⟨s.toArray⟩ n)) (U: ∀o,¬g.S p.1 o) (V:rX g {w with heap:=w.heap.setIfInBounds p.1 (.stringIter ⟨s.toArray⟩ n')} d val):
  rU g w H ⟨side,d,[(i,.iter s n')],rds⟩ g {w with heap:=w.heap.setIfInBounds p.1 (.stringIter ⟨s.toArray⟩ n')} val:=by
 have K:p.1<w.heap.size:=(aGh.1 hb).1;have D: ∀b,b≠p.1->(w.heap.setIfInBounds p.1 (.stringIter ⟨s.toArray⟩ n'))[b]? =w.heap[b]? :=fun b hne=>by rw[aG9 (Ne.symm hne)]
 have z: ∀o,t7 g H (qU [(i,qP.iter s n')]) p.1 o:=fun o=>⟨i,_,by simp [qU],hi,p,hp,rfl⟩;have le:Le g w g {w with heap:=w.heap.setIfInBounds p.1 (.stringIter ⟨s.toArray⟩ n')}:=⟨fun _ _ h=>h,fun b o h=>aGf (a:=⟨b,o,none⟩) (D b (fun e=>U o (e▸h))),fun _ _ h=>h,fun _ _ _ h=>h⟩
 have fr:Fr (t7 g H (qU [(i,qP.iter s n')])) w {w with heap:=w.heap.setIfInBounds p.1 (.stringIter ⟨s.toArray⟩ n')} g.S g.S:=
  ⟨rfl,rfl,rfl,by simp,fun b _ G=>D b (fun e=>G 0 (e▸z 0)),fun b o _ G=>⟨aGf (a:=⟨b,o,none⟩) (D b (fun e=>G (e▸z o))),aGF (a:=⟨b,o,none⟩) (D b (fun e=>G (e▸z o)))⟩,fun b o h=> .inl h,fun b s h=>(by
   by_cases e:b=p.1
   .exact .inr fun o=>e▸z o
   exact .inl ((CQ (D b e)).trans h))⟩
 have get: ∀j blk,j∈qU [(i,qP.iter s n')]->qS (rD [(i,qP.iter s n')] H) j=some blk->j=i/\blk= .iter s n':=by
  intro j blk E F;simp only[qU,aF7] at E;subst E;simp only[rD,qS,aHp,aFO] at F;exact⟨rfl,F.symm⟩
 have perm: ∀j blk b o,j∈qU [(i,qP.iter s n')]->qS (rD [(i,qP.iter s n')] H) j=some blk->sL g j blk b o->w.heap.size<=b\/t7 g H (qU [(i,qP.iter s n')]) b o:=by
  intro j blk b o E F ho;obtain⟨rfl,rfl⟩:=get j blk E F;obtain⟨q,hq,rfl⟩:=ho;rw[hp] at hq;obtain rfl:=aFU hq;exact .inr (z o)
 refine⟨le,V,hH.upd le fr perm (fun _ _=>⟨rfl,rfl⟩) (fun j blk E F=>?_) (fun j j' bi bj b o E M O R Q _ _=>O ((get j bi E R).1.trans (get j' bj M Q).1.symm)) (fun b o h=>by simpa using hH.sl b o h),fr,perm,fun _ _=>⟨rfl,rfl⟩,fun j u' y us h=>by
  simp only[rD,qS] at h;split at h
  .cases h
  exact .inl ⟨y,us,h⟩⟩
 obtain⟨rfl,rfl⟩:=get j blk E F;exact⟨p,hp,I,by simp [aHF,K],U⟩
theorem a5p {t:TypeId}{x:Operand}(ho:o.op= .range t x) {sx:qQ}(z:rX g w sx (a.eval x)) {base:Nat}{e:r6}(hr:gi base (s5 T t) sx=some e) (hf:yS g base e):rR P o a g w H e:=by
 generalize hst:s5 T t=ot at hr;unfold gi at hr;split at hr
 .rename_i el b ar ls s k;cases hr;have h:=hf base (by simp [qU]) (aGc _);have D:=x7 z.1;have j:=(tB hT hst).2;simp only[xY] at j;refine rR.value (v:= .pointer (some ⟨w.heap.size,0,none⟩)) (w':=w.alloc (.stringIter ⟨s.toArray⟩ 0)) ?_ (rU.newIter hT hH h.1 (funext h.2));unfold execOp;rw[ho];simp only[Instr.range,D,aF4,aGe j,run_newObj,aFX,aGg];rfl
 cases hr
theorem a5q {x:Operand}{b:Bool}(ho:o.op= .next x b) {sx:qQ}(K:rX g w sx (a.eval x)) {e:r6}(hr:WP H b sx=some e):rR P o a g w H e:=by
 unfold WP at hr;split at hr
 .rename_i i k;unfold gj at hr;split at hr
  .rename_i s n hb;cases hr;obtain⟨p,hp,F,z,I⟩:=hH.blk i _ hb;obtain⟨q,hq,G⟩:=y6 K.1;rw[hp] at hq;obtain rfl:=aFU hq;rw[F] at G;by_cases hl:n<s.length
   .have D:n<(⟨s.toArray⟩:ByteArray).size:=by simpa[ByteArray.size] using hl
    refine rR.value (v:= .tuple #[.bool true,.int .i64 (n:Int),.int .i32 (xW s n)]) (w':={w with heap:=w.heap.setIfInBounds p.1 (.stringIter ⟨s.toArray⟩ (BM s n))}) ?_ (rU.updIter hT hH hb hp F z I ⟨⟨fun _=>rfl,fun h=>absurd hl (of_decide_eq_false h)⟩,trivial⟩)
    unfold execOp;rw[ho];have E:BM s n=n+(Utf8.decode ⟨s.toArray⟩ n).2:=by unfold BM gh;rw[aFP hl]
    simp only[Instr.next,G,aF4,Nd z,aFX,D,aHp,a5o _ z,aGg,E];rfl
   have D: ¬n<(⟨s.toArray⟩:ByteArray).size:=by simpa[ByteArray.size] using hl
   have E:BM s n=n:=by unfold BM;rw[aFQ hl]
   have hw:({w with heap:=w.heap.setIfInBounds p.1 (.stringIter ⟨s.toArray⟩ (BM s n))}:qD)=w:=by
    rw[E];have:w.heap.setIfInBounds p.1 (.stringIter ⟨s.toArray⟩ n)=w.heap:=by
     obtain⟨O,Q⟩:=aGh.1 z;apply Array.ext_getElem?;intro j;rw[aHF];split
     .rename_i M;subst M;first|rw[z] |rw[aFP O,z]
     rfl
    rw[this]
   refine rR.value (v:= .tuple #[.bool false]) (w':={w with heap:=w.heap.setIfInBounds p.1 (.stringIter ⟨s.toArray⟩ (BM s n))}) ?_ (rU.updIter hT hH hb hp F z I ⟨⟨fun h=>absurd (aGt h) hl,fun _=>rfl⟩,trivial⟩)
   rw[hw];unfold execOp;rw[ho];simp only[Instr.next,G,aF4,Nd z,aFX,D,aHW,aGg]
  cases hr
 cases hr
end
def rC:Nat->List qP->sJ
 |_,[]=>[]
 |c,b::L=>(c,b)::rC (c+1) L
theorem XD: ∀(L:List qP) (c i:Nat),qS (rC c L) i=if c<=i then L[i-c]? else none
 |[],c,i=>by simp [rC,qS]
 |b::L,c,i=>by
  simp only[rC,qS];by_cases h:c=i
  .subst h;simp
  rw[aFQ h,XD L (c+1) i];by_cases j:c<=i
  .rw[aFP j,aFP pT];obtain⟨d,z⟩: ∃d,i-c=d+1:=⟨i-c-1,pT⟩;rw[z,aGC];congr 1;omega
  rw[aFQ j,aFQ pT]
theorem y8 (L:List qP) (i:Nat):qS (rC 0 L) i=L[i]? :=by rw[XD];simp
def zF (g:Gh) (H:sJ) (b o:Nat):Prop:= ∃i blk,qS H i=some blk/\sL g i blk b o
def vJ (g:Gh) (w:qD):List qQ->q8->Prop
 |[],vs=>vs=[]
 |s::ss,vs=> ∃v vs',vs=v::vs'/\rX g w s v/\vJ g w ss vs'
def S8 (g:Gh) (w:qD):List qQ->qE->Prop
 |[s],v=>rX g w s v
 |l,v=> ∃vs:q8,v= .tuple vs.toArray/\vJ g w l vs
structure GK (g:Gh) (w:qD) (L:List qP) (r:r5) (g':Gh) (w':qD) (v:qE):Prop where
 shut: ∀b o,g.S b o->g'.S b o/\w'.cell? ⟨b,o,none⟩=w.cell? ⟨b,o,none⟩
 heap:sO g' w' (rC 0 r.H)
 ret:S8 g' w' r.ret v
 fr:Fr (zF g (rC 0 L)) w w' g.S g'.S
 perm: ∀i blk b o,r.H[i]? =some blk->sL g' i blk b o->w.heap.size<=b\/zF g (rC 0 L) b o
 J: ∀(i:Nat) t x ts,L[i]? =some (.cells t x ts)->g'.J i=g.J i
 ty: ∀(i:Nat) t x ts u y us,L[i]? =some (.cells t x ts)->r.H[i]? =some (.cells u y us)->u=t
 Jt: ∀i p,i<L.length->g.J i=some p->g'.J i=some p
 cur: ∀i n u,i<L.length->g.cur i n=some u->g'.cur i n=some u
def xJ (P:Program) (f:FuncId) (C:List qQ->List qP->Option r5):Prop:=
 (∀args w,(callFunc f args).run P w= .ok (.enter f args) w)/\
 ∀(g:Gh) (w:qD) (args:List qQ) (vals:q8) (L:List qP) (r:r5),sO g w (rC 0 L)->vJ g w args vals->C args L=some r->(∀p∈r.side,p)->
  Calls P f vals.toArray w (fun e w'=> ∃v g',e= .returned v/\GK g w L r g' w' v)
def XE (P:Program) (f:FuncId) (F:(t:Ty)->List t.den->Option (List t.den)):Prop:=
 ∀(g:Gh) (w:qD) (e:TypeId) (t:Ty) (l l':List t.den) (v:qE) (n:Nat) (xs:q8),G7 w->w.ownsRow 0 e t.cells v n xs->uI (Rd g w t) t.cells l xs->l.length=n->n<4611686018427387904->F t l=some l'->
  Calls P f #[v] w (fun en w'=>en= .returned (.tuple #[])/\l'.length=n/\∃xs',w'.ownsRow 0 e t.cells v n xs'/\uI (Rd g w t) t.cells l' xs'/\w.grownBy w' v.ownBlock)
def F6 (P:Program) (Γ:tP):Prop:= ∀f s,f<1000000000->Γ f=some s->xJ P f s.C/\∀F,s.row=some F->XE P f F
theorem Nf {g:Gh}{w:qD}{t:Ty}{x:t.den}{v:qE}{k:qB}(h:rX g w (.val t x,k) v):rX g w (.val t x,G8 t k) v:=by
 refine⟨h.1,?_⟩;cases t with
 |list u=>exact h.2
 |_=>trivial
theorem a5r {t:Ty}{k:qB}: ∀c,G8 t k=some c->∃u,t= .list u:=by
 cases t with
 |list u=>exact fun _ _=>⟨u,rfl⟩
 |_=>intro c h;cases h
theorem XF {g g':Gh}{w:qD}(z:g'.S=g.S) {t:Ty}(hp:t.pure=true) {x:t.den}{v:qE}{k k':qB}(hl: ∀c,k=some c->∃u,t= .list u) (h:rX g w (.val t x,k) v) (F: ∀c,k=some c->∃c',k'=some c'/\∀n u,g.cur c n=some u->g'.cur c' n=some u) (j:k=none->k'=none):rX g' w (.val t x,k') v:=by
 have E:tJ g' w t x v:=h.1.imp (fun⟨a,cs,e,q⟩=>⟨a,cs,e,wG z hp q⟩) (fun⟨a,q⟩=>⟨a,wG z hp q⟩);refine⟨E,?_⟩;cases k with
 |none=>rw[j rfl];trivial
 |some c=>
  obtain⟨c',rfl,G⟩:=F c rfl;have D:=h.2;cases t with
  |list u=>exact G _ _ D
  |pair a b=>obtain⟨u,e⟩:=hl c rfl;cases e
  |_=>exact D.elim
section
variable {P:Program}{o:Oper}{a:Act}{g:Gh}{w:qD}{H:sJ}{T:sZ}{Γ:tP}(hT:xZ P T) (hΓ:F6 P Γ) (hH:sO g w H)
include hT hΓ hH
theorem jh {ti:Option TI}{s:qQ}{v:qE}(h:rX g w s v):rX g w (OM ti s) v:=by
 unfold OM;split
 .have:v= .slice none 0 0:=h.1;subst this;exact⟨.inr ⟨rfl,none,0,rfl,aGc _,.inl rfl⟩,trivial⟩
 .have e:v= .nilFunc:=by
   have:=y5 rfl h.1;simpa[Rd,K0] using this
  subst e;exact⟨.inr ⟨rfl,.inl ⟨rfl,rfl⟩⟩,trivial⟩
 exact h
theorem XG {ρ:Operand->qQ}: ∀{xs:List Operand}{ts:List TypeId},xs.length=ts.length->(∀x∈xs,rX g w (ρ x) (a.eval x))->vJ g w (CM T ρ xs ts) (xs.map a.eval)
 |[],[],_,_=>rfl
 |x::xs,t::ts,h,j=>⟨_,_,rfl,jh hT hΓ hH (j x pV),XG (by simpa using h) (fun y z=>j y (by simp [z]))⟩
theorem a5s {l m:List qQ}{vs us:q8}(h:vJ g w l vs) (k:vJ g w m us):vJ g w (l++m) (vs++us):=by
 induction l generalizing vs with
 |nil=>rw[show vs=[] from h];exact k
 |cons s l ih=>
  obtain⟨v,vs',rfl,z,j⟩:=h;exact⟨v,_,rfl,z,ih j⟩
theorem Ng: ∀{caps:pY}{vs:q8},zE g caps vs->vJ g w (fq caps) vs
 |[],_,h=>h
 |(i,o)::caps,_,⟨p,vs',z,j,h3⟩=>⟨_,_,j,⟨.inr ⟨rfl,p,z,rfl⟩,trivial⟩,Ng h3⟩
end
theorem XH {P:Program}{o:Oper}{a:Act}{f:FuncId}{fop:Operand}{args:Array Operand}{tys:Array TypeId}(ho:o.op= .call ⟨.value fop,args,tys⟩) {caps:q8}(hf:a.eval fop= .func (.func f) #[] caps.toArray)
  (j: ∀args w,(callFunc f args).run P w= .ok (.enter f args) w) {w:qD}{K:Act->qD->Prop}{Q:Exit->Act->qD->Prop}
  (h:Calls P f ((args.toList.map a.eval)++caps).toArray w (fun e w'=> ∃v,e= .returned v/\K (a.put o.dst v) w')):o.wp P a w K Q:=by
 unfold Oper.wp;have:(execOp a.eval o).run P w= .ok (.enter f ((args.toList.map a.eval)++caps).toArray) w:=by
  unfold execOp;rw[ho];simp only[resolve,hf,Deferred.ofValue,aF4,aGg,aFX,invoke];rw[j];congr 2;apply aG3.1;simp
 rw[this];unfold Oper.upon;refine h.mono fun e w' ⟨v,D,z⟩=>?_;subst D;exact z
def vK (g:Gh):Option rY->Option Pl
 |some (.box i _ _ _ o)=>(g.J i).map fun p=>⟨p.1,p.2+o,p.3⟩
 |some (.tok k)=>g.J k
 |none=>none
def AJ (g:Gh):Option rY->Nat->Option qE
 |some (.tok k),n=>g.cur k n
 |_,_=>none
def vL (g:Gh) (ws:List rY):Gh:=⟨g.S,fun c=>vK g ws[c]?,fun c n=>AJ g ws[c]? n⟩
def XI (H:sJ) (ws:List rY):rY->qP->Prop
 | .box i u x toks o,.cells t y ts=>qS H i=some (.cells u x toks)/\rH t u x o=some y/\∀q n,(q,n)∈ts->∃k,ws[n]? =some (.tok k)/\xV toks (o+q)=some k/\q<t.cells
 | .tok k,.grow e c m=>qS H k=some (.grow e c m)
 | .tok k,.map s t l=>qS H k=some (.map s t l)/\s.pure=true/\t.pure=true
 | .tok k,.row e t l n=>qS H k=some (.row e t l n)/\t.pure=true
 |_,_=>False
structure IA (H:sJ) (ws:List rY) (L:List qP):Prop where
 len:ws.length=L.length
 ok: ∀(c:Nat) wh b,ws[c]? =some wh->L[c]? =some b->XI H ws wh b
 nodup:(sP ws).Nodup
def ji (ws:List rY) (t:Ty) (x y:t.den):Prop:=(t.pure=true/\y=x)\/D4 ws t x=some y
def XJ (H:sJ) (ws:List rY):rY->qP->Prop
 | .box i u x toks o,.cells t y ts=>qS H i=some (.cells u x toks)/\(∃y0,rH t u x o=some y0/\ji ws t y0 y)/\∀q n,(q,n)∈ts->∃k,ws[n]? =some (.tok k)/\xV toks (o+q)=some k/\q<t.cells
 | .tok k,.grow e c m=>qS H k=some (.grow e c m)
 | .tok k,.map s t l=>qS H k=some (.map s t l)/\s.pure=true/\t.pure=true
 | .tok k,.row e t l n=>qS H k=some (.row e t l n)/\t.pure=true
 |_,_=>False
def P8 {i o:Nat}: ∀{ws:List rY}{c0:Nat}{c q:Nat},EA i o ws c0=some (c,q)->∃d u x toks oc,c=c0+d/\ws[d]? =some (.box i u x toks oc)/\o=oc+q
 |[],_,_,_,h=>by simp [EA] at h
 | .box j u x toks oc::r,c0,c,q,h=>by
  simp only[EA] at h;split at h
  .rename_i D;simp only[aFO,aGi] at h;obtain⟨rfl,rfl⟩:=h;obtain⟨rfl,z⟩:=D;exact⟨0,u,x,toks,oc,rfl,rfl,pT⟩
  .obtain⟨d,u',x',toks',oc',E,z,h3⟩:=P8 h;exact⟨d+1,u',x',toks',oc',pT,by simpa using z,h3⟩
 | .tok k::r,c0,c,q,h=>by
  simp only[EA] at h;obtain⟨d,u',x',toks',oc',E,z,h3⟩:=P8 h;exact⟨d+1,u',x',toks',oc',pT,by simpa using z,h3⟩
def K5 {i:Nat}: ∀{ws:List rY}{c0 c:Nat},wE i ws c0=some c->∃d,c=c0+d/\ws[d]? =some (.tok i)
 |[],_,_,h=>by simp [wE] at h
 | .tok j::r,c0,c,h=>by
  simp only[wE] at h;split at h
  .rename_i D;simp only[aFO] at h;subst h;subst D;exact⟨0,rfl,rfl⟩
  .obtain⟨d,E,z⟩:=K5 h;exact⟨d+1,pT,by simpa using z⟩
 | .box _ _ _ _ _::r,c0,c,h=>by
  simp only[wE] at h;obtain⟨d,E,z⟩:=K5 h;exact⟨d+1,pT,by simpa using z⟩
def jj {α β:Type}{a:Option α}{b:Option β}{p:α×β}(h:GA a b=some p):a=some p.1/\b=some p.2:=by
 cases a<;>cases b<;>simp [GA] at h
 subst h;exact⟨rfl,rfl⟩
def a5t {x y:Option (Nat×pY)}(h:R7 x=some y):y=x/\∀f l,x=some (f,l)->l=[]:=by
 unfold R7 at h;split at h
 .cases h;exact⟨rfl,fun _ _ h=>by cases h⟩
 .cases h;exact⟨rfl,fun _ _ h=>by cases h;rfl⟩
 cases h
def a5u {g g':Gh}{x:Option (Nat×pY)}{cs:q8}(j: ∀f l,x=some (f,l)->l=[]) (h:K0 g x cs):K0 g' x cs:=by
 cases x with
 |none=>exact h
 |some q=>
  obtain⟨f,l⟩:=q;obtain rfl:=j f l rfl;exact h
def XK {g g':Gh}{w:qD}(G:g'.S=g.S) (f:(t:Ty)->t.den->Option t.den)
  (hp: ∀a b x,f (.pair a b) x=GA (if a.pure=true then some x.1 else f a x.1) (if b.pure=true then some x.2 else f b x.2))
  (hl: ∀t x,f (.list t) x=if t.pure=true then some x else none) (hb: ∀x,f .bool x=some x) (hi: ∀k x,f (.int k) x=some x) (hs: ∀x,f .str x=some x) (K: ∀x,f .unit x=some x) (E: ∀x,f .fn x=some x) (z: ∀e t x y cs,f (.rl e t) x=some y->CN g x cs->CN g' y cs) (D: ∀x y cs,f .mref x=some y->RX g x cs->RX g' y cs) (F: ∀x y cs,f .ap x=some y->GI g w x cs->GI g' w y cs)
  (hr: ∀x y cs,f .ref x=some y->RW g x cs->RW g' y cs) (hm: ∀x y cs,f .mp x=some y->MM g x cs->MM g' y cs) (M: ∀x,f .clo x=R7 x):
  ∀{t:Ty}{x y:t.den}{cs:q8},Rd g w t x cs->f t x=some y->Rd g' w t y cs
 | .bool,_,_,_,r,h=>by rw[hb] at h;cases h;exact r
 | .int _,_,_,_,r,h=>by rw[hi] at h;cases h;exact r
 | .str,_,_,_,r,h=>by rw[hs] at h;cases h;exact r
 | .unit,_,_,_,r,h=>by rw[K] at h;cases h;exact r
 | .rl e t,x,y,_,r,h=>z e t x y _ h r
 | .fn,_,_,_,r,h=>by rw[E] at h;cases h;exact r
 | .mref,x,y,_,r,h=>D x y _ h r
 | .ap,x,y,_,r,h=>F x y _ h r
 | .list t,x,y,_,r,h=>by
  rw[hl] at h;split at h
  .rename_i j;cases h;exact wG G (t:= .list t) (by simpa[Ty.pure] using j) r
  .cases h
 | .ref,x,y,_,r,h=>hr x y _ h r
 | .clo,x,y,_,r,h=>by
  rw[M] at h;obtain⟨rfl,I⟩:=a5t h;exact a5u I r
 | .mp,x,y,_,r,h=>hm x y _ h r
 | .pair a b,x,y,_,⟨c1,c2,e,r1,r2⟩,h=>by
  rw[hp] at h;obtain⟨O,I⟩:=jj h;refine⟨c1,c2,e,?_,?_⟩
  .split at O
   .rename_i j;exact(aFU O)▸wG G j r1
   exact XK G f hp hl hb hi hs K E z D F hr hm M r1 O
  split at I
  .rename_i j;exact(aFU I)▸wG G j r2
  exact XK G f hp hl hb hi hs K E z D F hr hm M r2 I
def jk (f:(t:Ty)->t.den->Option t.den)
  (hp: ∀a b x,f (.pair a b) x=GA (if a.pure=true then some x.1 else f a x.1) (if b.pure=true then some x.2 else f b x.2))
  (hl: ∀t x,f (.list t) x=if t.pure=true then some x else none) {u:Ty}: ∀{t:Ty}{x y:t.den}{o:Nat}{l:List u.den},f t x=some y->rH (.list u) t x o=some l->rH (.list u) t y o=some l:=by
 intro t
 induction t with
 |pair a b iha ihb=>
  intro x y o l h j;rw[hp] at h;obtain⟨E,D⟩:=jj h;have key: ∀z:(Ty.pair a b).den,∀q,rH (.list u) (.pair a b) z q=if q<a.cells then rH (.list u) a z.1 q else rH (.list u) b z.2 (q-a.cells):=by
   intro z q;cases q with
   |zero=>
    conv=>lhs;unfold rH
    rw[aHi (by intro e;cases e),Nat.zero_sub]
   |succ q=>simp [rH]
  rw[key] at j|-;split
  .rename_i ho;rw[aFP ho] at j;split at E
   .rw[<-aFU E];exact j
   exact iha E j
  .rename_i ho;rw[aFQ ho] at j;split at D
   .rw[<-aFU D];exact j
   .exact ihb D j
 |list v=>
  intro x y o l h j;rw[hl] at h;split at h
  .cases h;exact j
  .cases h
 |_=>
  intro x y o l h j;cases o with
  |zero=>
   unfold rH at j;split at j
   .rename_i e;cases e
   .cases j
  |succ o=>simp [rH] at j
def Nh {c n3 n4:Nat}{a:q9}{b d:qB}{y:Nat×Nat×(Nat×Nat)×(Nat×Nat)}(h:VD c n3 n4 a b d=some y): ∃i k3 k4,a=some (i,0)/\b=some k3/\d=some k4/\y=(c,i,(k3,n3),(k4,n4)):=by
 unfold VD at h;split at h
 .exact⟨_,_,_,rfl,rfl,rfl,(aFU h).symm⟩
 cases h
def jl {g g':Gh}{w w':qD}{c i k3 k4 n3 n4 i' k3' k4':Nat}{cs:q8}(j: ∀b o,g.S b o->g'.S b o/\w'.cell? ⟨b,o,none⟩=w.cell? ⟨b,o,none⟩) (z: ∀p,g.J i=some p->∃q,g'.J i'=some q/\q.1=p.1/\q.2=p.2) (h3: ∀v,g.cur k3 n3=some v->g'.cur k3' n3=some v) (h4: ∀v,g.cur k4 n4=some v->g'.cur k4' n4=some v)
  (h:GI g w (c,i,(k3,n3),(k4,n4)) cs):GI g' w' (c,i',(k3',n3),(k4',n4)) cs:=by
 rcases h with h|⟨h0,b,α,e,s1,s2,a1,a2,a3,a4⟩
 .exact .inl h
 refine .inr ⟨h0,b,α,e,(j _ _ s1).1,(j _ _ s1).2.trans s2,fun q=>?_,fun q=>?_,fun q=>?_,fun q=>?_⟩
 .obtain⟨p,p1,p2⟩:=a1 q;obtain⟨r,r1,r2,r3⟩:=z p p1;exact⟨r,r1,by rw[p2,r2,r3]⟩
 .obtain⟨p,p1,p2⟩:=a2 q;obtain⟨r,r1,r2,r3⟩:=z p p1;exact⟨r,r1,by rw[p2,r2,r3]⟩
 .obtain⟨bb,cap,p1,p2⟩:=a3 q;exact⟨bb,cap,h3 _ p1,p2⟩
 obtain⟨bb,cap,p1,p2⟩:=a4 q;exact⟨bb,cap,h4 _ p1,p2⟩
def a5v {g:Gh}{w:qD}{ws:List rY}{t:Ty}{x y:t.den}{cs:q8}(r:Rd g w t x cs) (h:D4 ws t x=some y):Rd (vL g ws) w t y cs:=by
 refine XK (g:=g) (g':=vL g ws) rfl (D4 ws) (fun a b x=>rfl) (fun t x=>rfl) (fun _=>rfl) (fun _ _=>rfl) (fun _=>rfl) (fun _=>rfl) (fun _=>rfl) (fun _ _ x y cs h r=>?_) (fun x y cs h r=>?_) (fun x y cs h r=>?_) (fun x y cs h r=>?_) (fun x y cs h r=>?_) (fun _=>rfl) r h
 rotate_left 2
 .obtain⟨c,i,⟨k3,n3⟩,⟨k4,n4⟩⟩:=x;simp only[D4,Jp] at h;obtain⟨i',k3',k4',e1,e2,e3,rfl⟩:=Nh h;obtain⟨d,u,x,toks,oc,rfl,D,h0⟩:=P8 e1;obtain⟨d3,rfl,h3⟩:=K5 e2;obtain⟨d4,rfl,h4⟩:=K5 e3;obtain rfl:oc=0:=by omega
  refine jl (g:=g) (g':=vL g ws) (fun _ _ h=>⟨h,rfl⟩) (fun p hp=>⟨⟨p.1,p.2+0,p.3⟩,?_,rfl,rfl⟩) (fun v z=>?_) (fun v z=>?_) r
  .show vK g ws[0+d]? =_;rw[aGk,D];simp [vK,hp]
  .show AJ g ws[0+d3]? n3=_;rw[aGk,h3];exact z
  show AJ g ws[0+d4]? n4=_;rw[aGk,h4];exact z
 rotate_left 2
 .cases x with
  |none=>cases h;exact r
  |some q=>
   obtain⟨k,n⟩:=q;simp only[D4,Jo] at h;cases j:wE k ws 0 with
   |none=>rw[j] at h;cases h
   |some c=>
    rw[j] at h;cases h;obtain⟨d,rfl,D⟩:=K5 j;obtain⟨v,z,hs⟩:=r;refine⟨v,?_,hs⟩;show AJ g ws[0+d]? n=_;rw[aGk,D];exact z
 .cases x with
  |none=>cases h;exact r
  |some q=>
   obtain⟨i,o⟩:=q;simp only[D4,VC] at h;cases j:EA i o ws 0 with
   |none=>rw[j] at h;cases h
   |some q=>
    obtain⟨c,q⟩:=q;rw[j] at h;cases h;obtain⟨d,u,x,toks,oc,rfl,D,rfl⟩:=P8 j;obtain⟨p,hp,z⟩:=r;refine⟨⟨p.1,p.2+oc,p.3⟩,?_,by have:=z.1;rwa [<-aGv] at this,z.2.imp id fun z=>by rw[z];simp [aGv]⟩;show vK g ws[0+d]? =_;rw[aGk,D];simp [vK,hp]
 .cases x with
  |none=>cases h;exact r
  |some q=>
   obtain⟨i,o⟩:=q;simp only[D4,VC] at h;cases j:EA i o ws 0 with
   |none=>rw[j] at h;cases h
   |some q=>
    obtain⟨c,q⟩:=q;rw[j] at h;cases h;obtain⟨d,u,x,toks,oc,rfl,D,rfl⟩:=P8 j;obtain⟨p,hp,z⟩:=r;refine⟨⟨p.1,p.2+oc,p.3⟩,?_,by rw[z];simp [aGv]⟩;show vK g ws[0+d]? =_;rw[aGk,D];simp [vK,hp]
 cases x with
 |none=>cases h;exact r
 |some i=>
  simp only[D4,Jn] at h;cases j:wE i ws 0 with
  |none=>rw[j] at h;cases h
  |some c=>
   rw[j] at h;cases h;obtain⟨d,rfl,D⟩:=K5 j;obtain⟨p,hp,z⟩:=r;refine⟨p,?_,z⟩;show vK g ws[0+d]? =_;rw[aGk,D];exact hp
def a5w {g:Gh}{w:qD}{ws:List rY}{t:Ty}{x y:t.den}{cs:q8}(h:ji ws t x y) (r:Rd g w t x cs):Rd (vL g ws) w t y cs:=by
 rcases h with⟨hp,rfl⟩ |h
 .exact wG (g:=g) (g':=vL g ws) rfl hp r
 exact a5v r h
def a5x {ws:List rY}{t u:Ty}{x y:t.den}{o:Nat}{l:List u.den}(h:ji ws t x y) (j:rH (.list u) t x o=some l):rH (.list u) t y o=some l:=by
 rcases h with⟨_,rfl⟩ |h
 .exact j
 exact jk (D4 ws) (fun _ _ _=>rfl) (fun _ _=>rfl) h j
structure S9 (H:sJ) (ws:List rY) (L:List qP):Prop where
 len:ws.length=L.length
 ok: ∀(c:Nat) wh b,ws[c]? =some wh->L[c]? =some b->XJ H ws wh b
 nodup:(sP ws).Nodup
def jm: ∀(ws:List rY) (c:Nat),(sP ws)[c]? =(ws[c]?).map rY.id
 |[],c=>by simp [sP]
 |w::ws,0=>rfl
 |w::ws,c+1=>by simpa[sP] using jm ws c
def K6: ∀ws ws':List rY,sP (ws++ws')=sP ws++sP ws'
 |[],_=>rfl
 |w::ws,ws'=>by simp [sP,K6 ws ws']
def IB: ∀{i:Nat}{l:qC},AT i l=true↔i∈l
 |i,[]=>by simp [AT]
 |i,j::r=>by
  simp only[AT,aF1];by_cases h:i=j
  .simp [h]
  rw[aFQ h,IB];simp [h]
def XL {ws:List rY}(h:(sP ws).Nodup) {c c':Nat}{x y:rY}(z:ws[c]? =some x) (j:ws[c']? =some y) (D:x.id=y.id):c=c':=by
 have F:(sP ws)[c]? =some x.id:=by rw[jm,z];rfl
 have E:(sP ws)[c']? =some x.id:=by rw[jm,j,D];rfl
 obtain⟨l1,e1⟩:=aF5.1 F;obtain⟨l2,e2⟩:=aF5.1 E;have hp:=aGr.1 h;rcases Nat.lt_trichotomy c c' with h3|h3|h3
 .exact absurd (e1.trans e2.symm) (hp c c' l1 l2 h3)
 .exact h3
 exact absurd (e2.trans e1.symm) (hp c' c l2 l1 h3)
def Ni: ∀{toks:pY}{q k:Nat},xV toks q=some k->(q,k)∈toks
 |[],_,_,h=>by simp [xV] at h
 |(q',k')::r,q,k,h=>by
  simp only[xV] at h;split at h
  .rename_i e;subst e;simp only[aFO] at h;subst h;simp
  exact aF2 _ (Ni h)
def a5y {v t:Ty}: ∀{u:Ty}{x:u.den}{o q:Nat}{y:t.den}{l:(Ty.list v).den},rH t u x o=some y->rH (.list v) u x (o+q)=some l->q<t.cells->rH (.list v) t y q=some l:=by
 intro u
 induction u with
 |pair a b iha ihb=>
  intro x o q y l h g hq;by_cases j:o=0/\t= .pair a b
  .obtain⟨rfl,rfl⟩:=j;unfold rH at h;rw[aHQ rfl] at h;simp only[uM,aFO] at h;subst h;simpa using g
  .have keyh:(if o<a.cells then rH t a x.1 o else rH t b x.2 (o-a.cells))=some y:=by
    cases o with
    |zero=>
     unfold rH at h;rw[aHi (fun e=>j ⟨rfl,e.symm⟩)] at h;simpa using h
    |succ o=>simpa[rH] using h
   have keyg: ∀z,rH (.list v) (.pair a b) x z=(if z<a.cells then rH (.list v) a x.1 z else rH (.list v) b x.2 (z-a.cells)):=by
    intro z;cases z with
    |zero=>
     conv=>lhs;unfold rH
     rw[aHi (by intro e;cases e),Nat.zero_sub]
    |succ z=>simp [rH]
   rw[keyg] at g;by_cases ho:o<a.cells
   .rw[aFP ho] at keyh;have D:o+t.cells<=a.cells:=by
     have: ∀{u:Ty}{x:u.den}{o:Nat}{y:t.den},rH t u x o=some y->o+t.cells<=u.cells:=by
      intro u
      induction u with
      |pair a b iha ihb=>
       intro x o y h;have key: ∀o,(if o<a.cells then rH t a x.1 o else rH t b x.2 (o-a.cells))=some y->o+t.cells<=a.cells+b.cells:=by
        intro o h;by_cases ho:o<a.cells
        .rw[aFP ho] at h;have:=iha h;omega
        rw[aFQ ho] at h;have:=ihb h;omega
       cases o with
       |zero=>
        unfold rH at h;split at h
        .rename_i e;subst e;simp
        .exact key 0 (by simpa using h)
       |succ o=>exact key (o+1) (by simpa[rH] using h)
      |_=>
       intro x o y h;cases o with
       |zero=>
        unfold rH at h;split at h
        .rename_i e;subst e;simp
        .simp at h
       |succ o=>simp [rH] at h
     exact this keyh
    rw[aFP pT] at g;exact iha keyh g hq
   .rw[aFQ ho] at keyh;rw[aFQ pT,show o+q-a.cells=o-a.cells+q from by omega] at g;exact ihb keyh g hq
 |_=>
  intro x o q y l h g hq;cases o with
  |zero=>
   unfold rH at h;split at h
   .rename_i e;subst e;simp only[uM,aFO] at h
    try subst h
    simpa using g
   .simp at h
  |succ o=>simp [rH] at h
def a5z {g:Gh}{w:qD}{H:sJ}{ws:List rY}{L:List qP}(hH:sO g w H) (hm:S9 H ws L):sO (vL g ws) w (rC 0 L):=by
 have wsL: ∀c b,qS (rC 0 L) c=some b->∃wh,ws[c]? =some wh/\XJ H ws wh b:=by
  intro c b h;rw[y8] at h;have V:c<ws.length:=hm.len▸(aF5.1 h).1;exact⟨ws[c],aFW V,hm.ok c _ b (aFW V) h⟩
 have own: ∀c b wh,ws[c]? =some wh->XJ H ws wh b->∀bb oo,sL (vL g ws) c b bb oo->∃blk,qS H wh.id=some blk/\sL g wh.id blk bb oo:=by
  intro c b wh z hw bb oo ho;cases wh with
  |box i u x toks off=>
   cases b with
   |cells t y ts=>
    obtain⟨Q,⟨y0,O,h3⟩,h4⟩:=hw;obtain⟨p,hp,e1,e2,e3⟩:=ho;have E:vK g ws[c]? =some p:=hp;rw[z] at E;obtain⟨p0,M,rfl⟩:=aF6.1 E;obtain⟨p1,cs,hk,R,_⟩:=hH.blk i _ Q;obtain⟨c1,c2,c3,hg,hl,I⟩:=CO R O;have l1:=t8 R;have l2:=t8 I;rw[hg] at l1;simp only[aFR] at l1;exact⟨_,Q,p0,M,e1,by simp at e2;omega,by simp at e3;omega⟩
   |_=>exact hw.elim
  |tok k=>
   cases b with
   |grow e cc m=>
    obtain⟨v,G,hb⟩:=ho;have D:AJ g ws[c]? m=some v:=G;rw[z] at D;exact⟨_,hw,v,D,hb⟩
   |map s t l=>
    obtain⟨p,hp,hb⟩:=ho;have E:vK g ws[c]? =some p:=hp;rw[z] at E;exact⟨_,hw.1,p,E,hb⟩
   |row e t l m=>
    obtain⟨v,G,hb⟩:=ho;have D:AJ g ws[c]? m=some v:=G;rw[z] at D;exact⟨_,hw.1,v,D,hb⟩
   |_=>exact hw.elim
 refine⟨fun c b h=>?_,fun c c' b b' bb oo hne Q O o1 o2=>?_,hH.sl,hH.tab.1,fun c b bb oo h ho=>?_⟩
 rotate_right
 .obtain⟨wh,z,hw⟩:=wsL c b h;obtain⟨k1,g1,p1⟩:=own c b wh z hw bb oo ho;exact hH.tab.2 _ _ bb oo g1 p1
 .obtain⟨wh,z,hw⟩:=wsL c b h;cases wh with
  |box i u x toks off=>
   cases b with
   |cells t y ts=>
    obtain⟨Q,⟨y0,O,h3⟩,h4⟩:=hw;obtain⟨p,cs,hp,R,hc,U,hd,ha⟩:=hH.blk i _ Q;obtain⟨c1,c2,c3,rfl,rfl,I⟩:=CO R O;have l1:=t8 R;have l2:=t8 I;simp only[aFR] at l1;refine⟨⟨p.1,p.2+c1.length,p.3⟩,c2,?_,a5w h3 I,fun j v G=>?_,⟨fun j hj=>?_,fun h0 s hs=>U.2 pT s hs⟩,fun j hj hs=>?_,fun q n F=>?_⟩
    .show vK g ws[c]? =_;rw[z];simp [vK,hp]
    .have:=hc (c1.length+j) v (by
      have he:=(aF5.1 G).1;rw[aF3,aFZ pT,aGB,aF9 he];exact G)
     rw[aGv];exact this
    .have:=U.1 (c1.length+j) pT;rw[aGv];exact this
    .exact hd (c1.length+j) pT (by rw[<-aGv];exact hs)
    .obtain⟨k,k1,k2,k3⟩:=h4 q n F;have X:(c1.length+q,k)∈toks:=Ni k2;obtain⟨u',l,v,g1,g2,g3⟩:=ha _ _ X;refine⟨u',l,v,a5x h3 (a5y O g1 k3),?_,?_⟩
     .rw[aF3,aFZ pT,aGB,aF9 pT] at g2;exact g2
     .show AJ g ws[n]? _=_;rw[k1];exact g3
   |_=>exact hw.elim
  |tok k=>
   cases b with
   |grow e cc m=>
    have e1:(vL g ws).cur c=g.cur k:=by
     funext n;show AJ g ws[c]? n=_;rw[z];rfl
    obtain⟨v,xs,G,hr,Y,hs⟩:=hH.blk k _ hw;exact⟨v,xs,by rw[e1];exact G,hr,fun m F=>by rw[e1];exact Y m F,hs⟩
   |map s t l=>
    obtain⟨p,es,cl,hp,M,hh,hM,hS⟩:=hH.blk k _ hw.1;refine⟨p,es,cl,?_,M,hh,RZ (g:=g) (g':=vL g ws) rfl hw.2.1 hw.2.2 hM,hS⟩;show vK g ws[c]? =_;rw[z];exact hp
   |row e t l m=>
    have e1:(vL g ws).cur c=g.cur k:=by
     funext n;show AJ g ws[c]? n=_;rw[z];rfl
    obtain⟨hl,v,xs,G,hr,hF,Y,hs⟩:=hH.blk k _ hw.1;exact⟨hl,v,xs,by rw[e1];exact G,hr,DA (fun _ _ h=>wG (g:=g) (g':=vL g ws) rfl hw.2 h) hF,fun m F=>by rw[e1];exact Y m F,hs⟩
   |_=>exact hw.elim
 obtain⟨wh,z,hw⟩:=wsL c b Q;obtain⟨wh',K,Z⟩:=wsL c' b' O;obtain⟨k1,g1,p1⟩:=own c b wh z hw bb oo o1;obtain⟨k2,g2,p2⟩:=own c' b' wh' K Z bb oo o2;exact hH.dis wh.id wh'.id k1 k2 bb oo (fun e=>hne (XL hm.nodup z K e)) g1 g2 p1 p2
def Nj {H:sJ}{ws more:List rY}: ∀{wh:rY}{b:qP},XI H ws wh b->XI H (ws++more) wh b
 | .box _ _ _ _ _,.cells _ _ _,⟨z,j,h4⟩=>⟨z,j,fun q n h=>let ⟨k,k1,k2⟩:=h4 q n h;⟨k,by rw[aF9 (aF5.1 k1).1];exact k1,k2⟩⟩
 | .box _ _ _ _ _,.grow _ _ _,h=>h.elim
 | .box _ _ _ _ _,.dead,h=>h.elim
 | .box _ _ _ _ _,.row _ _ _ _,h=>h.elim
 | .box _ _ _ _ _,.map _ _ _,h=>h.elim
 | .box _ _ _ _ _,.iter _ _,h=>h.elim
 | .tok _,.iter _ _,h=>h.elim
 | .tok _,.row _ _ _ _,h=>h
 | .tok _,.grow _ _ _,h=>h
 | .tok _,.map _ _ _,h=>h
 | .tok _,.cells _ _ _,h=>h.elim
 | .tok _,.dead,h=>h.elim
def MW (g:Gh) (w:qD) (ws more:List rY):Le (vL g ws) w (vL g (ws++more)) w:=by
 refine⟨fun _ _ h=>h,fun _ _ _=>rfl,fun c p h=>?_,fun c n v h=>?_⟩
 .have j:vK g ws[c]? =some p:=h;show vK g (ws++more)[c]? =some p;cases z:ws[c]? with
  |none=>rw[z] at j;cases j
  |some wh=>rw[aF9 (aF5.1 z).1];exact j
 have j:AJ g ws[c]? n=some v:=h;show AJ g (ws++more)[c]? n=some v;cases z:ws[c]? with
 |none=>rw[z] at j;cases j
 |some wh=>rw[aF9 (aF5.1 z).1];exact j
def MX {g g':Gh}{w w':qD}(h:Le g w g' w'): ∀{ss:List qQ}{vs:q8},vJ g w ss vs->vJ g' w' ss vs
 |[],_,r=>r
 |_::_,_,⟨v,vs',e,r1,r2⟩=>⟨v,vs',e,EC h r1,MX h r2⟩
def F7 {g:Gh}{w:qD}: ∀{ss:List qQ}{vs:q8}{s:qQ}{v:qE},vJ g w ss vs->rX g w s v->vJ g w (ss++[s]) (vs++[v])
 |[],_,_,_,h,k=>by rw[show _=[] from h];exact⟨_,_,rfl,k,rfl⟩
 |_::_,_,_,_,⟨v,vs',e,r1,r2⟩,k=>⟨v,vs'++_,by rw[e];rfl,r1,F7 r2 k⟩
def IA.tok {H:sJ}{ws:List rY}{L:List qP}(h:IA H ws L) {k:Nat}{b0:qP}(E:XI H (ws++[.tok k]) (.tok k) b0) (D:k∉sP ws):IA H (ws++[.tok k]) (L++[b0]):=by
 refine⟨by simp [h.len],fun i wh b j z=>?_,?_⟩
 .by_cases hi:i<ws.length
  .rw[aF9 hi] at j;rw[aF9 (h.len▸hi)] at z;exact Nj (h.ok i wh b j z)
  rw[aFZ pT] at j;rw[aFZ (by rw[<-h.len];omega),<-h.len] at z;obtain⟨d,F⟩: ∃d,i-ws.length=d:=⟨_,rfl⟩;rw[F] at j z;cases d with
  |zero=>
   simp only[aGo,aFO] at j z;subst j;subst z;exact E
  |succ d=>simp at j
 rw[K6];exact List.nodup_append.2 ⟨h.nodup,by simp [sP],fun a G b hb=>by
  simp only[sP,rY.id,aF7] at hb;subst hb;intro e;exact D (e▸G)⟩
def Nk: ∀{os:qC}{n q m:Nat},(q,m)∈LY os n->∃j:Nat,os[j]? =some q/\m=n+j
 |[],_,_,_,h=>by simp [LY] at h
 |q'::os,n,q,m,h=>by
  simp only[LY,aF1,aGi] at h;rcases h with⟨rfl,rfl⟩ |h
  .exact⟨0,rfl,rfl⟩
  obtain⟨j,z,D⟩:=Nk h;exact⟨j+1,by simpa using z,pT⟩
def Nl {n:Nat}: ∀{os:qC}{j q:Nat},OO n os=true->os[j]? =some q->q<n
 |[],_,_,_,h=>by simp at h
 |q'::os,0,q,h,z=>by
  simp only[OO,aF0,aFY] at h;simp only[aGo,aFO] at z;exact z▸h.1
 |q'::os,j+1,q,h,z=>by
  simp only[OO,aF0] at h;exact Nl h.2 (by simpa using z)
def XM {H:sJ}{toks:pY}{o:Nat}: ∀{os:qC}{a a':tC},zL H toks o os (some a)=some a'->
  ∃(ks:qC) (bs:List qP),ks.length=os.length/\bs.length=os.length/\a'.args=a.args/\a'.H.reverse=a.H.reverse++bs/\a'.ws.reverse=a.ws.reverse++ks.map rY.tok/\a'.n=a.n+os.length/\
   (∀(j:Nat) q k,os[j]? =some q->ks[j]? =some k->xV toks (o+q)=some k)/\(∀(j:Nat) k b,ks[j]? =some k->bs[j]? =some b->qS H k=some b/\∃e c m,b= .grow e c m)/\(∀k∈ks,k∉sP a.ws.reverse)/\ks.Nodup
 |[],a,a',h=>by
  simp only[zL,aFO] at h;subst h;exact⟨[],[],rfl,rfl,rfl,by simp,by simp,rfl,by simp,by simp,by simp,by simp⟩
 |q::os,a,a',h=>by
  simp only[zL] at h;have none_no: ∀os,zL H toks o os none=none:=by
   intro os
   induction os with
   |nil=>rfl
   |cons q os ih=>
    have:AC H (xV toks (o+q)) none=none:=by
     cases xV toks (o+q) with
     |none=>rfl
     |some k=>simp only[AC];cases qS H k with
      |none=>rfl
      |some b=>cases b<;>rfl
    simp only[zL,this,ih]
  cases F:xV toks (o+q) with
  |none=>rw[F] at h;simp only[AC,none_no] at h;cases h
  |some k=>
   rw[F] at h;simp only[AC] at h;cases hb:qS H k with
   |none=>rw[hb] at h;simp only[D0,none_no] at h;cases h
   |some b=>
    rw[hb] at h;cases b with
    |grow e c m=>
     simp only[D0] at h;by_cases hm:AT k (sP a.ws)=true
     .rw[aFP hm,none_no] at h;cases h
     .rw[aFQ hm] at h;obtain⟨ks,bs,U,R,h3,h4,K,Q,O,M,G,I⟩:=XM h;simp only[aGz] at h4 K G;have E: ∀ws:List rY,∀i,i∈sP ws.reverse↔i∈sP ws:=by
       intro ws i
       induction ws with
       |nil=>simp
       |cons x r ih=>rw[aGz,K6];simp [sP,ih,or_comm]
      refine⟨k::ks,.grow e c m::bs,by simp [U],by simp [R],h3,by rw[h4];simp,by rw[K];simp,by rw[Q];simp;omega,fun j q' k'=>?_,fun j k' b'=>?_,fun k' D=>?_,?_⟩
      .cases j with
       |zero=>intro e1 e2;simp only[aGo,aFO] at e1 e2;subst e1;subst e2;exact F
       |succ j=>intro e1 e2;exact O j q' k' (by simpa using e1) (by simpa using e2)
      .cases j with
       |zero=>intro e1 e2;simp only[aGo,aFO] at e1 e2;subst e1;subst e2;exact⟨hb,_,_,_,rfl⟩
       |succ j=>intro e1 e2;exact M j k' b' (by simpa using e1) (by simpa using e2)
      .rcases aF1.1 D with rfl|D
       .rw[E];exact fun z=>hm (IB.2 z)
       intro z;exact G k' D (by rw[K6];exact List.mem_append_left _ z)
      .refine List.nodup_cons.2 ⟨fun z=>G k z (by rw[K6];simp [sP,rY.id]),I⟩
    |cells t y ts=>simp only[D0,none_no] at h;cases h
    |row=>simp only[D0,none_no] at h;cases h
    |map=>simp only[D0,none_no] at h;cases h
    |iter=>simp only[D0,none_no] at h;cases h
    |dead=>simp only[D0,none_no] at h;cases h
def Nm: ∀ks:qC,sP (ks.map rY.tok)=ks
 |[]=>rfl
 |k::ks=>by simp [sP,rY.id,Nm ks]
def IA.box {H:sJ}{ws:List rY}{L:List qP}(h:IA H ws L) {t u:Ty}{x:u.den}{y:t.den}{toks:pY}{i o:Nat}{os ks:qC}{bs:List qP}(hi:qS H i=some (.cells u x toks)) (R:rH t u x o=some y) (I:OO t.cells os=true) (U:i∉sP ws)
  (Q:ks.length=os.length) (h2:bs.length=os.length) (h7: ∀(j:Nat) q k,os[j]? =some q->ks[j]? =some k->xV toks (o+q)=some k) (Z: ∀(j:Nat) k b,ks[j]? =some k->bs[j]? =some b->qS H k=some b/\∃e c m,b= .grow e c m) (Y: ∀k∈ks,k∉sP (ws++[.box i u x toks o])) (M:ks.Nodup):
  IA H ((ws++[.box i u x toks o])++ks.map rY.tok) ((L++[.cells t y (LY os (ws.length+1))])++bs):=by
 have z:(ws++[rY.box i u x toks o]).length=ws.length+1:=by simp
 have D:(L++[qP.cells t y (LY os (ws.length+1))]).length=ws.length+1:=by simp [h.len]
 refine⟨by simp [h.len,Q,h2],fun c wh b e1 e2=>?_,?_⟩
 .by_cases O:c<ws.length
  .rw[aF9 pT,aF9 O] at e1;rw[aF9 pT,aF9 (h.len▸O)] at e2;rw[aF3];exact Nj (h.ok c wh b e1 e2)
  by_cases K:c=ws.length
  .subst K;rw[aF9 pT,aFZ (aGc _),aHm] at e1;rw[aF9 pT,aFZ (by rw[h.len];exact aGc _),h.len,aHm] at e2;simp only[aGo,aFO] at e1 e2;subst e1;subst e2;refine⟨hi,R,fun q n hm=>?_⟩;rw[<-h.len] at hm;obtain⟨j,F,rfl⟩:=Nk hm;have E:j<ks.length:=by rw[Q];exact(aF5.1 F).1
   refine⟨ks[j],?_,h7 j q _ F (aFW E),Nl I F⟩;rw[aFZ pT,z,show ws.length+1+j- (ws.length+1)=j from by omega];simp [E]
  rw[aFZ pT,z] at e1;rw[aFZ pT,D] at e2;rw[List.getElem?_map] at e1;obtain⟨k,V,rfl⟩:=aF6.1 e1;obtain⟨X,e,cc,m,rfl⟩:=Z _ k b V e2;exact X
 rw[K6,Nm];refine List.nodup_append.2 ⟨?_,M,fun a G b hb e=>Y b hb (e▸G)⟩;rw[K6];exact List.nodup_append.2 ⟨h.nodup,by simp [sP],fun a G b hb=>by
  simp only[sP,rY.id,aF7] at hb;subst hb;intro e;exact U (e▸G)⟩
def SA (ws:List rY) (i:Nat):i∈sP ws.reverse↔i∈sP ws:=by
 induction ws with
 |nil=>simp
 |cons x r ih=>rw[aGz,K6];simp [sP,ih,or_comm]
structure CR (g:Gh) (w:qD) (H:sJ) (vals:q8) (a:tC):Prop where
 n:a.n=a.ws.reverse.length
 m:IA H a.ws.reverse a.H.reverse
 args:vJ (vL g a.ws.reverse) w a.args.reverse vals
def a5A {g:Gh}{w:qD}{ws:List rY}{t:Ty}(hp:t.pure=true) {x:t.den}{v:qE}{k:qB}(h:rX g w (.val t x,k) v):rX (vL g ws) w (.val t x,none) v:=
 ⟨h.1.imp (fun⟨a,cs,e,q⟩=>⟨a,cs,e,wG (g:=g) (g':=vL g ws) rfl hp q⟩) (fun⟨a,q⟩=>⟨a,wG (g:=g) (g':=vL g ws) rfl hp q⟩),trivial⟩
def a5B {H:sJ}{k:qB}{a b:tC}{l m:List qQ}(h:AC H k (some ⟨l,a.H,a.ws,a.n⟩)=some b):b.args=l/\AC H k (some ⟨m,a.H,a.ws,a.n⟩)=some ⟨m,b.H,b.ws,b.n⟩:=by
 cases k with
 |none=>cases h
 |some k=>
  simp only[AC] at h|-;cases hb:qS H k with
  |none=>rw[hb] at h;simp [D0] at h
  |some bl=>
   rw[hb] at h;cases bl with
   |grow e c n=>
    simp only[D0] at h|-;split at h
    .cases h
    .rename_i j;rw[aFQ j];cases h;exact⟨rfl,rfl⟩
   |_=>simp [D0] at h
def Nn {H:sJ}{toks:pY}{o:Nat}{m:List qQ}: ∀{os:qC}{a b:tC},zL H toks o os (some a)=some b->b.args=a.args/\zL H toks o os (some ⟨m,a.H,a.ws,a.n⟩)=some ⟨m,b.H,b.ws,b.n⟩
 |[],a,b,h=>by simp only[zL,aFO] at h;subst h;exact⟨rfl,rfl⟩
 |q::os,a,b,h=>by
  simp only[zL] at h|-;have none_no: ∀os,zL H toks o os none=none:=by
   intro os
   induction os with
   |nil=>rfl
   |cons q os ih=>
    have:AC H (xV toks (o+q)) none=none:=by
     cases xV toks (o+q) with
     |none=>rfl
     |some k=>simp only[AC];cases qS H k with
      |none=>rfl
      |some b=>cases b<;>rfl
    simp only[zL,this,ih]
  cases hm:AC H (xV toks (o+q)) (some a) with
  |none=>rw[hm,none_no] at h;cases h
  |some c=>
   rw[hm] at h;obtain⟨z,j⟩:=a5B (a:=a) (l:=a.args) (m:=m) hm;obtain⟨h3,h4⟩:=Nn (m:=m) h;rw[j];exact⟨h3.trans z,h4⟩
def a5C {H:sJ}{t:Ty}{os:qC}{i o:Nat}{a b:tC}{m:List qQ}(h:wD H t os i o a (qS H i)=some b):wD H t os i o ⟨m,a.H,a.ws,a.n⟩ (qS H i)=some ⟨(.val .ref (some (a.n,0)),none)::m,b.H,b.ws,b.n⟩:=by
 cases hb:qS H i with
 |none=>rw[hb] at h;simp [wD] at h
 |some bl=>
  rw[hb] at h;cases bl with
  |cells u x toks=>
   simp only[wD] at h|-;cases j:rH t u x o with
   |none=>rw[j] at h;simp [G9] at h
   |some y=>
    rw[j] at h;simp only[G9] at h|-;split at h
    .rename_i z;rw[aFP z];exact(Nn (m:=(.val .ref (some (a.n,0)),none)::m) h).2
    .cases h
  |_=>simp [wD] at h
def No {g:Gh}{i o:Nat}{p:Pl}{v:qE}: ∀{l:pY}{vs:q8},zE g l vs->g.J i=some p->v= .pointer (some ⟨p.1,p.2+o,none⟩)->zE g (l++[(i,o)]) (vs++[v])
 |[],vs,h,hp,j=>by rw[show vs=[] from h];exact⟨p,[],hp,by rw[j];rfl,rfl⟩
 |(_,_)::l,vs,⟨q,vs',D,z,h3⟩,hp,j=>⟨q,vs'++[v],D,by rw[z];rfl,No h3 hp j⟩
def jn {α:Type}: ∀(l acc:List α),zT l acc=l.reverse++acc
 |[],_=>rfl
 |x::l,acc=>by simp [zT,jn l]
def Np {g:Gh}{w:qD}{H:sJ}(hH:sO g w H) {t:Ty}{os:qC}{i o:Nat}{vals:q8}{a a':tC}(j:CR g w H vals a) {p:Pl}(hp:g.J i=some p) (h:wD H t os i o a (qS H i)=some a'):
  CR g w H vals ⟨a.args,a'.H,a'.ws,a'.n⟩/\∃more,a'.ws.reverse=a.ws.reverse++more/\a'.args=(.val .ref (some (a.n,0)),none)::a.args/\(vL g a'.ws.reverse).J a.n=some ⟨p.1,p.2+o,p.3⟩:=by
 cases hb:qS H i with
 |none=>rw[hb] at h;simp [wD] at h
 |some b=>
  rw[hb] at h;cases b with
  |cells u x toks=>
   simp only[wD] at h;cases E:rH t u x o with
   |none=>rw[E] at h;simp [G9] at h
   |some y=>
    rw[E] at h;simp only[G9] at h;split at h
    .rename_i F;simp only[aF0,aGj] at F;obtain⟨ks,bs,O,U,h3,h4,D,M,R,Q,K,I⟩:=XM h;simp only[aGz] at h3 h4 D M K;have G:i∉sP a.ws.reverse:=fun z=>by
      have:=IB.2 ((SA _ _).1 z);rw[F.2] at this;cases this
     have e5:a'.ws.reverse=a.ws.reverse++([rY.box i u x toks o]++ks.map rY.tok):=by rw[D];simp only[aF3]
     refine⟨⟨by rw[M];simp only;rw[D,j.n];simp [O];omega,?_,?_⟩,_,e5,h3,?_⟩
     .simp only;rw[h4,D,j.n];exact j.m.box hb E F.1 G O U R Q K I
     .simp only;rw[e5];exact MX (MW g w _ _) j.args
     show vK g a'.ws.reverse[a.n]? =_;rw[e5,j.n,aFZ (aGc _),aHm];show (g.J i).map _=_;rw[hp];rfl
    .cases h
  |grow=>simp [wD] at h
  |row=>simp [wD] at h
  |map=>simp [wD] at h
  |iter=>simp [wD] at h
  |dead=>simp [wD] at h
def Nq {H:sJ}{f:FuncId}{args0:List qQ}: ∀{ks:List (Ty×qC)}{cs ids:pY}{a a':tC},yK H f args0 ks cs ids (some a)=some a'->∃s more,a'.args=s::args0/\a'.ws.reverse=a.ws.reverse++more
 |[],[],ids,a,a',h=>by
  simp only[yK,aFO] at h;subst h;exact⟨_,[],rfl,by simp⟩
 |[],_::_,_,_,_,h=>by simp [yK] at h
 |_::_,[],_,_,_,h=>by simp [yK] at h
 |(t,os)::ks,(i,o)::cs,ids,a,a',h=>by
  simp only[yK] at h;cases hb:wD H t os i o a (qS H i) with
  |none=>rw[hb] at h;cases ks<;>cases cs<;>simp [yK] at h
  |some b=>
   rw[hb] at h;obtain⟨s,more,D,z⟩:=Nq h;obtain⟨more0,h3⟩: ∃more0,b.ws.reverse=a.ws.reverse++more0:=by
    unfold wD at hb;split at hb
    .unfold G9 at hb;split at hb
     .split at hb
      .obtain⟨ks,bs,_,_,_,_,j,_⟩:=XM hb;exact⟨_,by rw[j];simp only[aGz];exact aF3 ..⟩
      cases hb
     cases hb
    cases hb
   exact⟨s,more0++more,D,by rw[z,h3,aF3]⟩
def Nr {g:Gh}{w:qD}{H:sJ}(hH:sO g w H) {f:FuncId}{args0:List qQ}{vals:q8}: ∀{ks:List (Ty×qC)}{cs:pY}{ids:pY}{vs us:q8}{a a':tC},CR g w H vals ⟨args0,a.H,a.ws,a.n⟩->
  zE g cs vs->zE (vL g a.ws.reverse) ids.reverse us->yK H f args0 ks cs ids (some a)=some a'->
  CR g w H vals ⟨args0,a'.H,a'.ws,a'.n⟩/\∃ids',a'.args=(.val .clo (some (f,ids')),none)::args0/\(∃more,a'.ws.reverse=a.ws.reverse++more)/\zE (vL g a'.ws.reverse) ids' (us++vs)
 |[],[],ids,vs,us,a,a',D,K,z,h=>by
  simp only[yK,jn,List.append_nil,aFO] at h;subst h;rw[show vs=[] from K,List.append_nil];exact⟨D,_,rfl,⟨[],by simp⟩,z⟩
 |[],_::_,_,_,_,_,_,_,_,_,h=>by simp [yK] at h
 |_::_,[],_,_,_,_,_,_,_,_,h=>by simp [yK] at h
 |(t,os)::ks,(i,o)::cs,ids,vs,us,a,a',D,⟨p,vs',hp,F,E⟩,z,h=>by
  simp only[yK] at h;cases hb:wD H t os i o a (qS H i) with
  |none=>rw[hb] at h;cases ks<;>cases cs<;>simp [yK] at h
  |some b=>
   rw[hb] at h;have I:wD H t os i o ⟨args0,a.H,a.ws,a.n⟩ (qS H i)=some ⟨(.val .ref (some (a.n,0)),none)::args0,b.H,b.ws,b.n⟩:=a5C hb;obtain⟨q1,more,q2,q3,q4⟩:=Np hH D hp I;simp only at q1 q2 q3 q4;have j:=MW g w a.ws.reverse more;rw[<-q2] at j;have G:zE (vL g b.ws.reverse) ((a.n,0)::ids).reverse (us++[.pointer (some ⟨p.1,p.2+o,none⟩)]):=by
    simp only[aGz];exact No (gq j.J z) q4 pV
   obtain⟨z1,ids',z2,⟨more',z3⟩,z4⟩:=Nr hH (a:=b) q1 E G h;refine⟨z1,ids',z2,⟨more++more',by rw[z3,q2,aF3]⟩,?_⟩;rw[F];rw[aF3] at z4;exact z4
def Ns {g:Gh}{w:qD}{H:sJ}(hH:sO g w H) {p:PK}{s:qQ}{v:qE}{vals:q8}{a a':tC}(j:CR g w H vals a) (hs:rX g w s v) (h:yM H a p s=some a'):CR g w H (vals++[v]) a':=by
 unfold yM at h;split at h
 .rename_i f k;simp only[VA,aFO] at h;subst h;refine⟨j.n,j.m,?_⟩;simp only[aGz];refine F7 j.args ⟨?_,trivial⟩;rcases hs.1 with⟨F,_⟩ |⟨F,vs,G,h3⟩
  .cases F
  rw[show vs=[] from G] at h3;exact .inr ⟨rfl,[],rfl,h3⟩
 .rename_i t x k _;simp only[V9] at h;split at h
  .rename_i hp;simp only[aFO] at h;subst h;refine⟨j.n,j.m,?_⟩;simp only[aGz];exact F7 j.args (a5A hp hs)
  cases h
 .simp only[VB,aFO] at h;subst h;refine⟨j.n,j.m,?_⟩;simp only[aGz];exact F7 j.args ⟨hs.1,trivial⟩
 .rename_i t x k;cases hb:qS H k with
  |none=>rw[hb] at h;simp [D1] at h
  |some b=>
   rw[hb] at h;cases b with
   |grow e c m=>
    simp only[D1] at h;split at h
    .rename_i D;simp only[aF0,aGj] at D;simp only[aFO] at h;subst h;have E:k∉sP a.ws.reverse:=fun z=>by
      have:=IB.2 ((SA _ _).1 z);rw[D.2] at this;cases this
     refine⟨by simp [j.n],by simpa using j.m.tok (b0:= .grow e c m) hb E,?_⟩;simp only[aGz];refine F7 (MX (MW g w _ _) j.args) (XF (g:=g) (g':=vL g (a.ws.reverse++[.tok k])) (k':=some a.n) rfl D.1 (fun _ _=>⟨_,rfl⟩) hs (fun c' e1=>?_) (fun e1=>by cases e1));cases e1;refine⟨_,rfl,fun n u O=>?_⟩;show AJ g (a.ws.reverse++[rY.tok k])[a.n]? n=some u;rw[j.n,aFZ (aGc _),aHm];exact O
    .cases h
   |cells=>simp [D1] at h
   |row=>simp [D1] at h
   |map=>simp [D1] at h
   |iter=>simp [D1] at h
   |dead=>simp [D1] at h
 .rename_i t os i o k;obtain⟨p,hp,I⟩:=y6 hs.1;obtain⟨F,more,G,h3,h4⟩:=Np hH j hp h;refine⟨F.n,F.m,?_⟩;rw[h3];simp only[aGz];exact F7 F.args ⟨.inr ⟨rfl,_,h4,by rw[I];rfl⟩,trivial⟩
 .rename_i i k;cases hb:qS H i with
  |none=>rw[hb] at h;simp [D2] at h
  |some b=>
   rw[hb] at h;cases b with
   |map s t l=>
    simp only[D2] at h;split at h
    .rename_i D;simp only[aF0,aGj] at D;simp only[aFO] at h;subst h;have E:i∉sP a.ws.reverse:=fun z=>by
      have:=IB.2 ((SA _ _).1 z);rw[D.2] at this;cases this
     refine⟨by simp [j.n],by simpa using j.m.tok (b0:= .map s t l) ⟨hb,D.1.1,D.1.2⟩ E,?_⟩;simp only[aGz];obtain⟨p,hp,I⟩: ∃p,g.J i=some p/\v= .map (some p.1):=by
      obtain⟨p,F,e⟩:=y5 rfl hs.1;simp only[aGD,and_true] at e;exact⟨p,F,e⟩
     refine F7 (MX (MW g w _ _) j.args) ⟨.inr ⟨rfl,p,?_,by rw[I]⟩,trivial⟩;show vK g (a.ws.reverse++[rY.tok i])[a.n]? =_;rw[j.n,aFZ (aGc _),aHm];exact hp
    .cases h
   |cells=>simp [D2] at h
   |row=>simp [D2] at h
   |grow=>simp [D2] at h
   |iter=>simp [D2] at h
   |dead=>simp [D2] at h
 .rename_i k n k';cases hb:qS H k with
  |none=>rw[hb] at h;simp [yJ] at h
  |some b=>
   rw[hb] at h;cases b with
   |row e t l m=>
    simp only[yJ] at h;split at h
    .rename_i D;simp only[aF0,aGj] at D;simp only[aFO] at h;subst h;have E:k∉sP a.ws.reverse:=fun z=>by
      have:=IB.2 ((SA _ _).1 z);rw[D.2] at this;cases this
     refine⟨by simp [j.n],by simpa using j.m.tok (b0:= .row e t l m) ⟨hb,D.1⟩ E,?_⟩;simp only[aGz];obtain⟨F,G⟩:=hs.1;refine F7 (MX (MW g w _ _) j.args) ⟨⟨?_,G⟩,trivial⟩;show AJ g (a.ws.reverse++[rY.tok k])[a.n]? n=_;rw[j.n,aFZ (aGc _),aHm];exact F
    .cases h
   |cells=>simp [yJ] at h
   |grow e c m=>
    simp only[yJ] at h;split at h
    .rename_i D;simp only[aGj] at D;simp only[aFO] at h;subst h;have E:k∉sP a.ws.reverse:=fun z=>by
      have:=IB.2 ((SA _ _).1 z);rw[D] at this;cases this
     refine⟨by simp [j.n],by simpa using j.m.tok (b0:= .grow e c m) hb E,?_⟩;simp only[aGz];obtain⟨F,G⟩:=hs.1;refine F7 (MX (MW g w _ _) j.args) ⟨⟨?_,G⟩,trivial⟩;show AJ g (a.ws.reverse++[rY.tok k])[a.n]? n=_;rw[j.n,aFZ (aGc _),aHm];exact F
    .cases h
   |map=>simp [yJ] at h
   |iter=>simp [yJ] at h
   |dead=>simp [yJ] at h
 .rename_i ks f cs k';obtain⟨vs,M,K⟩: ∃vs,zE g cs vs/\v= .func (.func f) #[] vs.toArray:=by
   rcases hs.1 with⟨F,_⟩ |⟨_,vs,G,h3⟩
   .cases F
   simp only[aGD,and_true] at h3;exact⟨vs,G,h3⟩
  obtain⟨z1,ids',z2,_,z4⟩:=Nr hH (ids:=[]) (a:=a) (us:=[]) j M rfl h;refine⟨z1.n,z1.m,?_⟩;rw[z2];simp only[aGz];exact F7 z1.args ⟨.inr ⟨rfl,vs,by simpa using z4,by rw[K]⟩,trivial⟩
 .rename_i i o k;obtain⟨p,hp,I⟩:=y6 hs.1;rw[jn,List.append_nil] at h;cases D:EA i o a.ws.reverse 0 with
  |none=>rw[D] at h;cases h
  |some q=>
   obtain⟨c,q⟩:=q;rw[D] at h;simp only[R6,aFO] at h;subst h;obtain⟨d,u,x,toks,oc,rfl,G,rfl⟩:=P8 D;refine⟨j.n,j.m,?_⟩;simp only[aGz];refine F7 j.args ⟨.inr ⟨rfl,⟨p.1,p.2+oc,p.3⟩,?_,by rw[I];simp [aGv]⟩,trivial⟩;show vK g a.ws.reverse[0+d]? =_;rw[aGk,G];simp [vK,hp]
 cases h
def Nt {g:Gh}{w:qD}{H:sJ}(hH:sO g w H): ∀{ps:List PK}{ss:List qQ}{vs vals:q8}{a a':tC},CR g w H vals a->vJ g w ss vs->yN H ps ss (some a)=some a'->CR g w H (vals++vs) a'
 |[],[],vs,vals,a,a',j,hs,h=>by
  simp only[yN,aFO] at h;subst h;rw[show vs=[] from hs,List.append_nil];exact j
 |p::ps,s::ss,vs,vals,a,a',j,⟨v,vs',e,D,z⟩,h=>by
  simp only[yN] at h;cases ho:yM H a p s with
  |none=>rw[ho] at h;cases ps<;>cases ss<;>simp [yN] at h
  |some a1=>
   rw[ho] at h;have:=Nt hH (Ns hH j D ho) z h;rw[e];simpa using this
 |[],_::_,_,_,_,_,_,_,h=>by simp [yN] at h
 |_::_,[],_,_,_,_,_,_,h=>by simp [yN] at h
def CR.nil (g:Gh) (w:qD) (H:sJ):CR g w H [] ⟨[],[],[],0⟩:=
 ⟨rfl,⟨rfl,fun c wh b h _=>by simp at h,by simp [sP]⟩,rfl⟩
def Nu: ∀(l:List qP) (n:Nat),JP l n=l[n]?
 |[],_=>by simp [JP]
 |_::_,0=>rfl
 |_::r,n+1=>by simpa[JP] using Nu r n
def a5D {g:Gh}{w:qD}: ∀{t:Ty}{x:t.den}{cs:q8}{o:Nat}{y:q9},Rd g w t x cs->D3 t x o=some y->∃cs',CN g y cs':=by
 intro t
 induction t with
 |pair a b iha ihb=>
  intro x cs o y r h;obtain⟨c1,c2,_,r1,r2⟩:=r;simp only[D3] at h;split at h
  .exact iha r1 h
  .exact ihb r2 h
 |rl e u=>
  intro x cs o y r h;cases o with
  |zero=>simp only[D3,aFO] at h;subst h;exact⟨cs,r⟩
  |succ o=>simp [D3] at h
 |_=>intro x cs o y r h;cases o<;>simp [D3] at h
def a5E {g:Gh}{w:qD}{H:sJ}(hH:sO g w H) {vals:q8}{a:tC}(K:CR g w H vals a) (c q:Nat) (pk:PK): ∃v,rX g w (LZ q pk (JP a.H c)) v:=by
 rw[Nu];have any: ∃v,rX g w (.any,none) v:=⟨undef,trivial,trivial⟩;cases hb:a.H[c]? with
 |none=>cases pk<;>exact any
 |some b=>
  cases b with
  |cells t y ts=>
   have U:c<a.H.length:=(aF5.1 hb).1;have I:a.H.reverse[a.H.length-1-c]? =some (.cells t y ts):=by
    rw[List.getElem?_reverse pT,show a.H.length-1- (a.H.length-1-c)=c by omega];exact hb
   obtain⟨wh,F⟩: ∃wh,a.ws.reverse[a.H.length-1-c]? =some wh:=by
    have hl:=K.m.len;simp only[List.length_reverse] at hl;exact⟨_,aFW (by rw[List.length_reverse];omega)⟩
   have hw:=K.m.ok _ wh _ F I;cases wh with
   |tok k=>exact hw.elim
   |box i u x toks off=>
    obtain⟨R,Q,_⟩:=hw;obtain⟨p,cs,hp,O,_⟩:=hH.blk i _ R;obtain⟨c1,c2,c3,V,hl,D⟩:=CO O Q;cases pk with
    |p t' os=>
     simp only[LZ];cases E:rH .ref t y q with
     |none=>exact any
     |some z=>
      cases z with
      |none=>exact any
      |some z=>
       obtain⟨d1,d2,d3,_,_,h⟩:=CO D E;obtain⟨p',j,e⟩:=h;exact⟨_,.inr ⟨rfl,p',j,rfl⟩,trivial⟩
    |m=>
     simp only[LZ];cases E:rH .mp t y q with
     |none=>exact any
     |some z=>
      cases z with
      |none=>exact any
      |some z=>
       obtain⟨d1,d2,d3,_,_,h⟩:=CO D E;obtain⟨p',j,e⟩:=h;exact⟨_,.inr ⟨rfl,p',j,rfl⟩,trivial⟩
    |v=>exact any
    |own=>exact any
    |f ks=>exact any
    |q=>exact any
    |r=>
     simp only[LZ];cases E:D3 t y q with
     |none=>exact any
     |some z=>
      cases z with
      |none=>exact any
      |some z=>
       obtain⟨cs',h⟩:=a5D D E;obtain⟨v,M,_,G⟩:=h;exact⟨v,⟨M,G⟩,trivial⟩
  |_=>cases pk<;>exact any
def Nv {g:Gh}{w:qD}{H:sJ}(hH:sO g w H) {vals:q8}: ∀{gs:List (Nat×Nat×PK)}{a a':tC},CR g w H vals a->CG H gs (some a)=some a'->CR g w H vals a'
 |[],a,a',z,h=>by
  simp only[CG,aFO] at h;subst h;exact z
 |(c,q,pk)::gs,a,a',z,h=>by
  simp only[CG] at h;obtain⟨v,D⟩:=a5E hH z (a.n-1-c) q pk;cases hp:yM H a pk (LZ q pk (JP a.H (a.n-1-c))) with
  |none=>
   rw[hp] at h;simp only[OP] at h;cases gs<;>simp [CG] at h
  |some b=>
   rw[hp] at h;simp only[OP] at h;have hb:=Ns hH z D hp;refine Nv hH (a:=⟨a.args,b.H,b.ws,b.n⟩) ⟨hb.n,hb.m,?_⟩ h;obtain⟨s,more,e1,e2⟩: ∃s more,b.args=s::a.args/\b.ws.reverse=a.ws.reverse++more:=by
    have j:=hp;unfold yM at j;split at j
    .simp only[VA,aFO] at j;subst j;exact⟨_,[],rfl,by simp⟩
    .simp only[V9] at j;split at j
     .simp only[aFO] at j;subst j;exact⟨_,[],rfl,by simp⟩
     cases j
    .simp only[VB,aFO] at j;subst j;exact⟨_,[],rfl,by simp⟩
    .unfold D1 at j;split at j
     .split at j
      .simp only[aFO] at j;subst j;exact⟨_,[_],rfl,aGz ..⟩
      cases j
     cases j
    .unfold wD at j;split at j
     .unfold G9 at j;split at j
      .split at j
       .obtain⟨ks,bs,_,_,h3,_,E,_⟩:=XM j;exact⟨_,_,h3,by rw[E];simp only[aGz];exact aF3 ..⟩
       cases j
      cases j
     cases j
    .unfold D2 at j;split at j
     .split at j
      .simp only[aFO] at j;subst j;exact⟨_,[_],rfl,aGz ..⟩
      cases j
     cases j
    .unfold yJ at j;split at j
     .split at j
      .simp only[aFO] at j;subst j;exact⟨_,[_],rfl,aGz ..⟩
      cases j
     .split at j
      .simp only[aFO] at j;subst j;exact⟨_,[_],rfl,aGz ..⟩
      cases j
     cases j
    .exact Nq j
    .unfold R6 at j;split at j
     .simp only[aFO] at j;subst j;exact⟨_,[],rfl,by simp⟩
     cases j
    cases j
   rw[e2];exact MX (MW g w _ _) z.args
def a5F {b:Option qP}{l:Option (List qP)}{r:List qP}(h:de b l=some r): ∃b' l',b=some b'/\l=some l'/\r=b'::l':=by
 cases b<;>cases l<;>simp [de] at h
 exact⟨_,_,rfl,rfl,h.symm⟩
def Nw {W:List rY}: ∀{L0 L:List qP},JQ W L0=some L->L.length=L0.length/\∀(c:Nat) (b:qP),L[c]? =some b->∃b0,L0[c]? =some b0/\M0 W b0=some b
 |[],L,h=>by
  simp only[JQ,aFO] at h;subst h;exact⟨rfl,fun c b h=>by simp at h⟩
 |b0::L0,L,h=>by
  simp only[JQ] at h;obtain⟨b',l',D,z,rfl⟩:=a5F h;obtain⟨k1,k2⟩:=Nw z;refine⟨by simp [k1],fun c b j=>?_⟩;cases c with
  |zero=>simp only[aGo,aFO] at j;subst j;exact⟨b0,rfl,D⟩
  |succ c=>obtain⟨b1,q1,q2⟩:=k2 c b (by simpa using j);exact⟨b1,by simpa using q1,q2⟩
def IA.ren {H:sJ}{ws:List rY}{L0 L:List qP}(h:IA H ws L0) (G:JQ ws L0=some L):S9 H ws L:=by
 obtain⟨k1,k2⟩:=Nw G;refine⟨h.len.trans k1.symm,fun c wh b hw hb=>?_,h.nodup⟩;obtain⟨b0,q1,q2⟩:=k2 c b hb;have j:=h.ok c wh b0 hw q1;cases b0 with
 |cells t y ts=>
  cases wh with
  |tok k=>exact j.elim
  |box i u x toks o=>
   obtain⟨F,E,h3⟩:=j;simp only[M0] at q2;split at q2
   .rename_i hp;obtain rfl:=aFU q2;exact⟨F,⟨y,E,.inl ⟨hp,rfl⟩⟩,h3⟩
   .cases D:D4 ws t y with
    |none=>rw[D] at q2;cases q2
    |some z=>
     rw[D] at q2;obtain rfl:=aFU q2;exact⟨F,⟨y,E,.inr D⟩,h3⟩
 |_=>
  simp only[M0,aFO] at q2;subst q2;cases wh<;>exact j
theorem AK: ∀(W:List rY) (c:Nat),zU W c=W[c]?
  |[],c=>by simp [zU]
  |_::_,0=>rfl
  |_::W,c+1=>by simpa[zU] using AK W c
theorem Nx: ∀L:List qP,rI L=L.length
  |[]=>rfl
  |_::L=>by simp [rI,Nx L]
theorem Ny {α:Type}: ∀(l acc:List α),zT l acc=l.reverse++acc
  |[],_=>rfl
  |x::l,acc=>by simp [zT,Ny l]
theorem jo {a:Option (Nat×qP)}{b:Option (List (Nat×qP))}{l:List (Nat×qP)}(h:R9 a b=some l): ∃q r,a=some q/\b=some r/\l=q::r:=by
  cases a<;>cases b<;>simp [R9] at h
  exact⟨_,_,rfl,rfl,h.symm⟩
def K7 (base n:Nat) (W ws:List rY) (R:List qP) (c0:Nat) (id:Nat) (b:qP):Prop:=
  (∃(c:Nat) (i:Nat) (u:Ty) (x:u.den) (toks:pY) (o:Nat) (b0:qP),ws[c]? =some (.box i u x toks o)/\id=i/\R[c]? =some b0/\yO base n i o W u x toks b0=some (i,b))\/
  (∃(c k:Nat) (b0:qP),ws[c]? =some (.tok k)/\id=k/\R[c]? =some b0/\wU k b0=some (k,b))\/
  (∃(c:Nat) (b0:qP),R[c]? =some b0/\id=base+(c0+c)/\ws[c]? =none/\zB base n (c0+c) W b0=some (id,b))
theorem K7.succ {base n:Nat}{W:List rY}{wh:rY}{ws:List rY}{b0:qP}{R:List qP}{c0 id:Nat}{b:qP}(h:K7 base n W ws R (c0+1) id b):K7 base n W (wh::ws) (b0::R) c0 id b:=by
  rcases h with⟨c,i,u,x,toks,o,b1,z,j,h3,h4⟩ |⟨c,k,b1,z,j,h3,h4⟩ |⟨c,b1,z,j,h3,h4⟩
  .exact .inl ⟨c+1,i,u,x,toks,o,b1,by simpa using z,j,by simpa using h3,h4⟩
  .exact .inr (.inl ⟨c+1,k,b1,by simpa using z,j,by simpa using h3,h4⟩)
  exact .inr (.inr ⟨c+1,b1,by simpa using z,by rw[j];omega,by simpa using h3,by rw[show c0+(c+1)=c0+1+c from by omega];exact h4⟩)
theorem K7.succ0 {base n:Nat}{W:List rY}{b0:qP}{R:List qP}{c0 id:Nat}{b:qP}(h:K7 base n W [] R (c0+1) id b):K7 base n W [] (b0::R) c0 id b:=by
  rcases h with⟨c,i,u,x,toks,o,b1,j,_⟩ |⟨c,k,b1,j,_⟩ |⟨c,b1,j,z,h3,h4⟩
  .simp at j
  .simp at j
  exact .inr (.inr ⟨c+1,b1,by simpa using j,by rw[z];omega,by simp,by rw[show c0+(c+1)=c0+1+c from by omega];exact h4⟩)
theorem Nz {i:Nat}{t:Ty}{ts:pY}{o:Option t.den}{q:Nat×qP}(h:Jv i t ts o=some q): ∃y,o=some y/\q=(i,.cells t y ts):=by
  cases o with
  |none=>cases h
  |some y=>exact⟨y,rfl,(aFU h).symm⟩
theorem a5G {base n c:Nat}{W:List rY}{b:qP}{q:Nat×qP}(h:zB base n c W b=some q):q.1=base+c:=by
  cases b<;>simp only[zB] at h
  · split at h
    .exact(aFU h)▸rfl
    obtain⟨y,_,rfl⟩:=Nz h;rfl
  .exact(aFU h)▸rfl
  · split at h
    .exact(aFU h)▸rfl
    cases h
  · split at h
    .exact(aFU h)▸rfl
    cases h
  .cases h
  exact(aFU h)▸rfl
def bY (base n:Nat) (W:List rY) (t:Ty) (x y:t.den):Prop:=(t.pure=true/\y=x)\/CH base n W t x=some y
theorem jp {base n i o:Nat}{W:List rY}{u t:Ty}{x:u.den}{y:t.den}{toks ts:pY}{q:Nat×qP}(h:yO base n i o W u x toks (.cells t y ts)=some q):
    ∃y2 z,bY base n W t y y2/\sT t y2 u x o=some z/\q=(i,.cells u z (rD (EZ base n W o ts) (tT toks o t.cells))):=by
  simp only[yO] at h;split at h
  · rename_i hp
    cases hs:sT t y u x o with
    |none=>rw[hs] at h;simp [VF] at h
    |some z=>rw[hs] at h;exact⟨y,z,.inl ⟨hp,rfl⟩,hs,(aFU h).symm⟩
  cases j:CH base n W t y with
  |none=>rw[j] at h;cases h
  | some y2=>
    rw[j] at h;simp only[Jw] at h;cases hs:sT t y2 u x o with
    |none=>rw[hs] at h;simp [VF] at h
    |some z=>rw[hs] at h;exact⟨y2,z,.inr j,hs,(aFU h).symm⟩
theorem a5H {k:Nat}{b:qP}{q:Nat×qP}(h:wU k b=some q):q.1=k:=by
  cases b<;>simp only[wU] at h
  .cases h
  .exact(aFU h)▸rfl
  · split at h
    .exact(aFU h)▸rfl
    cases h
  · split at h
    .exact(aFU h)▸rfl
    cases h
  .cases h
  exact(aFU h)▸rfl
theorem a5I {base n i o:Nat}{W:List rY}{u:Ty}{x:u.den}{toks:pY}{b:qP}{q:Nat×qP}(h:yO base n i o W u x toks b=some q):q.1=i:=by
  cases b with
  |cells t y ts=>obtain⟨y2,z,_,_,rfl⟩:=jp h;rfl
  |grow=>simp [yO] at h
  |row=>simp [yO] at h
  |map=>simp [yO] at h
  |iter=>simp [yO] at h
  |dead=>simp only[yO,aFO] at h;exact h▸rfl
theorem P9 {base n:Nat}{W:List rY}: ∀{ws:List rY}{R:List qP}{c0:Nat}{upd:List (Nat×qP)},CI base n W c0 ws R=some upd->
    ws.length<=R.length/\(∀id b,qS upd id=some b->K7 base n W ws R c0 id b)/\(∀id,id∈qU upd->∃b,qS upd id=some b)/\
    (∀(c:Nat) wh,ws[c]? =some wh->wh.id∈qU upd)/\(∀(c:Nat) b,R[c]? =some b->ws[c]? =none->base+(c0+c)∈qU upd)
  | [],[],_,upd,h=>by
    simp only[CI,aFO] at h;subst h;exact⟨aGc _,fun _ _ h=>by simp [qS] at h,fun _ h=>by simp [qU] at h,fun _ _ h=>by simp at h,fun _ _ h=>by simp at h⟩
  | [],b::R,c0,upd,h=>by
    simp only[CI] at h;obtain⟨q,r,z,E,rfl⟩:=jo h;obtain⟨k1,k2,k3,k4,k5⟩:=P9 E;have hq:=a5G z;obtain⟨q1,q2⟩:=q;simp only at hq;subst hq;refine⟨by simp,fun id b' j=>?_,fun id hi=>?_,fun c wh hw=>by simp at hw,fun c b' hb D=>?_⟩
    · simp only[qS] at j
      split at j
      · rename_i e
        obtain rfl:=aFU j;subst e;exact .inr (.inr ⟨0,b,rfl,rfl,by simp,z⟩)
      exact(k2 id b' j).succ0
    · simp only[qS]
      by_cases e:base+c0=id
      .rw[aFP e];exact⟨_,rfl⟩
      rw[aFQ e]
      simp only[qU,aF1] at hi;exact k3 id (hi.resolve_left (Ne.symm e))
    · cases c with
      |zero=>simp [qU]
      | succ c=>
        have:=k5 c b' (by simpa using hb) pV;simp only[qU,aF1];right;rw[show base+(c0+(c+1))=base+(c0+1+c) from by omega];exact this
  | .box i u x toks o::ws,[],c0,upd,h=>by simp [CI] at h
  | .tok k::ws,[],c0,upd,h=>by simp [CI] at h
  | .box i u x toks o::ws,b::R,c0,upd,h=>by
    simp only[CI] at h;obtain⟨q,r,z,E,rfl⟩:=jo h;obtain⟨k1,k2,k3,k4,k5⟩:=P9 E;have hq:=a5I z;obtain⟨q1,q2⟩:=q;simp only at hq;subst hq;refine⟨by simp;omega,fun id b' j=>?_,fun id hi=>?_,fun c wh hw=>?_,fun c b' hb D=>?_⟩
    · simp only[qS] at j
      split at j
      · rename_i e
        obtain rfl:=aFU j;subst e;exact .inl ⟨0,q1,u,x,toks,o,b,rfl,rfl,rfl,z⟩
      exact(k2 id b' j).succ
    · simp only[qS]
      by_cases e:q1=id
      .rw[aFP e];exact⟨_,rfl⟩
      rw[aFQ e]
      simp only[qU,aF1] at hi;exact k3 id (hi.resolve_left (Ne.symm e))
    · cases c with
      |zero=>simp only[aGo,aFO] at hw;subst hw;simp [qU,rY.id]
      |succ c=>simp only[qU,aF1];exact .inr (k4 c wh (by simpa using hw))
    · cases c with
      |zero=>simp at D
      | succ c=>
        have:=k5 c b' (by simpa using hb) (by simpa using D);simp only[qU,aF1];right;rw[show base+(c0+(c+1))=base+(c0+1+c) from by omega];exact this
  | .tok k::ws,b::R,c0,upd,h=>by
    simp only[CI] at h;obtain⟨q,r,z,E,rfl⟩:=jo h;obtain⟨k1,k2,k3,k4,k5⟩:=P9 E;have hq:=a5H z;obtain⟨q1,q2⟩:=q;simp only at hq;subst hq;refine⟨by simp;omega,fun id b' j=>?_,fun id hi=>?_,fun c wh hw=>?_,fun c b' hb D=>?_⟩
    · simp only[qS] at j
      split at j
      · rename_i e
        obtain rfl:=aFU j;subst e;exact .inr (.inl ⟨0,q1,b,rfl,rfl,rfl,z⟩)
      exact(k2 id b' j).succ
    · simp only[qS]
      by_cases e:q1=id
      .rw[aFP e];exact⟨_,rfl⟩
      rw[aFQ e]
      simp only[qU,aF1] at hi;exact k3 id (hi.resolve_left (Ne.symm e))
    · cases c with
      |zero=>simp only[aGo,aFO] at hw;subst hw;simp [qU,rY.id]
      |succ c=>simp only[qU,aF1];exact .inr (k4 c wh (by simpa using hw))
    cases c with
    |zero=>simp at D
    | succ c=>
      have:=k5 c b' (by simpa using hb) (by simpa using D);simp only[qU,aF1];right;rw[show base+(c0+(c+1))=base+(c0+1+c) from by omega];exact this
def u6 (g g':Gh) (base:Nat) (W:List rY) (ids:qC):Gh:=
  ⟨g'.S,fun i=>if base<=i/\i∈ids then g'.J (i-base) else match wE i W 0 with|some c=>g'.J c|none=>g.J i,
   fun i=>if base<=i/\i∈ids then g'.cur (i-base) else match wE i W 0 with|some c=>g'.cur c|none=>g.cur i⟩
theorem SB {n c:Nat}{wh:Option rY}:OQ n c wh=true↔c<n/\wh=none:=by
  cases wh with
  |none=>simp [OQ]
  |some wh=>simp [OQ]
theorem a5J {base n c i:Nat}{wh:Option rY}(h:AD base n c wh=some i):wh=some (.tok i)\/(wh=none/\c<n/\i=base+c):=by
  cases wh with
  | none=>
    simp only[AD] at h;split at h
    .rename_i j;exact .inr ⟨rfl,j,(aFU h).symm⟩
    .cases h
  | some wh=>
    cases wh with
    |box=>cases h
    |tok k=>simp only[AD,aFO] at h;subst h;exact .inl rfl
theorem XN {i:Nat}: ∀{ws:List rY}{c0:Nat},(∀c:Nat,ws[c]? ≠some (.tok i))->wE i ws c0=none
  |[],_,_=>rfl
  | .tok j::r,c0,h=>by
    simp only[wE];split
    .rename_i e;subst e;exact absurd rfl (h 0)
    .exact XN (fun c=>by have:=h (c+1);simpa using this)
  | .box _ _ _ _ _::r,c0,h=>by
    simp only[wE];exact XN (fun c=>by have:=h (c+1);simpa using this)
theorem a5K {i c:Nat}{ws:List rY}(z:(sP ws).Nodup) (h:ws[c]? =some (.tok i)):wE i ws 0=some c:=by
  cases D:wE i ws 0 with
  | none=>
    exfalso
    have: ∀{ws:List rY}{c0 c:Nat},ws[c]? =some (.tok i)->wE i ws c0≠none:=by
      intro ws
      induction ws with
      |nil=>intro c0 c h;simp at h
      | cons wh r ih=>
        intro c0 c h;cases c with
        | zero=>
          simp only[aGo,aFO] at h;subst h;simp [wE]
        | succ c=>
          simp only[aGC] at h;cases wh with
          |box=>exact ih h
          | tok j=>
            simp only[wE];split
            .simp
            exact ih h
    exact this h D
  | some d=>
    obtain⟨d',e1,E⟩:=K5 D;rw[aGk] at e1;subst e1;rw[XL z h E rfl]
theorem Fr.mono {A B:Nat->Nat->Prop}{w w':qD}{S S':Nat->Nat->Prop}(h:Fr A w w' S S') (j: ∀b o,A b o->B b o):Fr B w w' S S':=
  ⟨h.os,h.tape,h.output,h.size,fun b hb z=>h.blk b hb (fun o ho=>z o (j b o ho)),fun b o hb z=>h.cell b o hb (fun ho=>z (j b o ho)),fun b o hs=>(h.new b o hs).imp id (Or.imp id (j b o)),fun b s hs=>(h.shape b s hs).imp id fun h o=>j b o (h o)⟩
theorem XO {base n:Nat}{W:List rY}{o:Nat}: ∀{ts:pY}{q k:Nat},(q,k)∈EZ base n W o ts->∃q' c,(q',c)∈ts/\AD base n c (zU W c)=some k/\q=o+q'
  |[],_,_,h=>by simp [EZ] at h
  | (q',c)::r,q,k,h=>by
    simp only[EZ] at h;cases j:AD base n c (zU W c) with
    | none=>
      rw[j] at h;obtain⟨a,b,D,z⟩:=XO h;exact⟨a,b,aF2 _ D,z⟩
    | some k'=>
      rw[j] at h;rcases aF1.1 h with h|h
      · simp only[aGi] at h
        obtain⟨rfl,rfl⟩:=h;exact⟨q',c,by simp,j,rfl⟩
      obtain⟨a,b,D,z⟩:=XO h
      exact⟨a,b,aF2 _ D,z⟩
theorem xK {α:Type}{x:α}: ∀{l m:List α},x∈rD l m↔x∈l\/x∈m
  |[],m=>by simp [rD]
  |y::l,m=>by simp [rD,xK (l:=l),or_assoc]
theorem jq: ∀{toks:pY}{off n q k:Nat},(q,k)∈tT toks off n->(q,k)∈toks/\¬(off<=q/\q<off+n)
  |[],_,_,_,_,h=>by simp [tT] at h
  | (q',k')::r,off,n,q,k,h=>by
    simp only[tT] at h;split at h
    · obtain⟨z,j⟩:=jq h
      exact⟨aF2 _ z,j⟩
    rename_i D
    rcases aF1.1 h with h|h
    · cases h
      exact⟨by simp,D⟩
    obtain⟨z,j⟩:=jq h
    exact⟨aF2 _ z,j⟩
section
variable {g g':Gh}{w w':qD}{H:sJ}{W:List rY}{L:List qP}{r:r5}{v:qE}{base:Nat}{upd:List (Nat×qP)}
variable (hH:sO g w H) (hm:S9 H W L) (hr:GK (vL g W) w L r g' w' v) (hb:CI base r.H.length W 0 W r.H=some upd) (hf: ∀i,i∈qU upd->base<=i->g.J i=none/\∀n,g.cur i n=none)
include hH hm hr hb hf
theorem F8 {c:Nat}{wh:rY}(hw:W[c]? =some wh):wh.id∈qU upd/\wh.id<base/\∃b,L[c]? =some b/\XJ H W wh b:=by
  have F:=(P9 hb).2.2.2.1 c wh hw;have E:c<L.length:=hm.len▸(aF5.1 hw).1;have h:=hm.ok c wh _ hw (aFW E);refine⟨F,Nat.lt_of_not_le fun hle=>?_,_,aFW E,h⟩;have j:=hf _ F hle;cases wh with
  | box i u x toks o=>
    cases z:L[c] with
    | cells t y ts=>
      rw[z] at h;obtain⟨p,cs,hp,_⟩:=hH.blk i _ h.1;rw[show (rY.box i u x toks o).id=i from rfl] at j;rw[j.1] at hp;cases hp
    |_=>rw[z] at h;exact h.elim
  | tok k=>
    cases z:L[c] with
    | grow e cc m=>
      rw[z] at h;obtain⟨v,xs,D,_⟩:=hH.blk k _ h;rw[show (rY.tok k).id=k from rfl] at j;rw[j.2] at D;cases D
    | map s t l=>
      rw[z] at h;obtain⟨p,es,cl,hp,_⟩:=hH.blk k _ h.1;rw[show (rY.tok k).id=k from rfl] at j;rw[j.1] at hp;cases hp
    | row e t l m=>
      rw[z] at h;obtain⟨_,v,xs,D,_⟩:=hH.blk k _ h.1;rw[show (rY.tok k).id=k from rfl] at j;rw[j.2] at D;cases D
    |_=>rw[z] at h;exact h.elim
theorem a5L {c:Nat}(j:c<r.H.length) (h:W[c]? =none):base+c∈qU upd:=by
  have:=(P9 hb).2.2.2.2 c _ (aFW j) h;simpa using this
theorem MY {c:Nat}(z:c<r.H.length) (j:W[c]? =none):(u6 g g' base W (qU upd)).J (base+c)=g'.J c/\(u6 g g' base W (qU upd)).cur (base+c)=g'.cur c:=by
  have h:=a5L hH hm hr hb hf z j;refine⟨?_,?_⟩
  · show (if base<=base+c/\base+c∈qU upd then _ else _)=_
    rw[aFP ⟨pT,h⟩,aGB]
  show (if base<=base+c/\base+c∈qU upd then _ else _)=_
  rw[aFP ⟨pT,h⟩,aGB]
theorem Oa {i:Nat}(hi: ¬(base<=i/\i∈qU upd)) (h:wE i W 0=none):(u6 g g' base W (qU upd)).J i=g.J i/\(u6 g g' base W (qU upd)).cur i=g.cur i:=by
  refine⟨?_,?_⟩
  · show (if base<=i/\i∈qU upd then _ else _)=_
    rw[aFQ hi,h]
  show (if base<=i/\i∈qU upd then _ else _)=_
  rw[aFQ hi,h]
theorem Ob {c k:Nat}(hw:W[c]? =some (.tok k)):(u6 g g' base W (qU upd)).J k=g'.J c/\(u6 g g' base W (qU upd)).cur k=g'.cur c:=by
  have h:=(F8 hH hm hr hb hf hw).2.1;simp only[rY.id] at h;have j:=a5K hm.nodup hw;refine⟨?_,?_⟩
  · show (if base<=k/\k∈qU upd then _ else _)=_
    rw[aFQ pT,j]
  show (if base<=k/\k∈qU upd then _ else _)=_
  rw[aFQ pT,j]
theorem PA {c i:Nat}{u:Ty}{x:u.den}{toks:pY}{o:Nat}(hw:W[c]? =some (.box i u x toks o)):(u6 g g' base W (qU upd)).J i=g.J i/\(u6 g g' base W (qU upd)).cur i=g.cur i:=by
  have j:=(F8 hH hm hr hb hf hw).2.1;simp only[rY.id] at j;refine Oa hH hm hr hb hf pT (XN fun d h=>?_);have:=XL hm.nodup hw h rfl;subst this;rw[hw] at h;cases h
theorem IC {c i:Nat}(hi:AD base r.H.length c W[c]? =some i):(u6 g g' base W (qU upd)).J i=g'.J c/\(u6 g g' base W (qU upd)).cur i=g'.cur c:=by
  rcases a5J hi with h|⟨z,j,rfl⟩
  .exact Ob hH hm hr hb hf h
  exact MY hH hm hr hb hf j z
theorem Oc:Le g w (u6 g g' base W (qU upd)) w':=by
  have len: ∀{i c:Nat},wE i W 0=some c->W[c]? =some (.tok i)/\c<L.length:=by
    intro i c h;obtain⟨d,e1,j⟩:=K5 h;rw[aGk] at e1;subst e1;exact⟨j,hm.len▸(aF5.1 j).1⟩
  refine⟨fun b o h=>(hr.shut b o h).1,fun b o h=>(hr.shut b o h).2,fun i p h=>?_,fun i n u h=>?_⟩
  · show (if base<=i/\i∈qU upd then _ else _)=_
    rw[aFQ (fun⟨z,j⟩=>by rw[(hf i j z).1] at h;cases h)];cases D:wE i W 0 with
    |none=>exact h
    | some c=>
      obtain⟨z,j⟩:=len D;refine hr.Jt c p j ?_;show vK g W[c]? =_;rw[z];exact h
  show (if base<=i/\i∈qU upd then g'.cur (i-base) else match wE i W 0 with|some c=>g'.cur c|none=>g.cur i) n=_
  rw[aFQ (fun⟨z,j⟩=>by rw[(hf i j z).2] at h;cases h)];cases D:wE i W 0 with
  |none=>exact h
  | some c=>
    obtain⟨z,j⟩:=len D;refine hr.cur c n u j ?_;show AJ g W[c]? n=_;rw[z];exact h
theorem a5M {t:Ty}{x y:t.den}{cs:q8}(E:Rd g' w' t x cs) (h:CH base r.H.length W t x=some y):Rd (u6 g g' base W (qU upd)) w' t y cs:=by
  refine XK (g:=g') (g':=u6 g g' base W (qU upd)) rfl (CH base r.H.length W) (fun a b x=>rfl) (fun t x=>rfl) (fun _=>rfl) (fun _ _=>rfl) (fun _=>rfl) (fun _=>rfl) (fun _=>rfl) (fun _ _ x y cs h E=>?_) (fun x y cs h E=>?_) (fun x y cs h E=>?_) (fun x y cs h E=>?_) (fun x y cs h E=>?_) (fun _=>rfl) E h
  rotate_left 2
  · obtain⟨c,i,⟨k3,n3⟩,⟨k4,n4⟩⟩:=x
    simp only[CH,Ju,AK] at h;obtain⟨i',k3',k4',e1,e2,e3,rfl⟩:=Nh h;refine jl (g:=g') (g':=u6 g g' base W (qU upd)) (fun _ _ h=>⟨h,rfl⟩) (fun p hp=>?_) (fun v D=>?_) (fun v D=>?_) E
    · unfold R8 at e1
      split at e1
      · rename_i i0 uu x toks o' j
        simp only[aFO,aGi] at e1;obtain⟨rfl,h0⟩:=e1;obtain⟨_,R,b,O,G⟩:=F8 hH hm hr hb hf j;cases b with
        | cells t y ts=>
          have I:=hr.J i t y ts O;rw[hp] at I;have z:vK g W[i]? =some p:=I.symm;rw[j] at z;obtain⟨p0,F,rfl⟩:=aF6.1 z;exact⟨p0,by rw[(PA hH hm hr hb hf j).1];exact F,rfl,by simp;omega⟩
        |_=>exact G.elim
      split at e1
      · rename_i M
        simp only[aFO,aGi] at e1;obtain⟨rfl,-⟩:=e1;obtain⟨Q,K⟩:=SB.1 M;exact⟨p,by rw[(MY hH hm hr hb hf Q K).1];exact hp,rfl,rfl⟩
      cases e1
    .rw[(IC hH hm hr hb hf e2).2];exact D
    rw[(IC hH hm hr hb hf e3).2];exact D
  rotate_left 2
  · cases x with
    |none=>cases h;exact E
    | some q=>
      obtain⟨c,n⟩:=q;simp only[CH,Js,AK] at h;obtain⟨i,hi,rfl⟩:=aF6.1 h;obtain⟨v,D,hs⟩:=E;exact⟨v,by rw[(IC hH hm hr hb hf hi).2];exact D,hs⟩
  · cases x with
    |none=>cases h;exact E
    | some q=>
      obtain⟨c,o⟩:=q;simp only[CH,M2] at h;obtain⟨p,hp,D⟩:=E;unfold M2.back2 at h;split at h
      · rename_i i uu x toks o' j
        cases h;rw[AK] at j;obtain⟨_,R,b,O,G⟩:=F8 hH hm hr hb hf j;cases b with
        | cells t y ts=>
          have I:=hr.J c t y ts O;rw[hp] at I;have z:vK g W[c]? =some p:=I.symm;rw[j] at z;obtain⟨p0,F,rfl⟩:=aF6.1 z;exact⟨p0,by rw[(PA hH hm hr hb hf j).1];exact F,by have:=D.1;rwa [aGv] at this,D.2.imp id fun D=>by rw[D];simp [aGv]⟩
        |_=>exact G.elim
      split at h
      · rename_i M
        cases h;obtain⟨Q,K⟩:=SB.1 M;rw[AK] at K;exact⟨p,by rw[(MY hH hm hr hb hf Q K).1];exact hp,D⟩
      cases h
  · cases x with
    |none=>cases h;exact E
    | some q=>
      obtain⟨c,o⟩:=q;simp only[CH,M2] at h;obtain⟨p,hp,D⟩:=E;unfold M2.back2 at h;split at h
      · rename_i i uu x toks o' j
        cases h;rw[AK] at j;obtain⟨_,R,b,O,G⟩:=F8 hH hm hr hb hf j;cases b with
        | cells t y ts=>
          have I:=hr.J c t y ts O;rw[hp] at I;have z:vK g W[c]? =some p:=I.symm;rw[j] at z;obtain⟨p0,F,rfl⟩:=aF6.1 z;exact⟨p0,by rw[(PA hH hm hr hb hf j).1];exact F,by rw[D];simp [aGv]⟩
        |_=>exact G.elim
      split at h
      · rename_i M
        cases h;obtain⟨Q,K⟩:=SB.1 M;rw[AK] at K;exact⟨p,by rw[(MY hH hm hr hb hf Q K).1];exact hp,D⟩
      cases h
  cases x with
  |none=>cases h;exact E
  | some c=>
    simp only[CH,Jr,AK] at h;obtain⟨i,hi,rfl⟩:=aF6.1 h;obtain⟨p,hp,D⟩:=E;exact⟨p,by rw[(IC hH hm hr hb hf hi).1];exact hp,D⟩
theorem Od {t:Ty}{x y:t.den}{cs:q8}(j:Rd g' w' t x cs) (h:bY base r.H.length W t x y):Rd (u6 g g' base W (qU upd)) w' t y cs:=by
  rcases h with⟨hp,rfl⟩ |h
  .exact wG (g:=g') (g':=u6 g g' base W (qU upd)) rfl hp j
  exact a5M hH hm hr hb hf j h
omit hH hm hr hb hf in
theorem Oe {n:Nat}{t u:Ty}{x y:t.den}{o:Nat}{l:List u.den}(h:bY base n W t x y) (j:rH (.list u) t x o=some l):rH (.list u) t y o=some l:=by
  rcases h with⟨_,rfl⟩ |h
  .exact j
  exact jk (CH base n W) (fun _ _ _=>rfl) (fun _ _=>rfl) h j
theorem Of: ∀(cs:pY) {l:pY}{vs:q8},zE g' cs vs->OR base r.H.length W cs=some l->zE (u6 g g' base W (qU upd)) l vs
  |[],l,vs,h,e=>by cases e;exact h
  | (c,o)::cs,l,vs,⟨p,vs',hp,K,F⟩,e=>by
    unfold OR at e;cases j:R8 base r.H.length c o (zU W c) with
    |none=>rw[j] at e;cases e
    | some q=>
      cases E:OR base r.H.length W cs with
      |none=>rw[j,E] at e;cases e
      | some l'=>
        rw[j,E] at e;cases e;refine(?_ : ∃p vs',_);have ih:=Of cs F E;unfold R8 at j;split at j
        · rename_i i uu x toks o' z
          cases j;rw[AK] at z;obtain⟨_,R,b,Q,I⟩:=F8 hH hm hr hb hf z;cases b with
          | cells t y ts=>
            have M:=hr.J c t y ts Q;rw[hp] at M;have D:vK g W[c]? =some p:=M.symm;rw[z] at D;obtain⟨p0,G,rfl⟩:=aF6.1 D;exact⟨p0,vs',by rw[(PA hH hm hr hb hf z).1];exact G,by rw[K];simp [aGv],ih⟩
          |_=>exact I.elim
        split at j
        · rename_i O
          cases j;obtain⟨h3,h4⟩:=SB.1 O;rw[AK] at h4;exact⟨p,vs',by rw[(MY hH hm hr hb hf h3 h4).1];exact hp,K,ih⟩
        cases j
theorem a5N {s:qQ}{u:qE}(h:rX g' w' s u):rX (u6 g g' base W (qU upd)) w' (VE base r.H.length W s) u:=by
  obtain⟨d,k⟩:=s
  have tokk: ∀{t:Ty}(hp:t.pure=true) {x:t.den}{k:qB},(∀c,k=some c->∃u,t= .list u)->rX g' w' (.val t x,k) u->rX (u6 g g' base W (qU upd)) w' (.val t x,M1 base r.H.length W k) u:=by
    intro t hp x k hl h;cases k with
    |none=>exact XF (g:=g') (g':=u6 g g' base W (qU upd)) (k:=none) (k':=none) rfl hp (fun c e=>by cases e) h (fun c e=>by cases e) (fun _=>rfl)
    | some c=>
      simp only[M1,AK];cases E:AD base r.H.length c W[c]? with
      | some i=>
        refine XF (g:=g') (g':=u6 g g' base W (qU upd)) (k:=some c) (k':=some i) rfl hp hl h (fun c' e=>?_) (fun e=>by cases e);cases e;refine⟨_,rfl,fun n u V=>?_⟩;rw[(IC hH hm hr hb hf E).2];exact V
      | none=>
        exact XF (g:=g') (g':=u6 g g' base W (qU upd)) (k:=none) (k':=none) rfl hp (fun c e=>by cases e) ⟨h.1,trivial⟩ (fun c e=>by cases e) (fun _=>rfl)
  unfold VE;split
  · rename_i c m k' heq
    simp only[aGi] at heq;obtain⟨rfl,rfl⟩:=heq;simp only[M1,AK];cases E:AD base r.H.length c W[c]? with
    | some i=>
      obtain⟨h3,h4⟩:=h.1;exact⟨⟨by rw[(IC hH hm hr hb hf E).2];exact h3,h4⟩,trivial⟩
    |none=>exact⟨trivial,trivial⟩
  · rename_i c o k' heq
    simp only[aGi] at heq;obtain⟨rfl,rfl⟩:=heq;obtain⟨p,hp,G⟩:=y6 h.1;unfold Jq;split
    · rename_i i uu x toks o' z
      rw[AK] at z;obtain⟨_,ha,b,Y,K⟩:=F8 hH hm hr hb hf z;cases b with
      | cells t y ts=>
        have M:=hr.J c t y ts Y;rw[hp] at M;have F:vK g W[c]? =some p:=M.symm;rw[z] at F;obtain⟨p0,I,rfl⟩:=aF6.1 F;refine⟨.inr ⟨rfl,p0,by rw[(PA hH hm hr hb hf z).1];exact I,?_⟩,trivial⟩;rw[G];simp [aGv]
      |_=>exact K.elim
    split
    · rename_i E
      obtain⟨j,D⟩:=SB.1 E;rw[AK] at D;exact⟨.inr ⟨rfl,p,by rw[(MY hH hm hr hb hf j D).1];exact hp,by rw[G]⟩,trivial⟩
    exact⟨trivial,trivial⟩
  · rename_i k' heq
    simp only[aGi] at heq;obtain⟨rfl,rfl⟩:=heq;rcases h.1 with⟨j,_⟩ |⟨j,D⟩
    .cases j
    exact⟨.inr ⟨j,D⟩,trivial⟩
  · rename_i c k' heq
    simp only[aGi] at heq;obtain⟨rfl,rfl⟩:=heq;simp only[M1,AK];cases E:AD base r.H.length c W[c]? with
    | some i=>
      obtain⟨p,hp,G⟩:MM g' (some c) [u]:=y5 rfl h.1;exact⟨.inr ⟨rfl,p,by rw[(IC hH hm hr hb hf E).1];exact hp,G⟩,trivial⟩
    |none=>exact⟨trivial,trivial⟩
  · rename_i k' heq
    simp only[aGi] at heq;obtain⟨rfl,rfl⟩:=heq;rcases h.1 with⟨j,_⟩ |⟨j,D⟩
    .cases j
    exact⟨.inr ⟨j,D⟩,trivial⟩
  · rename_i f cs k' heq
    simp only[aGi] at heq;obtain⟨rfl,rfl⟩:=heq;cases X:OR base r.H.length W cs with
    |none=>exact⟨trivial,trivial⟩
    | some l=>
      rcases h.1 with⟨j,_⟩ |⟨_,vs,D,h3⟩
      .cases j
      exact⟨.inr ⟨rfl,vs,Of hH hm hr hb hf cs D X,h3⟩,trivial⟩
  · rename_i t x k' Z U R Q O heq
    simp only[aGi] at heq;obtain⟨rfl,rfl⟩:=heq;split
    · rename_i hp
      exact tokk hp a5r (Nf h)
    exact⟨trivial,trivial⟩
  exact⟨trivial,trivial⟩
end
theorem Og {g:Gh}{w:qD}{H:sJ}{W:List rY}{L:List qP}(hH:sO g w H) (hm:S9 H W L) {bb oo:Nat}(h:zF (vL g W) (rC 0 L) bb oo):
  ∃(c:Nat) (wh:rY) (b blk:qP),W[c]? =some wh/\L[c]? =some b/\sL (vL g W) c b bb oo/\qS H wh.id=some blk/\sL g wh.id blk bb oo:=by
 obtain⟨c,b,E,ho⟩:=h;rw[y8] at E;have I:c<W.length:=hm.len▸(aF5.1 E).1;have j:W[c]? =some W[c]:=aFW I;have hw:=hm.ok c _ b j E;refine⟨c,W[c],b,?_⟩;generalize W[c]=wh at j hw;cases wh with
 |box i u x toks off=>
  cases b with
  |cells t y ts=>
   obtain⟨Q,⟨y0,R,h3⟩,h4⟩:=hw;obtain⟨p,hp,e1,e2,e3⟩:=ho;have D:vK g W[c]? =some p:=hp;rw[j] at D;obtain⟨p0,G,rfl⟩:=aF6.1 D;obtain⟨p1,cs,U,O,_⟩:=hH.blk i _ Q;obtain⟨c1,c2,c3,K,hl,M⟩:=CO O R;have l1:=t8 O;have l2:=t8 M;rw[K] at l1;simp only[aFR] at l1;exact⟨_,j,E,⟨_,hp,e1,e2,e3⟩,Q,p0,G,e1,by simp at e2;omega,by simp at e3;omega⟩
  |_=>exact hw.elim
 |tok k=>
  cases b with
  |grow e cc m=>
   obtain⟨v,F,hb⟩:=ho;have z:AJ g W[c]? m=some v:=F;rw[j] at z;exact⟨_,j,E,⟨v,F,hb⟩,hw,v,z,hb⟩
  |map s t l=>
   obtain⟨p,hp,hb⟩:=ho;have D:vK g W[c]? =some p:=hp;rw[j] at D;exact⟨_,j,E,⟨p,hp,hb⟩,hw.1,p,D,hb⟩
  |row e t l m=>
   obtain⟨v,F,hb⟩:=ho;have z:AJ g W[c]? m=some v:=F;rw[j] at z;exact⟨_,j,E,⟨v,F,hb⟩,hw.1,v,z,hb⟩
  |_=>exact hw.elim
section
variable {g g':Gh}{w w':qD}{H:sJ}{W:List rY}{L:List qP}{r:r5}{v:qE}{base:Nat}{upd:List (Nat×qP)}
variable (hH:sO g w H) (hm:S9 H W L) (hr:GK (vL g W) w L r g' w' v) (hb:CI base r.H.length W 0 W r.H=some upd) (hf: ∀i,i∈qU upd->base<=i->g.J i=none/\∀n,g.cur i n=none)
include hH hm hr hb hf
theorem jr {b o:Nat}(h:zF (vL g W) (rC 0 L) b o):t7 g H (qU upd) b o:=by
 obtain⟨c,wh,b0,blk,z,D,h3,h4,j⟩:=Og hH hm h;exact⟨wh.id,blk,(F8 hH hm hr hb hf z).1,h4,j⟩
theorem a5O:Fr (t7 g H (qU upd)) w w' g.S (u6 g g' base W (qU upd)).S:=hr.fr.mono fun _ _ h=>jr hH hm hr hb hf h
theorem XP {id:Nat}{b:qP}(hi:id∈qU upd) (z:qS (rD upd H) id=some b):K7 base r.H.length W W r.H 0 id b:=by
 obtain⟨_,k2,k3,_⟩:=P9 hb;obtain⟨b',j⟩:=k3 id hi;have:qS (rD upd H) id=some b':=by
  have: ∀{u:List (Nat×qP)},qS u id=some b'->qS (rD u H) id=some b':=by
   intro u
   induction u with
   |nil=>intro h;cases h
   |cons q u ih=>
    intro h;simp only[rD,qS] at h|-;split
    .rename_i e;rw[aFP e] at h;exact h
    rename_i e;rw[aFQ e] at h;exact ih h
  exact this j
 rw[this] at z;obtain rfl:=aFU z;exact k2 id b' j
theorem js {c i o:Nat}{u:Ty}{x:u.den}{toks:pY}{b0 b:qP}(Y:W[c]? =some (.box i u x toks o)) (hR:r.H[c]? =some b0) (F:yO base r.H.length i o W u x toks b0=some (i,b)):
  AX (u6 g g' base W (qU upd)) w' i b/\(∀bb oo,sL (u6 g g' base W (qU upd)) i b bb oo->sL g i (.cells u x toks) bb oo/\qS H i=some (.cells u x toks))/\
   ∀bb oo,sL (u6 g g' base W (qU upd)) i b bb oo->sL g' c b0 bb oo\/(bb<w.heap.size/\¬zF (vL g W) (rC 0 L) bb oo):=by
 obtain⟨hN,hM,bL,hL,I⟩:=F8 hH hm hr hb hf Y;have X:=(PA hH hm hr hb hf Y).1;have hle:=Oc hH hm hr hb hf;cases bL with
 |grow=>exact I.elim
 |row=>exact I.elim
 |map=>exact I.elim
 |iter=>exact I.elim
 |dead=>exact I.elim
 |cells tL yL tsL=>
  obtain⟨h1,h2,h4⟩:=I;obtain⟨p,cs,hp,hj,ha,Z,hF,hC⟩:=hH.blk i _ h1;cases b0 with
  |grow=>simp [yO] at F
  |row=>simp [yO] at F
  |map=>simp [yO] at F
  |iter=>simp [yO] at F
  |dead=>
   simp only[yO,aFO,aGi,true_and] at F;subst F;exact⟨trivial,fun _ _ h=>h.elim,fun _ _ h=>h.elim⟩
  |cells t y ts=>
   have hB:=hr.ty c _ _ _ _ _ _ hL hR;subst hB;obtain⟨y2,z,hh,K,hq⟩:=jp F
   simp only[aGi,true_and] at hq;subst hq;have hx:=hr.heap.blk c _ (by rw[y8];exact hR);obtain⟨p',cs',hd,U,hn,R,hu,hk⟩:=hx;have hK:=hr.J c _ _ _ hL;have hc:g'.J c=some ⟨p.1,p.2+o,p.3⟩:=by
    rw[hK];show vK g W[c]? =_;rw[Y];simp [vK,hp]
   rw[hc] at hd;obtain rfl:=aFU hd;have hA:Rd (u6 g g' base W (qU upd)) w' u x cs:=wW hle hj;have hy:Rd (u6 g g' base W (qU upd)) w' t y2 cs':=Od hH hm hr hb hf U hh;obtain⟨c1,c2,c3,hJ,hG,he,hz⟩:=S0 hy hA K;subst hJ;subst hG;have l0:=t8 hj;have l1:=t8 U;simp only[aFR] at l0;have G: ∀q,q<u.cells->¬(c1.length<=q/\q<c1.length+t.cells)->¬zF (vL g W) (rC 0 L) p.1 (p.2+q):=by
    intro q hq V ht;obtain⟨c',wh',b',blk',k1,k2,k3,k4,k5⟩:=Og hH hm ht;by_cases hg:c'=c
    .subst hg;rw[Y] at k1;obtain rfl:=aFU k1;rw[hL] at k2;obtain rfl:=aFU k2;obtain⟨pp,E,e1,e2,e3⟩:=k3;have M:vK g W[c']? =some pp:=E;rw[Y] at M;simp only[vK,hp,Option.map_some,aFO] at M;subst M;simp only at e2 e3;exact V ⟨pT,pT⟩
    have hI:wh'.id≠i:=fun e=>hg (XL hm.nodup k1 Y e);exact hH.dis wh'.id i blk' _ p.1 (p.2+q) hI k4 h1 k5 ⟨p,hp,rfl,pT,pT⟩
   have O: ∀q,q<u.cells->p.1<w.heap.size:=fun q hq=>MP (hH.blk i _ h1) (b:=p.1) (o:=p.2+q) ⟨p,hp,rfl,pT,pT⟩;have j: ∀q,q<u.cells->¬(c1.length<=q/\q<c1.length+t.cells)->w'.cell? ⟨p.1,p.2+q,none⟩=w.cell? ⟨p.1,p.2+q,none⟩/\w'.frozen? ⟨p.1,p.2+q,none⟩=w.frozen? ⟨p.1,p.2+q,none⟩:=fun q hq V=>hr.fr.cell _ _ (O q hq) (G q hq V);refine⟨⟨p,c1++cs'++c3,by rw[X];exact hp,hz,fun q vv Q=>?_,⟨fun q hq=>?_,fun h0 s hs=>?_⟩,fun q hq hs=>?_,?_⟩,fun bb oo ho=>⟨?_,h1⟩,fun bb oo ho=>?_⟩
   .by_cases a1:q<c1.length
    .rw[(j q pT pT).1];refine ha q vv ?_;rw[aF3,aF9 a1] at Q|-;exact Q
    by_cases a2:q<c1.length+t.cells
    .rw[aF3,aFZ pT,aF9 pT] at Q;have:=hn (q-c1.length) vv Q;rwa [show p.2+c1.length+(q-c1.length)=p.2+q from by omega] at this
    rw[aF3,aFZ pT,aFZ pT] at Q;have hq:q<u.cells:=by
     have:=(aF5.1 Q).1;omega
    rw[(j q hq pT).1];refine ha q vv ?_;rw[aF3,aFZ pT,aFZ pT,he];rw[l1] at Q;exact Q
   .by_cases a1:c1.length<=q/\q<c1.length+t.cells
    .have:=R.1 (q-c1.length) pT;rwa [show p.2+c1.length+(q-c1.length)=p.2+q from by omega] at this
    rw[(j q hq a1).1,(j q hq a1).2];exact Z.1 q hq
   .by_cases hD:0<t.cells
    .exact R.2 hD s hs
    exact(hr.fr.shape p.1 s (Z.2 h0 s hs)).resolve_right fun h=>G 0 h0 pT (h (p.2+0))
   .by_cases a1:c1.length<=q/\q<c1.length+t.cells
    .exact hu (q-c1.length) pT (by rw[show p.2+c1.length+(q-c1.length)=p.2+q from by omega];exact hs)
    rcases hr.fr.new _ _ hs with k|k|k
    .exact hF q hq k
    .have:=O q hq;omega
    exact G q hq a1 k
   .intro q kk D;rcases xK.1 D with D|D
    .obtain⟨q',c',k1,k2,rfl⟩:=XO D;rw[AK] at k2;obtain⟨u',l,vv,g1,g2,g3⟩:=hk q' c' k1;have hE:=Mv g1;refine⟨u',l,vv,Mu K (Oe hh g1) hE,?_,?_⟩
     .rw[aF3,aFZ pT,aGB,aF9 pT];exact g2
     rw[(IC hH hm hr hb hf k2).2];exact g3
    obtain⟨k1,k2⟩:=jq D;obtain⟨u',l,vv,g1,g2,g3⟩:=hC q kk k1;refine⟨u',l,vv,XA hH K g1 k2,?_,hle.cur _ _ _ g3⟩;rcases aG6 q c1.length with a1|a1
    .rw[aF3,aF9 a1] at g2|-;exact g2
    rw[aF3,aFZ pT,aFZ pT] at g2|-;rw[l1];rw[he] at g2;exact g2
   .obtain⟨pp,E,e1,e2,e3⟩:=ho;rw[X,hp] at E;obtain rfl:=aFU E;exact⟨p,hp,e1,e2,e3⟩
   obtain⟨pp,E,e1,e2,e3⟩:=ho;rw[X,hp] at E;obtain rfl:=aFU E;subst e1;by_cases a1:c1.length<=oo-p.2/\oo-p.2<c1.length+t.cells
   .exact .inl ⟨_,hc,rfl,by simp only;omega,by simp only;omega⟩
   right;refine⟨O (oo-p.2) pT,?_⟩;have:=G (oo-p.2) pT a1;rwa [show p.2+(oo-p.2)=oo from by omega] at this
theorem jt {c:Nat}{b0 b:qP}(hn:W[c]? =none) (Z:r.H[c]? =some b0) (j:zB base r.H.length c W b0=some (base+c,b)):
  AX (u6 g g' base W (qU upd)) w' (base+c) b/\∀bb oo,sL (u6 g g' base W (qU upd)) (base+c) b bb oo->sL g' c b0 bb oo:=by
 have hc:=(aF5.1 Z).1;obtain⟨U,z⟩:=MY hH hm hr hb hf hc hn;have D:=hr.heap.blk c _ (by rw[y8];exact Z);cases b0 with
 |dead=>
  simp only[zB,aFO,aGi,true_and] at j;subst j;exact⟨trivial,fun _ _ h=>h.elim⟩
 |grow e m k=>
  simp only[zB,aFO,aGi,true_and] at j;subst j;obtain⟨u,xs,V,O,M,h3⟩:=D;exact⟨⟨u,xs,by rw[z];exact V,O,fun m I=>by rw[z];exact M m I,h3⟩,fun bb oo ⟨v',E,K⟩=>⟨v',by rw[z] at E;exact E,K⟩⟩
 |row e t l n=>
  simp only[zB] at j;split at j
  .rename_i hp;simp only[aFO,aGi,true_and] at j;subst j;obtain⟨h0,u,xs,V,O,h4,M,h3⟩:=D;exact⟨⟨h0,u,xs,by rw[z];exact V,O,DA (fun _ _ h=>wG (g:=g') (g':=u6 g g' base W (qU upd)) rfl hp h) h4,fun m I=>by rw[z];exact M m I,h3⟩,fun bb oo ⟨v',E,K⟩=>⟨v',by rw[z] at E;exact E,K⟩⟩
  .cases j
 |iter s n=>simp [zB] at j
 |map k v l=>
  simp only[zB] at j;split at j
  .rename_i hp;rw[aF0] at hp;simp only[aFO,aGi,true_and] at j;subst j;obtain⟨p,es,cl,G,X,hh,hM,hS⟩:=D;exact⟨⟨p,es,cl,by rw[U];exact G,X,hh,RZ (g:=g') (g':=u6 g g' base W (qU upd)) rfl hp.1 hp.2 hM,hS⟩,fun bb oo ⟨pp,F,e⟩=>⟨pp,by rw[U] at F;exact F,e⟩⟩
  .cases j
 |cells t y ts=>
  have fin: ∀y2,bY base r.H.length W t y y2->AX (u6 g g' base W (qU upd)) w' (base+c) (.cells t y2 (EZ base r.H.length W 0 ts))/\∀bb oo,sL (u6 g g' base W (qU upd)) (base+c) (.cells t y2 (EZ base r.H.length W 0 ts)) bb oo->sL g' c (.cells t y ts) bb oo:=by
   intro y2 Q;obtain⟨p,cs,G,Y,O,M,h3,h4⟩:=D;refine⟨⟨p,cs,by rw[U];exact G,Od hH hm hr hb hf Y Q,O,M,h3,fun q kk R=>?_⟩,fun bb oo ⟨pp,F,e⟩=>⟨pp,by rw[U] at F;exact F,e⟩⟩;obtain⟨q',c',k1,k2,rfl⟩:=XO R;rw[AK] at k2;obtain⟨u',l,vv,g1,g2,g3⟩:=h4 q' c' k1;exact⟨u',l,vv,by rw[aGk];exact Oe Q g1,by rw[aGk];exact g2,by rw[(IC hH hm hr hb hf k2).2];exact g3⟩
  simp only[zB] at j;split at j
  .rename_i hp;simp only[aFO,aGi,true_and] at j;subst j;exact fin y (.inl ⟨hp,rfl⟩)
  obtain⟨y2,hy,hq⟩:=Nz j;simp only[aGi,true_and] at hq;subst hq;exact fin y2 (.inr hy)
theorem ju {c k:Nat}{b0 b:qP}(X:W[c]? =some (.tok k)) (Z:r.H[c]? =some b0) (j:wU k b0=some (k,b)):
  AX (u6 g g' base W (qU upd)) w' k b/\∀bb oo,sL (u6 g g' base W (qU upd)) k b bb oo->sL g' c b0 bb oo:=by
 obtain⟨U,z⟩:=Ob hH hm hr hb hf X;have E:=hr.heap.blk c _ (by rw[y8];exact Z);cases b0 with
 |dead=>
  simp only[wU,aFO,aGi,true_and] at j;subst j;exact⟨trivial,fun _ _ h=>h.elim⟩
 |grow e m n=>
  simp only[wU,aFO,aGi,true_and] at j;subst j;obtain⟨u,xs,K,O,M,h3⟩:=E;exact⟨⟨u,xs,by rw[z];exact K,O,fun m F=>by rw[z];exact M m F,h3⟩,fun bb oo ⟨v',D,G⟩=>⟨v',by rw[z] at D;exact D,G⟩⟩
 |row e t l n=>
  simp only[wU] at j;split at j
  .rename_i hp;simp only[aFO,aGi,true_and] at j;subst j;obtain⟨h0,u,xs,K,O,h4,M,h3⟩:=E;exact⟨⟨h0,u,xs,by rw[z];exact K,O,DA (fun _ _ h=>wG (g:=g') (g':=u6 g g' base W (qU upd)) rfl hp h) h4,fun m F=>by rw[z];exact M m F,h3⟩,fun bb oo ⟨v',D,G⟩=>⟨v',by rw[z] at D;exact D,G⟩⟩
  .cases j
 |iter s n=>simp [wU] at j
 |map s v l=>
  simp only[wU] at j;split at j
  .rename_i hp;rw[aF0] at hp;simp only[aFO,aGi,true_and] at j;subst j;obtain⟨p,es,cl,Q,R,V,hM,Y⟩:=E;exact⟨⟨p,es,cl,by rw[U];exact Q,R,V,RZ (g:=g') (g':=u6 g g' base W (qU upd)) rfl hp.1 hp.2 hM,Y⟩,fun bb oo ⟨pp,I,e⟩=>⟨pp,by rw[U] at I;exact I,e⟩⟩
  .cases j
 |cells t y ts=>simp [wU] at j
theorem a5P {side:List Prop}{s:qQ}{rds:qC}{vv:qE}(hs:rX (u6 g g' base W (qU upd)) w' s vv):rU g w H ⟨side,s,upd,rds⟩ (u6 g g' base W (qU upd)) w' vv:=by
 have le:=Oc hH hm hr hb hf;have fr:=a5O hH hm hr hb hf;have gho: ∀i,i∉qU upd->(u6 g g' base W (qU upd)).J i=g.J i/\(u6 g g' base W (qU upd)).cur i=g.cur i:=fun i hi=>
  Oa hH hm hr hb hf (fun h=>hi h.2) (XN fun c X=>hi ((F8 hH hm hr hb hf X).1))
 have perm: ∀i blk b o,i∈qU upd->qS (rD upd H) i=some blk->sL (u6 g g' base W (qU upd)) i blk b o->w.heap.size<=b\/t7 g H (qU upd) b o:=by
  intro i blk b o hi F ho;rcases XP hH hm hr hb hf hi F with⟨c,i',u,x,toks,off,b0,D,E,h3,h4⟩ |⟨c,k,b0,D,E,h3,h4⟩ |⟨c,b0,D,E,h3,h4⟩
  .subst E;obtain⟨_,k2,_⟩:=js hH hm hr hb hf D h3 h4;exact .inr ⟨i,_,hi,(k2 b o ho).2,(k2 b o ho).1⟩
  .subst E;obtain⟨_,k2⟩:=ju hH hm hr hb hf D h3 h4;exact(hr.perm c b0 b o h3 (k2 b o ho)).imp id fun h=>jr hH hm hr hb hf h
  rw[aGk] at E h4;subst E;obtain⟨_,k2⟩:=jt hH hm hr hb hf h3 D h4;exact(hr.perm c b0 b o D (k2 b o ho)).imp id fun h=>jr hH hm hr hb hf h
 refine⟨le,hs,hH.upd le fr perm gho (fun i blk hi F=>?_) (fun i j bi bj b o hi V I R Q O M=>?_) (fun b o h=>hr.heap.sl b o h),fr,perm,gho,fun i u' y us h=>?_⟩
 .rcases XP hH hm hr hb hf hi F with⟨c,i',u,x,toks,off,b0,D,E,h3,h4⟩ |⟨c,k,b0,D,E,h3,h4⟩ |⟨c,b0,D,E,h3,h4⟩
  .subst E;exact(js hH hm hr hb hf D h3 h4).1
  .subst E;exact(ju hH hm hr hb hf D h3 h4).1
  rw[aGk] at E h4;subst E;exact(jt hH hm hr hb hf h3 D h4).1
 .have cls: ∀{i:Nat}{blk:qP},i∈qU upd->qS (rD upd H) i=some blk->sL (u6 g g' base W (qU upd)) i blk b o->
    (∃c u x toks off b0,W[c]? =some (.box i u x toks off)/\r.H[c]? =some b0/\sL g i (.cells u x toks) b o/\qS H i=some (.cells u x toks)/\(sL g' c b0 b o\/(b<w.heap.size/\¬zF (vL g W) (rC 0 L) b o)))\/
    (∃c b0,AD base r.H.length c W[c]? =some i/\r.H[c]? =some b0/\sL g' c b0 b o):=by
   intro i blk hi F ho;rcases XP hH hm hr hb hf hi F with⟨c,i',u,x,toks,off,b0,D,E,h3,h4⟩ |⟨c,k,b0,D,E,h3,h4⟩ |⟨c,b0,D,E,h3,h4⟩
   .subst E;obtain⟨_,k2,k3⟩:=js hH hm hr hb hf D h3 h4;exact .inl ⟨c,u,x,toks,off,b0,D,h3,(k2 b o ho).1,(k2 b o ho).2,k3 b o ho⟩
   .subst E;obtain⟨_,k2⟩:=ju hH hm hr hb hf D h3 h4;exact .inr ⟨c,b0,by rw[D];rfl,h3,k2 b o ho⟩
   rw[aGk] at E h4;subst E;obtain⟨_,k2⟩:=jt hH hm hr hb hf h3 D h4;exact .inr ⟨c,b0,by rw[h3];simp only[AD];rw[aFP (aF5.1 D).1],D,k2 b o ho⟩
  have cross: ∀{c c':Nat}{b0 b1:qP},c≠c'->r.H[c]? =some b0->r.H[c']? =some b1->sL g' c b0 b o->sL g' c' b1 b o->False:=fun hne D E o1 o2=>
   hr.heap.dis _ _ _ _ b o hne (by rw[y8];exact D) (by rw[y8];exact E) o1 o2
  rcases cls hi R O with⟨c,u,x,toks,off,b0,D,E,h3,h4,K⟩ |⟨c,b0,D,h3,h4⟩<;>rcases cls V Q M with⟨c',u',x',toks',off',b0',k1,k2,k3,k4,k5⟩ |⟨c',b0',k1,k3,k4⟩
  .exact hH.dis i j _ _ b o I h4 k4 h3 k3
  .rcases K with K|⟨K,Y⟩
   .exact cross (fun e=>by subst e;rw[D] at k1;cases k1) E k3 K k4
   rcases hr.perm c' b0' b o k3 k4 with h|h
   .omega
   exact Y h
  .rcases k5 with k5|⟨k5,k6⟩
   .exact cross (fun e=>by subst e;rw[k1] at D;cases D) h3 k2 h4 k5
   rcases hr.perm c b0 b o h3 h4 with h|h
   .omega
   exact k6 h
  exact cross (fun e=>by subst e;rw[D] at k1;exact I (aFU k1)) h3 k3 h4 k4
 by_cases hi:i∈qU upd
 .rcases XP hH hm hr hb hf hi h with⟨c,i',u,x,toks,off,b0,D,E,h3,h4⟩ |⟨c,k,b0,D,E,h3,h4⟩ |⟨c,b0,D,E,h3,h4⟩
  .subst E;obtain⟨_,_,bL,Z,G⟩:=F8 hH hm hr hb hf D;cases b0 with
   |cells t y0 ts=>
    obtain⟨y2,z,_,U,hq⟩:=jp h4;simp only[aGi,qP.cells.injEq,true_and] at hq;obtain⟨rfl,_⟩:=hq;cases bL with
    |cells=>exact .inl ⟨x,toks,G.1⟩
    |_=>exact G.elim
   |grow=>simp [yO] at h4
   |row=>simp [yO] at h4
   |map=>simp [yO] at h4
   |iter=>simp [yO] at h4
   |dead=>simp [yO] at h4
  .cases b0 with
   |cells t y0 ts=>simp [wU] at h4
   |iter=>simp [wU] at h4
   |map=>simp only[wU] at h4;split at h4<;>simp at h4
   |row=>simp only[wU] at h4;split at h4<;>simp at h4
   |_=>simp [wU] at h4
  rw[aGk] at E;exact .inr (hf i hi pT)
 exact .inl ⟨y,us,(AY hi).symm.trans h⟩
end
section
variable {P:Program}{g:Gh}{w:qD}
def a5Q (P:Program) (g:Gh) (w:qD) (d:Nat) (ty:Ty) (x y:ty.den):gv->Prop
 | .ty t=> ∀vx vy,tJ g w ty x vx->tJ g w ty y vy->∃b,CZ ty x y=some b/\(Op.equalIn (d+1) t vx vy).run P w= .ok b w
 | .fs o l=> ∀px py cx cy,px.length=o->py.length=o->Rd g w ty x cx->Rd g w ty y cy->∃b,CZ ty x y=some b/\(Op.eqFields (d+1) (px++cx).toArray (py++cy).toArray l).run P w= .ok b w
 | .el e i m=> ∀px py cx cy,px.length=i*P.cellsOf e->py.length=i*P.cellsOf e->Rd g w ty x cx->Rd g w ty y cy->∃b,CZ ty x y=some b/\(Op.eqItems (d+1) e (P.cellsOf e) (px++cx).toArray (py++cy).toArray (List.range' i m)).run P w= .ok b w
theorem a5R {e:TypeId}{n:Nat}(h:(P.info? e).map (·.size)=some n):P.cellsOf e=n:=by
 obtain⟨i,z,j⟩:=aF6.1 h;simp [Program.cellsOf,z,j]
theorem zN.run {n:Nat}{ix:gv}{ty:Ty}(h:zN P n ix ty): ∀(d:Nat),n<=d->∀x y:ty.den,a5Q P g w d ty x y ix:=by
 induction h with
 |bool F=>
  intro d _ x y vx vy I G;obtain rfl:=vU I;obtain rfl:=vU G;exact⟨_,rfl,run_equalIn_bool' w d _ _ _ F⟩
 |int F=>
  intro d _ x y vx vy I G;obtain rfl:=wH I;obtain rfl:=wH G;refine⟨_,rfl,(run_equalIn_int w d _ _ _ _ _ F).trans ?_⟩;congr 1
 |str F=>
  intro d _ x y vx vy I G;obtain rfl:=x7 I;obtain rfl:=x7 G;refine⟨_,rfl,(run_equalIn_string w d _ _ _ F).trans ?_⟩;congr 1;rw[ByteArray.toList_eq,ByteArray.toList_eq];exact S3 _ _
 | @struct h0 t0 fs0 ty0 hr F hs _ ih=>
  intro d K x y vx vy I G;obtain⟨cx,rfl,rx⟩:=MS hr I;obtain⟨cy,rfl,ry⟩:=MS hr G;obtain⟨d,rfl⟩: ∃d',d=d'+1:=⟨d-1,pT⟩;obtain⟨b,O,M⟩:=ih d pT x y [] [] cx cy rfl rfl rx ry;refine⟨b,O,?_⟩;have hf:P.fieldsOf t0=fs0:=by unfold Program.fieldsOf;rw[F]
  rw[run_equalIn_struct w _ _ _ _ (by rw[hf];exact F) hs,hf];simpa using M
 |arr hr F hi _ ih=>
  intro d K x y vx vy I G;obtain⟨cx,rfl,rx⟩:=MS hr I;obtain⟨cy,rfl,ry⟩:=MS hr G;obtain⟨d,rfl⟩: ∃d',d=d'+1:=⟨d-1,pT⟩;obtain⟨b,O,M⟩:=ih d pT x y [] [] cx cy pV pV rx ry;refine⟨b,O,?_⟩;obtain⟨i,hi⟩:=aFS.1 hi;rw[run_equalIn_array w _ _ _ F hi,List.range_eq_range'];simpa using M
 |nil=>
  intro d _ x y px py cx cy _ _ _ _;exact⟨true,rfl,by simp [Op.eqFields]⟩
 |anil=>
  intro d _ x y px py cx cy _ _ _ _;exact⟨true,rfl,by simp [Op.eqItems]⟩
 | @cons h o f r a b R ho z j _ _ iha ihb=>
  intro d K x y px py cx cy E D ⟨x1,x2,ex,rx1,rx2⟩ ⟨y1,y2,ey,ry1,ry2⟩;subst ex;subst ey;obtain⟨vx,p1,v1⟩:=S4 (P:=P) (c1:=px) (c3:=x2) z j rx1;obtain⟨vy,p2,v2⟩:=S4 (P:=P) (c1:=py) (c3:=y2) z j ry1;obtain⟨b1,e1,r1⟩:=iha d K x.1 y.1 vx vy v1 v2;obtain⟨b2,e2,r2⟩:=ihb d K x.2 y.2 (px++x1) (py++y1) x2 y2 (by rw[aFR,E,t8 rx1]) (by rw[aFR,D,t8 ry1]) rx2 ry2;refine⟨b1&&b2,by simp only[CZ,e1,e2,CZ.eqAnd],?_⟩;rw[aF3] at p1 p2 r2;rw[aF3] at r2;rw[E,<-ho] at p1;rw[D,<-ho] at p2;simp only[Op.eqFields,aFP R,aF4,p1,p2,aFX,r1];cases b1
  .simp
  .simpa using r2
 | @acons h e i m a b z j _ _ iha ihb=>
  intro d K x y px py cx cy E D ⟨x1,x2,ex,rx1,rx2⟩ ⟨y1,y2,ey,ry1,ry2⟩;subst ex;subst ey;have Q:=a5R z;obtain⟨vx,p1,v1⟩:=S4 (P:=P) (c1:=px) (c3:=x2) z j rx1;obtain⟨vy,p2,v2⟩:=S4 (P:=P) (c1:=py) (c3:=y2) z j ry1;obtain⟨b1,e1,r1⟩:=iha d K x.1 y.1 vx vy v1 v2;obtain⟨b2,e2,r2⟩:=ihb d K x.2 y.2 (px++x1) (py++y1) x2 y2 (by rw[aFR,E,t8 rx1,Q,aG5]) (by rw[aFR,D,t8 ry1,Q,aG5]) rx2 ry2;refine⟨b1&&b2,by simp only[CZ,e1,e2,CZ.eqAnd],?_⟩;rw[aF3] at p1 p2 r2;rw[aF3] at r2;rw[E] at p1;rw[D] at p2;simp only[aHD,Op.eqItems,aF4,p1,p2,aFX,r1];cases b1
  .simp
  simpa using r2
def ID:qE->Bool
 | .nilFunc=>true
 |_=>false
theorem a5S {w:qD}(d:Nat) {t:TypeId}{a b:_}{c:_}(h:P.underlying t=some (.func a b c)) (v:qE) (j:v= .nilFunc\/∃f y z,v= .func f y z):
  (Op.equalIn (d+1) t v .nilFunc).run P w= .ok (ID v) w:=by
 rcases j with rfl|⟨f,y,z,rfl⟩<;>simp [Op.equalIn,aGe h,ID]
theorem Oh {w:qD}{t:TypeId}{a b:_}{c:_}(h:P.underlying t=some (.func a b c)) (v:qE) (D:v= .nilFunc\/∃f y z,v= .func f y z):
  (Go.binOp .eql t v .nilFunc).run P w= .ok (.bool (ID v)) w/\(Go.binOp .neq t v .nilFunc).run P w= .ok (.bool (!(ID v))) w:=by
 have E:=a5S (P:=P) (w:=w) 9999 h v D;have j:(Op.equal t v .nilFunc).run P w= .ok (ID v) w:=E;rcases D with rfl|⟨f,y,z,rfl⟩
 .exact⟨by simp only[Go.binOp,aF4,j];rfl,by simp only[Go.binOp,aF4,j];rfl⟩
 exact⟨by simp only[Go.binOp,aF4,j];rfl,by simp only[Go.binOp,aF4,j];rfl⟩
variable {o:Oper}{a:Act}{H:sJ}{T:sZ}(hT:xZ P T) (hH:sO g w H)
include hT hH
theorem a5T {op:BinOp}{xt yt:TypeId}{x y:Operand}(ho:o.op= .binOp op xt x y yt) {sx sy:qQ}(O:rX g w sx (a.eval x)) (M:rX g w sy (a.eval y)) {e:r6}
  (hr:BH (cu (s5 T xt) op sx sy)=some e):rR P o a g w H e:=by
 obtain⟨q,hq,rfl⟩:=K3 hr;have go: ∀{u v:qE},a.eval x=u->a.eval y=v->(∃z,(do eqGuard op xt x y u v;Go.binOp op xt u v:Sem qE).run P w= .ok z w/\zM g w q.2 z)->rR P o a g w H ⟨q.1,(q.2,none),[],[]⟩:=by
  rintro u v rfl rfl ⟨z,hz,j⟩;refine rR.pure hH (v:=z) ?_ j;unfold execOp;rw[ho];simp only[aF4,aGg] at hz|-;rw[hz];rfl
 replace O:=O.1;replace M:=M.1;generalize G:s5 T xt=oti at hq;unfold cu at hq;split at hq
 .rename_i u el by' ar ls_ t l k k';have j:=(tB hT G).2;simp only[xY] at j;obtain⟨ax,cx,ex,hle,U⟩:=F4 O;have F:ax=none->l=[]:=fun h=>by
   rcases U with E|⟨b,o,E,_⟩
   .exact E
   rw[h] at E;cases E
  have ey:a.eval y= .slice none 0 0:=M;refine go ex ey ?_;unfold V5 at hq;split at hq
  .cases hq;have E:(do eqGuard .eql xt x y (.slice ax (List.length l) cx) (.slice none 0 0);Go.binOp .eql xt (.slice ax (List.length l) cx) (.slice none 0 0):Sem qE).run P w= .ok (.bool ax.isNone) w:=by
    simp only[aF4];rw[show (eqGuard .eql xt x y (.slice ax (List.length l) cx) (.slice none 0 0)).run P w= .ok () w from by simp [eqGuard]];exact Lib.run_eql_slice_nil (P:=P) w xt _ ax (List.length l) cx 0 0 j.1
   exact⟨_,E,_,rfl,fun h=>F (by simpa using h),fun _=>trivial⟩
  .cases hq;have E:(do eqGuard .neq xt x y (.slice ax (List.length l) cx) (.slice none 0 0);Go.binOp .neq xt (.slice ax (List.length l) cx) (.slice none 0 0):Sem qE).run P w= .ok (.bool (!ax.isNone)) w:=by
    simp only[aF4];rw[show (eqGuard .neq xt x y (.slice ax (List.length l) cx) (.slice none 0 0)).run P w= .ok () w from by simp [eqGuard]];exact run_neq_slice_nil_any (P:=P) w xt _ ax (List.length l) cx 0 0 j.1
   exact⟨_,E,_,rfl,fun _=>trivial,fun h=>F (by simpa using h)⟩
  cases hq
 .rename_i u el by' ar ls_ k t l k';have j:=(tB hT G).2;simp only[xY] at j;obtain⟨ay,cy,ey,hle,U⟩:=F4 M;have F:ay=none->l=[]:=fun h=>by
   rcases U with E|⟨b,o,E,_⟩
   .exact E
   rw[h] at E;cases E
  have ex:a.eval x= .slice none 0 0:=O;refine go ex ey ?_;unfold V5 at hq;split at hq
  .cases hq;have E:(do eqGuard .eql xt x y (.slice none 0 0) (.slice ay (List.length l) cy);Go.binOp .eql xt (.slice none 0 0) (.slice ay (List.length l) cy):Sem qE).run P w= .ok (.bool ay.isNone) w:=by
    simp only[aF4];rw[show (eqGuard .eql xt x y (.slice none 0 0) (.slice ay (List.length l) cy)).run P w= .ok () w from by simp [eqGuard]];exact run_eql_nil_slice (P:=P) w xt _ ay (List.length l) cy 0 0 j.1
   exact⟨_,E,_,rfl,fun h=>F (by simpa using h),fun _=>trivial⟩
  .cases hq;have E:(do eqGuard .neq xt x y (.slice none 0 0) (.slice ay (List.length l) cy);Go.binOp .neq xt (.slice none 0 0) (.slice ay (List.length l) cy):Sem qE).run P w= .ok (.bool (!ay.isNone)) w:=by
    simp only[aF4];rw[show (eqGuard .neq xt x y (.slice none 0 0) (.slice ay (List.length l) cy)).run P w= .ok () w from by simp [eqGuard]];exact run_neq_nil_slice (P:=P) w xt _ ay (List.length l) cy 0 0 j.1
   exact⟨_,E,_,rfl,fun _=>trivial,fun h=>F (by simpa using h)⟩
  cases hq
 .rename_i el by' ar ls_ x' k1 k2;have j:=(tB hT G).2;simp only[xY] at j;obtain⟨fa,fb,fc,j⟩:=j.1;have ey:a.eval y= .nilFunc:=by
   have:=y5 rfl M;simpa[Rd,K0] using this
  obtain⟨hf,hm⟩:(a.eval x= .nilFunc\/∃f y z,a.eval x= .func f y z)/\ID (a.eval x)=decide (x'.1=0):=by
   obtain⟨c,i,⟨k3,n3⟩,⟨k4,n4⟩⟩:=x';rcases y5 rfl O with⟨h0,e⟩ |⟨h0,b,α,e,_⟩
   .simp only[aGD,and_true] at e;rw[e];exact⟨.inl rfl,by simp [h0,ID]⟩
   simp only[aGD,and_true] at e;rw[e];exact⟨.inr ⟨_,_,_,rfl⟩,by simp [h0,ID]⟩
  have D:=Oh (P:=P) (w:=w) j (a.eval x) hf;rw[hm] at D;refine go rfl ey ?_;have I: ∀op,(eqGuard op xt x y (a.eval x) .nilFunc).run P w= .ok () w:=fun op=>by
   rcases hf with e|⟨f,x1,x2,e⟩<;>rw[e]<;>cases op<;>simp [eqGuard]
  unfold ON at hq;split at hq
  .rename_i r e1;cases e1;cases hq;exact⟨_,by simp only[aF4,I,aFX];exact D.1,vV _ _ _⟩
  .rename_i r e1;cases e1;cases hq;exact⟨_,by simp only[aF4,I,aFX];exact D.2,vV _ _ _⟩
  cases hq
 .rename_i el by' ar ls_ x' k1 k2;have j:=(tB hT G).2;simp only[xY] at j;obtain⟨fa,fb,fc,j⟩:=j;have ey:a.eval y= .nilFunc:=by
   have:=y5 rfl M;simpa[Rd,K0] using this
  obtain⟨hf,hm⟩:(a.eval x= .nilFunc\/∃f y z,a.eval x= .func f y z)/\ID (a.eval x)=zS x':=by
   have e:=y5 rfl O;cases x' with
   |none=>
    simp only[Rd,X0,aGD,and_true] at e;rw[e];exact⟨.inl rfl,rfl⟩
   |some f=>
    simp only[Rd,X0,aGD,and_true] at e;rw[e];exact⟨.inr ⟨_,_,_,rfl⟩,rfl⟩
  have D:=Oh (P:=P) (w:=w) j (a.eval x) hf;rw[hm] at D;refine go rfl ey ?_;have I: ∀op,(eqGuard op xt x y (a.eval x) .nilFunc).run P w= .ok () w:=fun op=>by
   rcases hf with e|⟨f,x1,x2,e⟩<;>rw[e]<;>cases op<;>simp [eqGuard]
  unfold ON at hq;split at hq
  .rename_i r e1;cases e1;cases hq;exact⟨_,by simp only[aF4,I,aFX];exact D.1,vV _ _ _⟩
  .rename_i r e1;cases e1;cases hq;exact⟨_,by simp only[aF4,I,aFX];exact D.2,vV _ _ _⟩
  cases hq
 .rename_i u el b ar ls_ t x' k t' y' k' _ _;unfold Jk at hq;split at hq
  .rename_i ha;subst ha;split at hq
   .rename_i hc;obtain⟨rfl,hc⟩:=hc;simp only[uM] at hq;obtain⟨r,X,D⟩: ∃r,CZ t' x' y'=some r/\((op= .eql/\q=([],.val .bool r))\/(op= .neq/\q=([],.val .bool (!r)))):=by
     generalize hk:CZ t' x' y'=od at hq;unfold ON at hq;split at hq
     .rename_i r;cases hq;exact⟨r,rfl,.inl ⟨rfl,rfl⟩⟩
     .rename_i r;cases hq;exact⟨r,rfl,.inr ⟨rfl,rfl⟩⟩
     cases hq
    have Q:=tB hT G;rcases hc with rfl|⟨K,rfl⟩
    .have j:=Q.2;simp only[xY] at j;obtain hj:=vU O;obtain hg:=vU M;refine go hj hg ?_;have he:r=(x'==y'):=(aFU X).symm;subst he;have R:=run_equalIn_bool' (P:=P) w 9999 xt x' y' j;rcases D with⟨rfl,rfl⟩ |⟨rfl,rfl⟩
     .refine⟨.bool (x'==y'),?_,vV _ _ _⟩;simp only[aF4];rw[show (eqGuard .eql xt x y (.bool x') (.bool y')).run P w= .ok () w from by simp [eqGuard]];simp only[aFX,Go.binOp,Op.equal,Op.maxDepth,aF4,R,aGg]
     refine⟨.bool (!(x'==y')),?_,vV _ _ _⟩;simp only[aF4];rw[show (eqGuard .neq xt x y (.bool x') (.bool y')).run P w= .ok () w from by simp [eqGuard]];simp only[aFX,Go.binOp,Op.equal,Op.maxDepth,aF4,R,aGg]
    have h2:=Q.2;have heq:P.eqGuardType P.depth xt=false/\∃h,h<9000/\zN P h (.ty xt) t':=by
     unfold xY at h2;cases t'<;>simp only[Ty.isRow,aHh] at K
     all_goals exact h2.2 rfl
    obtain⟨Y,hh,hn,hE⟩:=heq;obtain⟨cx,ex,rx⟩:=MS K O;obtain⟨cy,ey,ry⟩:=MS K M;obtain⟨b',Z,V⟩:=hE.run (g:=g) (w:=w) 9999 pT x' y' _ _ O M;rw[X] at Z;obtain rfl:=aFU Z;rw[ex,ey] at V;refine go ex ey ?_;rcases D with⟨rfl,rfl⟩ |⟨rfl,rfl⟩
    .refine⟨.bool r,?_,vV _ _ _⟩;simp only[aF4];rw[run_eqGuard_agg w _ _ _ _ _ _ Y];simp only[aFX];rw[run_eql_struct,V];rfl
    refine⟨.bool (!r),?_,vV _ _ _⟩;simp only[aF4];rw[run_eqGuard_agg w _ _ _ _ _ _ Y];simp only[aFX];rw[run_neq_struct,V];rfl
   cases hq
  cases hq
 cases hq
end
end Go.Proofs.YtcpbaddnmpeipaaGreatDoor.Vc
namespace Go.Proofs.YtcpbaddnmpeipaaGreatDoor.Vc
open Go.RowKit
theorem a5U (s:pP):Lib.strCells ⟨s.toArray⟩=s.map fun b=>Value.int .u8 b.toNat:=by
 simp [Lib.strCells]
theorem a5V {P:Program}(w:qD) (t u ty e:TypeId) (i:TypeInfo) (ht:P.underlying t=some (.slice e)) (Z:P.underlying u=some .string) (hi:P.info? e=some i) (hz:i.zero=some (.int .u8 0))
  (F:i.size=1) (R:i.bytes=1) (v:qE) (n:Nat) (xs:q8) (E:w.ownsRow 0 e 1 v n xs) (s:ByteArray) (hm:0<s.size)
  (U:n+s.size<=maxLen) (Y:n+s.size<=140737488355328):
  ∃q cap w',(Builtin.append_ #[t,u] ty #[v,.string s]).run P w= .ok (.slice (some ⟨q,0,none⟩) (n+s.size) cap) w'/\w'.ownsRow 0 e 1 (.slice (some ⟨q,0,none⟩) (n+s.size) cap) (n+s.size) (xs++Lib.strCells s)/\
   (q=w.heap.size\/v.ownBlock=some q)/\w.grownBy w' v.ownBlock/\n+s.size<=cap/\
   ∀b o,b<w.heap.size->(v.ownBlock=some b->o<n*1)->w'.cell? ⟨b,o,none⟩=w.cell? ⟨b,o,none⟩:=by
 have X:n+s.size<=9223372036854775807:=by simp only[maxLen] at U;omega
 have G:xs.length=n:=by simpa using E.1
 have D:(xs++Lib.strCells s).length=(n+s.size)*1:=by rw[aFR,G,Lib.strCells_length,aHy]
 have grown: ∀(old:Nat),old<n+s.size->∀(row:qB),
   (w.drew.alloc (.cells (xs.toArray++(Lib.strCells s).toArray++Builtin.zeroCells (Value.int .u8 0).cells (grownCap w (n+s.size) old e- (n+s.size))) e)).ownsRow 0 e 1
    (.slice (some ⟨w.heap.size,0,none⟩) (n+s.size) (grownCap w (n+s.size) old e)) (n+s.size) (xs++Lib.strCells s)/\
   w.grownBy (w.drew.alloc (.cells (xs.toArray++(Lib.strCells s).toArray++Builtin.zeroCells (Value.int .u8 0).cells (grownCap w (n+s.size) old e- (n+s.size))) e)) row/\n+s.size<=grownCap w (n+s.size) old e/\
   ∀b o,b<w.heap.size->(w.drew.alloc (.cells (xs.toArray++(Lib.strCells s).toArray++Builtin.zeroCells (Value.int .u8 0).cells (grownCap w (n+s.size) old e- (n+s.size))) e)).cell? ⟨b,o,none⟩=w.cell? ⟨b,o,none⟩:=by
  intro old ho row;have Q:=grownCap_ge w (n+s.size) old e;have hcm:grownCap w (n+s.size) old e<=maxLen:=grownCap_le_maxLen w (n+s.size) old e U;refine⟨⟨D,.inr ⟨w.heap.size,_,_,rfl,aGS _,aHX w.drew _,Q,hcm,?_,?_⟩⟩,⟨rfl,rfl,rfl,by simp,fun k hk _=>aGm w.drew _ k hk⟩,Q,fun b o hb=>aGf (w:=w) (a:=⟨b,o,none⟩) (aGm w.drew _ b hb)⟩
  .have ha:(Value.int IntKind.u8 0).cells.size=1:=rfl;simp only[aH0,aGT,size_zeroCells,ha,G,Lib.strCells_length];omega
  simp only[Array.toList_append,aF3];rw[<-aF3,<-D];exact aHe
 rcases E.2 with⟨rfl,rfl⟩ |⟨g,cap,cur,rfl,hh,V,hv,hcm,he,K⟩
 .have hx:xs=[]:=aGl G;subst hx;have hr:=run_append_nil_string (P:=P) w t u ty e i (.int .u8 0) ht Z hi hz s pT pT (by rw[R];omega);have h:=grown 0 pT (Value.ownBlock (.slice none 0 0));simp only[aGk,List.nil_append,Array.empty_append] at h|-;have e1:(s.data.map fun b=>Value.int .u8 b.toNat)=(Lib.strCells s).toArray:=by
   apply Array.ext';simp [Lib.strCells]
  rw[e1] at hr;exact⟨_,_,_,hr,h.1,.inl rfl,h.2.1,h.2.2.1,fun b o hb _=>h.2.2.2 b o hb⟩
 by_cases z:n+s.size<=cap
 .have hn:cur.size=cap:=by simpa using he
  have hr:=Lib.run_append_room_string (P:=P) w t u ty e i ht Z hi F g n cap cur V s z pT;refine⟨_,_,_,hr,⟨D,.inr ⟨g,cap,_,rfl,hh,aH1 w g cur _ e _ V,z,hcm,?_,?_⟩⟩,.inr rfl,⟨rfl,rfl,rfl,by simp,fun k _ hk=>aHG w g k _ (fun e=>hk (by simp [Value.ownBlock,e]))⟩,z,fun b o hb hd=>?_⟩
  .simp only[aGT,aFR,aGy,aGp,aGP,Lib.strCells_length];omega
  .have hc:cur.toList.take n=xs:=by simpa using K
   rw[hc,<-D];exact aHe
  by_cases I:b=g
  .subst I;have ho:=hd rfl;rw[cell_setRow_same w b o cur _ e _ V,cell_of_row w b o cur e (0,0) V];have O:o<(cur.toList.take n).length:=by rw[aGy,aGP];omega
   have hj:o<cur.size:=by rw[aGy,aGP] at O;omega
   simp only[List.getElem?_toArray,aF3];rw[aF9 O,List.getElem?_take,aFP pT];simp
  exact aGf (a:=⟨b,o,none⟩) (aHG w g b _ I)
 have M: ∀j u,xs[j]? =some u->w.cell? ((⟨g,0,none⟩:Addr).add j)=some u:=E.cells (g:=g) rfl;have hr:=Lib.run_append_grow_string (P:=P) w t u ty e i (.int .u8 0) ht Z hi hz ⟨g,0,none⟩ n cap xs (by rw[F];simpa using G) M s pT pT (by rw[R];exact growslice_fits pT pT);have h:=grown cap pT (Value.ownBlock (.slice (some ⟨g,0,none⟩) n cap));exact⟨_,_,_,hr,h.1,.inl rfl,h.2.1,h.2.2.1,fun b o hb _=>h.2.2.2 b o hb⟩
theorem a5W {P:Program}(w:qD) (t u ty e:TypeId) (i:TypeInfo) (z:P.underlying t=some (.slice e)) (j:P.underlying u=some .string) (hi:P.info? e=some i) (h:i.size=1) (ad:Option Addr) (n c:Nat) (hle:n<=c):
  (Builtin.append_ #[t,u] ty #[.slice ad n c,.string ⟨#[]⟩]).run P w= .ok (.slice ad n c) w:=by
 have hf:=Lib.run_firstCells_string (P:=P) w 1 ⟨#[]⟩;have hm:(⟨#[]⟩:ByteArray).size=0:=rfl;rw[hm] at hf;cases ad<;>simp [Builtin.append_,aGe z,aGe j,sizeOf,typeInfo,hi,h,Builtin.lenOf,hm,hf,hle,Lib.strCells,storeCells]
theorem Oi (g:Gh) (w:qD): ∀s:pP,uI (Rd g w (.int .u8)) 1 (uY s) (s.map fun b=>Value.int .u8 b.toNat)
 |[]=>rfl
 |b::s=>⟨[.int .u8 b.toNat],_,rfl,rfl,rfl,Oi g w s⟩
section
variable {P:Program}{o:Oper}{a:Act}{g:Gh}{w:qD}{H:sJ}{T:sZ}(hT:xZ P T) (hH:sO g w H)
include hT hH
theorem a5X {t t':TypeId}{x:Operand}(ho:o.op= .convert t t' x) {sx:qQ}(j:rX g w sx (a.eval x)) {e:r6}
  (hr:BH (db T (s5 T t) (s5 T t') sx)=some e):rR P o a g w H e:=by
 obtain⟨q,hq,rfl⟩:=K3 hr;replace j:=j.1;generalize F:s5 T t=o1 at hq;generalize E:s5 T t'=o2 at hq;unfold db at hq;split at hq
 .rename_i e b1 a1 l1 e2 b2 a2 l2 l k;generalize h3:s5 T e=o3 at hq;unfold Jl at hq;split at hq
  .cases hq;have d1:=(tB hT F).2;have d2:=(tB hT E).2;have d3:=(tB hT h3).2;simp only[xY] at d1 d2 d3;obtain⟨ad,cap,z,hle,hl⟩:=F4 j;refine rR.pure hH (v:= .string ⟨(tO l).toArray⟩) ?_ (DC _ _ _);simp only[execOp,ho,z,aF4];have run:(convert t t' (.slice ad (List.length l) cap)).run P w= .ok (.string ⟨(tO l).toArray⟩) w:=by
    rcases hl with rfl|⟨b,off,rfl,D⟩
    .rw[run_convert_bytes_string w t t' e ad _ cap d1.1 d3 d2];cases ad with
     |none=>simp [Conv.bytesToString,tO];rfl
     |some ad=>simp [Conv.bytesToString,loadCells,loadCellsFrom,tO];rfl
    have:=run_convert_bytes_arg (P:=P) w t e d1.1 d3 b off (List.length l) cap l rfl (fun i hi=>by
     obtain⟨cs,_,c2,_,c4⟩:=MT D (aFW hi);have c5:cs=[.int .u8 (l[i]:Int)]:=c4;subst c5;have:=c2 0 _ rfl;have h:Ty.cells (.int .u8)=1:=rfl;rw[h,aHy,aG0] at this;rw[this,aGb,aFW hi];rfl) t' d2
    exact this
   rw[run];rfl
  cases hq
 cases hq
theorem a5Y {args:Array Operand}{tys:Array TypeId}(ho:o.op= .call ⟨.builtin .append,args,tys⟩) {ρ:Operand->qQ}(hρ: ∀x∈args.toList,rX g w (ρ x) (a.eval x)) {e:r6}
  (hr:WJ T H (w6 ρ args.toList) tys.toList=some e) (hs: ∀p∈e.side,p):rR P o a g w H e:=by
 unfold WJ at hr;split at hr
 .rename_i t u hn;have K:tys= #[t,u]:=by apply aG3.1;rw[hn]
  split at hr
  .rename_i e1;subst e1;exact a5h hT hH ho hρ K hr hs
  clear hn;subst K;generalize hst:s5 T t=ot at hr;generalize hG:s5 T u=ou at hr;generalize hI:w6 ρ args.toList=ss at hr;unfold ft at hr;split at hr
  .rename_i el ar ls_ e2 b2 a2 ls2 l k s k2;generalize hk:qS H k=ob at hr;unfold WI at hr;split at hr
   .rename_i e' c n;split at hr
    .rename_i hN;obtain⟨rfl,rfl⟩:=hN;cases hr;rw[aFR];have G:List.length (uY s)=List.length s:=by simp [uY]
     rw[G];have z:=hs _ (by simp:(List.length l=n)∈_);have hR:=hs _ (by simp:(List.length l+List.length s<=140737488355328)∈_);obtain⟨v,vr,hv,V,hJ⟩:=X6 hT hH hρ hI;obtain⟨R,h3,_⟩:=(tB hT hst).2;have hu:=(tB hT hG).2;simp only[xY] at hu;obtain⟨ei,hA,hz⟩:=aF6.1 h3;simp only[aGi] at hz;obtain⟨cs,hx⟩:=I9 (a:=a) hT hH ho;obtain⟨v0,xs,hh,D,ha,Z⟩:=hH.blk k _ hk;have O:g.cur k (List.length l)=some v:=V.2;rw[z,hh] at O;obtain rfl:=aFU O;obtain⟨adl,capl,U,hD,hL⟩:=F4 V.1;have he:=x7 hJ.1;have I:(⟨List.toArray s⟩:ByteArray).size=List.length s:=by simp [ByteArray.size]
     by_cases hm:List.length s=0
     .obtain rfl:s=[]:=aGl hm;have E: ∀i,qS (rD [(k,qP.grow e' 1 (List.length l+List.length ([]:pP)))] H) i=qS H i:=by
       intro i;simp only[rD,qS];by_cases hi:k=i
       .subst hi;rw[aFP rfl,hk,z];rfl
       rw[aFQ hi]
      have hc:rU g w H ⟨[List.length l=n,List.length l+List.length ([]:pP)<=140737488355328],(.val (.list (.int .u8)) (l++uY []),some k),[(k,.grow e' 1 (List.length l+List.length ([]:pP)))],[k]⟩ g w v0:=by
       refine⟨.refl _ _,?_,⟨fun i b h=>hH.blk i b ((E i).symm.trans h),fun i j bi bj b o' hM h1 R=>hH.dis i j bi bj b o' hM ((E i).symm.trans h1) ((E j).symm.trans R),hH.sl,hH.tab.1,fun i blk b o' h X=>hH.tab.2 i blk b o' ((E i).symm.trans h) X⟩,.refl _ _ _,fun i blk b o' hi hg X=> .inr ⟨i,blk,hi,(E i).symm.trans hg,X⟩,fun _ _=>⟨rfl,rfl⟩,fun i u' y us h=> .inl ⟨y,us,(E i).symm.trans h⟩⟩;rw[show l++uY []=l from by simp [uY]];exact V
      refine rR.value (v:=v0) (w':=w) ?_ hc;rw[hx,hv,he,U];have:=a5W (P:=P) w t u o.type e' ei R hu hA (by rw[hz.1];rfl) adl (List.length l) capl hD;simp only[builtin,aF4];rw[this];simp only[aFX,aGg]
     have hE:uI (Rd g w (.int .u8)) 1 l xs:=by
      by_cases h0:List.length l=0
      .obtain rfl:l=[]:=aGl h0;have:xs=[]:=aGl (by rw[D.1,<-z];simp);exact this
      rcases hL with rfl|⟨b0,off0,rfl,hQ⟩
      .exact absurd rfl h0
      obtain⟨ls,hB,hC,_⟩:=S5 hQ;rcases D.2 with⟨e1,e2⟩ |⟨q,cap,cur,e1,e2⟩
      .exact absurd (z.trans e2) h0
      rw[U] at e1;simp only[aHw,aFO,Addr.mk.injEq] at e1;obtain⟨⟨rfl,rfl,_⟩,_,rfl⟩:=e1;have hF:v0= .slice (some ⟨b0,0,none⟩) n capl:=by rw[U,z]
      have hK:=im (hF▸D);have:ls=xs:=by
       have Y:=MN hB;have ht:=D.1;have hP:Ty.cells (.int .u8)=1:=rfl;rw[hP] at Y;apply List.ext_getElem?;intro j;by_cases hj:j<ls.length
       .have h1:=hC j ls[j] (aFW hj);have hy:j<xs.length:=by rw[ht,<-z,<-Y];exact hj
        have R:=hK j xs[j] (aFW hy);rw[h1] at R;rw[aFW hj,aFW hy,aFU R]
       rw[aG7 pT,aG7 (by rw[ht,<-z,<-Y];omega)]
      rw[<-this];exact hB
     obtain⟨q,cap,w',M,F,hq,hg,Q,hd⟩:=a5V (P:=P) w t u o.type e' ei R hu hA hz.2.2 hz.1 hz.2.1 v0 n xs D ⟨List.toArray s⟩ (by rw[I];omega) (by rw[I];unfold maxLen;omega) (by rw[I];omega);rw[I] at M F Q;rw[a5U] at F;refine rR.value (v:= .slice (some ⟨q,0,none⟩) (n+List.length s) cap) (w':=w') ?_ (by
      have:=rU.append (side:=[List.length l=n,List.length l+List.length s<=140737488355328]) (rds:=[k]) (u:= .int .u8) (r:=uY s) hH hk (show (1:Nat)=Ty.cells (.int .u8) from rfl) z hh D ha Z hE (Oi g w s) (by rw[G];omega) (by rw[G];exact F) hq hg (by rw[G];exact Q) hd;rw[G] at this;rw[z];rw[z] at this;exact this)
     rw[hx,hv,he];simp only[builtin,aF4,M,aFX,aGg]
    cases hr
   cases hr
  cases hr
 cases hr
end
theorem a5Z {g g':Gh}{w:qD}{f:qQ->qQ}(hf: ∀s u,rX g w s u->rX g' w (f s) u): ∀{l:List qQ}{v:qE}{s:qQ},S8 g w l v->OS (l.map f)=some s->rX g' w s v:=by
  have un: ∀{l:List qQ}{vs:q8}{q},vJ g w l vs->HW (l.map f)=some q->K1 g' w q vs:=by
    intro l
    induction l with
    | nil=>
      intro vs q h hq;simp only[List.map_nil,HW,aFO] at hq;subst hq;exact h
    | cons s l ih=>
      rintro vs q ⟨v,vs',rfl,E,D⟩ hq;have j:=hf s v E;simp only[aGU] at hq;generalize f s=fs at hq j;obtain⟨d,k⟩:=fs;cases d with
      | val t x=>
        simp only[HW] at hq;obtain⟨q',z,rfl⟩:=aF6.1 hq;refine⟨v,vs',rfl,j.1,?_,ih D z⟩;cases k with
        |none=>trivial
        |some k=>exact j.2
      | own k' n=>
        simp only[HW] at hq;obtain⟨q',z,rfl⟩:=aF6.1 hq;exact⟨v,vs',rfl,.inr ⟨rfl,v,j.1.1,rfl,j.1.2⟩,trivial,ih D z⟩
      |_=>simp [HW] at hq
  intro l v s h hs
  match l,h,hs with
  | [],⟨vs,e,h⟩,hs=>
    simp only[List.map_nil,OS,aFO] at hs;subst hs;rw[show vs=[] from h] at e;exact⟨⟨[],e,rfl⟩,trivial⟩
  | [x],h,hs=>
    simp only[aGU,List.map_nil,OS,aFO] at hs;subst hs;exact hf x v h
  | x::y::l,⟨vs,e,h⟩,hs=>
    simp only[aGU,OS,aFO] at hs;subst hs;cases hq:HW (f x::f y::l.map f) with
    |none=>exact⟨trivial,trivial⟩
    |some q=>exact⟨⟨vs,e,un (l:=x::y::l) h (by simpa using hq)⟩,trivial⟩
theorem Oj {base n:Nat}{W:List rY}: ∀l:List qQ,RB base n W l=l.map (VE base n W)
  |[]=>rfl
  |s::l=>by simp [RB,Oj l]
theorem Ok {P:Program}{f:FuncId}{sg:rM}(O:xJ P f sg.C) {g:Gh}{w:qD}{H:sJ}(hH:sO g w H) {args:List qQ}{vals:q8}(I:vJ g w args vals) {base:Nat}{e:r6}
    (hr:HY H base args (some sg)=some e) (hs: ∀p∈e.side,p) (M:yS g base e):Calls P f vals.toArray w (fun en w'=> ∃v g',en= .returned v/\rU g w H e g' w' v):=by
  simp only[HY] at hr;cases F:yN H sg.ps args (some ⟨[],[],[],0⟩) with
  |none=>rw[F] at hr;cases R:sg.gs<;>(rw[R] at hr;simp [RC,CG] at hr)
  |some q0=>
   rw[F] at hr;cases hp:CG H sg.gs (some q0) with
   |none=>rw[hp] at hr;simp [RC] at hr
   |some q=>
    rw[hp] at hr;simp only[RC,Ny,List.append_nil] at hr;have E:=Nt hH (CR.nil g w H) I F;rw[List.nil_append] at E;have K:=Nv hH E hp;cases G:JQ q.ws.reverse q.H.reverse with
    |none=>rw[G] at hr;simp [VH] at hr
    |some L=>
    rw[G] at hr;simp only[VH] at hr;have hm:=K.m.ren G;cases Q:sg.C q.args.reverse L with
    |none=>rw[Q] at hr;simp [VG] at hr
    | some r=>
      rw[Q] at hr;simp only[VG,Nx] at hr;cases D:CI base r.H.length q.ws.reverse 0 q.ws.reverse r.H with
      |none=>rw[D] at hr;simp [RA] at hr
      | some upd=>
        rw[D] at hr;cases z:OS (RB base r.H.length q.ws.reverse r.ret) with
        |none=>rw[z] at hr;simp [RA] at hr
        | some s=>
          rw[z] at hr;simp only[RA,aFO] at hr;subst hr;refine(O.2 (vL g q.ws.reverse) w q.args.reverse _ L r (a5z hH hm) K.args Q hs).mono ?_;rintro en w' ⟨v,g',rfl,j⟩;refine⟨v,_,rfl,a5P hH hm j D M ?_⟩;rw[Oj] at z;exact a5Z (fun s u h=>a5N hH hm j D M h) j.ret z
theorem MZ {g g':Gh}{w w':qD}: ∀{t:Ty}{x:t.den}{cs:q8},HZ t=true->Rd g w t x cs->Rd g' w' t x cs
  | .bool,_,_,_,r=>r
  | .int _,_,_,_,r=>r
  | .str,_,_,_,r=>r
  | .unit,_,_,_,r=>r
  | .fn,_,_,_,r=>r
  | .pair a b,_,_,h,⟨c1,c2,e,r1,r2⟩=>by
    simp only[HZ,aF0] at h;exact⟨c1,c2,e,MZ h.1 r1,MZ h.2 r2⟩
  | .list _,_,_,h,_=>by cases h
  | .ref,_,_,h,_=>by cases h
  | .clo,_,_,h,_=>by cases h
  | .mp,_,_,h,_=>by cases h
  | .rl _ _,_,_,h,_=>by cases h
  | .mref,_,_,h,_=>by cases h
  | .ap,_,_,h,_=>by cases h
theorem Ol {g g':Gh}{w:qD}{k n:Nat}{t:Ty}{l:List t.den}(le:Le g w g' w) (E: ∀u,g.cur k n=some u->((u= .slice none 0 0/\n=0)\/∃b cap,u= .slice (some ⟨b,0,none⟩) n cap/\n<=cap)->tJ g' w (.list t) l u):
    ∀{args:List qQ}{vals:q8},vJ g w args vals->(∀p∈M3 k n args,p)->vJ g' w (RE k t l args) vals
  |[],_,h,_=>h
  | s::ss,_,⟨v,vs,rfl,D,F⟩,hp=>by
    refine⟨v,vs,rfl,?_,Ol le E F (fun p z=>hp p ?_)⟩
    · obtain⟨d,x⟩:=s
      cases d with
      | own j m=>
        simp only[Jy];split
        · rename_i e
          subst e;have hm:m=n:=hp (j=j->m=n) (by simp only[M3];exact aGa) rfl;subst hm;exact⟨E _ D.1.1 D.1.2,trivial⟩
        .exact EC le D
      |_=>exact EC le D
    obtain⟨d,x⟩:=s
    cases d with
    |own j m=>simp only[M3];exact aF2 _ z
    |_=>exact z
theorem Om {g g':Gh}{w w':qD}: ∀{l:List ((Σ t:Ty,t.den)×qB)}{vs:q8},VI l=true->K1 g w l vs->K1 g' w' (dg l) vs
  |[],_,_,h=>h
  | (⟨t,x⟩,k)::l,vs,j,⟨v,vs',e,z,D,h3⟩=>by
    simp only[VI,aF0] at j;exact⟨v,vs',e,z.imp (fun⟨a,cs,e,q⟩=>⟨a,cs,e,MZ j.1 q⟩) (fun⟨a,q⟩=>⟨a,MZ j.1 q⟩),trivial,Om j.2 h3⟩
theorem a52 {g g':Gh}{w w':qD}{s s':qQ}{v:qE}(h:VJ s=some s') (hr:rX g w s v):rX g' w' s' v:=by
  unfold VJ at h;split at h
  · split at h
    · rename_i j
      cases h;exact⟨hr.1.imp (fun⟨a,cs,e,q⟩=>⟨a,cs,e,MZ j q⟩) (fun⟨a,q⟩=>⟨a,MZ j q⟩),trivial⟩
    cases h
  · split at h
    · rename_i j
      cases h;obtain⟨vs,e,q⟩:=hr.1;exact⟨⟨vs,e,Om j q⟩,trivial⟩
    cases h
  cases h
theorem a54 {P:Program}{f:FuncId}{sg:rM}(hB:xJ P f sg.C) {g:Gh}{w:qD}{H:sJ}(hH:sO g w H) {args:List qQ}{vals:q8}(hn:vJ g w args vals) {base:Nat}{e:r6}{k:Nat}
    (hr:RF H base args sg k (qS H k)=some e) (hs: ∀p∈e.side,p) (hM:yS g base e):Calls P f vals.toArray w (fun en w'=> ∃v g',en= .returned v/\rU g w H e g' w' v):=by
  cases hk:qS H k with
  |none=>rw[hk] at hr;cases hr
  | some b=>
    rw[hk] at hr;cases b with
    | row e0 t l m=>
      simp only[RF] at hr;cases hi:HY ((k,.dead)::H) base (RE k t l args) (some sg) with
      |none=>rw[hi] at hr;cases hr
      | some e1=>
        rw[hi] at hr;obtain⟨side,s0,U,rds⟩:=e1;simp only[di] at hr;cases Z:VJ s0 with
        |none=>rw[Z] at hr;cases hr
        | some s1=>
          rw[Z] at hr;simp only[dh] at hr;split at hr
          · rename_i hx
            simp only[aF0,aGj] at hx;obtain⟨Y,hy⟩:=hx;have hA:k∉qU U:=fun h=>by rw[IB.2 h] at hy;cases hy
            cases hr;obtain⟨hl,v,xs,hv,R,hF,hQ,hP⟩:=hH.blk k _ hk
            let g':Gh:={g with S:=fun b o=>g.S b o\/(v.ownBlock=some b/\o<m*t.cells)}
            have le:Le g w g' w:=⟨fun _ _ h=> .inl h,fun _ _ _=>rfl,fun _ _ h=>h,fun _ _ _ h=>h⟩;have he: ∀b,v.ownBlock=some b->∀o,sL g k (.row e0 t l m) b o:=fun b hb o=>⟨v,hv,hb⟩
            have hh: ∀u,g.cur k m=some u->((u= .slice none 0 0/\m=0)\/∃b cap,u= .slice (some ⟨b,0,none⟩) m cap/\m<=cap)->tJ g' w (.list t) l u:=by
              intro u hu O;rw[hv] at hu;obtain rfl:=aFU hu;rcases O with⟨rfl,h0⟩ |⟨b,cap,rfl,hC⟩
              · have:l=[]:=aGl (by rw[hl,h0])
                subst this;exact .inr ⟨rfl,none,0,rfl,aGc _,.inl rfl⟩
              refine .inr ⟨rfl,some ⟨b,0,none⟩,cap,by rw[hl],by rw[hl];exact hC,.inr ⟨b,0,rfl,K4 (DA (fun _ _ h=>wW le h) hF) (fun j u hu=>?_) (fun j hj=>?_)⟩⟩
              · have:=R.cells (g:=b) rfl j u hu
                rwa [aG8] at this
              right
              exact⟨rfl,by rw[hl] at hj;omega⟩
            have E: ∀i b,qS ((k,qP.dead)::H) i=some b->(i=k/\b= .dead)\/(i≠k/\qS H i=some b):=by
              intro i b hb;simp only[qS] at hb;split at hb
              .rename_i e1;exact .inl ⟨e1.symm,(aFU hb).symm⟩
              rename_i e1;exact .inr ⟨Ne.symm e1,hb⟩
            have hN:sO g' w ((k,qP.dead)::H):=by
              refine⟨fun i b hb=>?_,fun i j bi bj b o hc M h2 o1 o2=>?_,fun b o F=>?_,hH.tab.1,fun i b bb oo hb ho=>?_⟩
              · rcases E i b hb with⟨rfl,rfl⟩ |⟨hne,M⟩
                .trivial
                exact K2 (hH.blk i b M) le rfl rfl (fun _ _ _=>⟨rfl,rfl⟩) (fun _ _=>rfl) (fun bb o ho F=>by
                   rcases F with F|F
                   .exact F
                   exact absurd (he bb F.1 o) (fun h5=>hH.dis i k b _ bb o hne M hk ho h5)) (fun _ _ _ _ h=>h)
              · rcases E i bi M with⟨_,rfl⟩ |⟨_,M⟩
                .exact o1.elim
                rcases E j bj h2 with⟨_,rfl⟩ |⟨_,h2⟩
                .exact o2.elim
                exact hH.dis i j bi bj b o hc M h2 ((xX (g':=g') (g:=g) rfl rfl).1 o1) ((xX (g':=g') (g:=g) rfl rfl).1 o2)
              · rcases F with F|F
                .exact hH.sl b o F
                exact MO R F.1
              rcases E i b hb with⟨_,rfl⟩ |⟨_,M⟩
              .exact ho.elim
              exact hH.tab.2 i b bb oo M ((xX (g':=g') (g:=g) rfl rfl).1 ho)
            have ht: ∀p,p∈M3 k m args\/p∈side->p:=fun p hp=>hs p (I8.2 hp)
            have K: ∀i,i≠k->qS ((k,qP.dead)::H) i=qS H i:=fun i hi=>by
              simp only[qS];rw[aFQ (Ne.symm hi)]
            have hz: ∀{i},i∈qU U->i≠k:=fun h e=>hA (e▸h)
            have G: ∀{i blk},i∈qU U->qS (rD U H) i=some blk->qS (rD U ((k,qP.dead)::H)) i=some blk:=by
              intro i blk hi h
              have: ∀{U:List (Nat×qP)},i∈qU U->qS (rD U ((k,qP.dead)::H)) i=qS (rD U H) i:=by
                intro U
                induction U with
                |nil=>intro h;cases h
                | cons q U ih=>
                  intro h;obtain⟨j,b⟩:=q;simp only[rD,qS];split
                  .rfl
                  rename_i hne
                  simp only[qU,aF1] at h;exact ih (h.resolve_left (fun e=>hne e.symm))
              rw[this hi];exact h
            have Q: ∀{i blk},i∈qU U->qS (rD U H) i=some blk->∃t y,blk= .cells t y []/\HZ t=true:=by
              intro i blk hi h
              have: ∀{U:List (Nat×qP)},OT U=true->i∈qU U->qS (rD U H) i=some blk->∃t y,blk= .cells t y []/\HZ t=true:=by
                intro U
                induction U with
                |nil=>intro _ h;cases h
                | cons q U ih=>
                  intro Y hi h;obtain⟨j,b⟩:=q;cases b with
                  | cells t y ts=>
                    cases ts with
                    |cons _ _=>simp [OT] at Y
                    | nil=>
                      simp only[OT,aF0] at Y;simp only[rD,qS] at h;split at h
                      · obtain rfl:=aFU h
                        exact⟨t,y,rfl,Y.1⟩
                      · rename_i hne
                        simp only[qU,aF1] at hi;exact ih Y.2 (hi.resolve_left (fun e=>hne e.symm)) h
                  |_=>simp [OT] at Y
              exact this Y hi h
            have z: ∀b o,t7 g' ((k,qP.dead)::H) (qU U) b o->t7 g H (qU U) b o:=fun b o ⟨i,blk,hi,M,h2⟩=>⟨i,blk,hi,(K i (hz hi)).symm.trans M,(xX (g':=g') (g:=g) rfl rfl).1 h2⟩;refine(Ok hB hN (Ol le hh hn (fun p hp=>ht p (.inl hp))) hi (fun p hp=>ht p (.inr hp)) (fun i hJ hb=>hM i hJ hb)).mono ?_;rintro en w' ⟨v1,g1,rfl,D⟩
            let g2:Gh:={g1 with S:=g.S}
            have hle:Le g w g2 w':=⟨fun _ _ h=>h,fun b o h=>D.le.cell b o (.inl h),fun i p h=>D.le.J i p h,fun i n u h=>D.le.cur i n u h⟩
            have X:Fr (t7 g H (qU U)) w w' g.S g2.S:=
              ⟨D.fr.os,D.fr.tape,D.fr.output,D.fr.size,fun b hb ha=>D.fr.blk b hb (fun o h=>ha o (z b o h)),fun b o hb ha=>D.fr.cell b o hb (fun h=>ha (z b o h)),fun _ _ h=> .inl h,fun b s h=>(D.fr.shape b s h).imp id fun h o=>z b o (h o)⟩
            have V: ∀i,i∉qU U->g2.J i=g.J i/\g2.cur i=g.cur i:=fun i hi=>D.gho i hi
            have I: ∀i blk b o,i∈qU U->qS (rD U H) i=some blk->sL g2 i blk b o->w.heap.size<=b\/t7 g H (qU U) b o:=fun i blk b o hi hg ho=>
              (D.perm i blk b o hi (G hi hg) ((xX (g':=g2) (g:=g1) rfl rfl).1 ho)).imp id (z b o)
            refine⟨v1,g2,rfl,hle,?_,hH.upd hle X I V (fun i blk hi hg=>?_) (fun i j bi bj b o hi hj hc hL hK hG hD=>?_) (fun b o h=>aGq (hH.sl b o h) D.fr.size),X,I,V,fun i u y us h=>?_⟩
            .exact a52 Z D.slot
            · obtain⟨t2,y2,rfl,hI⟩:=Q hi hg
              obtain⟨p,cs,q1,q2,q3,q4,q5,_⟩:=D.heap.blk i _ (G hi hg);exact⟨p,cs,q1,MZ hI q2,q3,q4,fun j hj F=>q5 j hj (D.le.S _ _ (.inl F)),fun _ _ hm=>by cases hm⟩
            .exact D.heap.dis i j bi bj b o hc (G hi hL) (G hj hK) ((xX (g':=g2) (g:=g1) rfl rfl).1 hG) ((xX (g':=g2) (g:=g1) rfl rfl).1 hD)
            by_cases hd:i∈qU U
            · rcases D.ty i u y us (G hd h) with⟨x',ts',q⟩ |q
              .exact .inl ⟨x',ts',(K i (hz hd)).symm.trans q⟩
              exact .inr q
            exact .inl ⟨y,us,(AY hd).symm.trans h⟩
          .cases hr
    |_=>cases hr
theorem a56 {P:Program}{f:FuncId}{F:(t:Ty)->List t.den->Option (List t.den)}(Y:XE P f F) {g:Gh}{w:qD}{H:sJ}(hH:sO g w H) {args:List qQ}{vals:q8}(E:vJ g w args vals) {e:r6}
    (hr:VK H F args=some e) (hs: ∀p∈e.side,p):Calls P f vals.toArray w (fun en w'=> ∃v g',en= .returned v/\rU g w H e g' w' v):=by
  unfold VK at hr;split at hr
  · rename_i k n x
    obtain⟨v,vs,rfl,X,V⟩:=E;rw[show vs=[] from V];cases I:qS H k with
    |none=>rw[I] at hr;cases hr
    | some b=>
      rw[I] at hr;cases b with
      | row e0 t l m=>
        simp only[dj] at hr;cases hf:F t l with
        |none=>rw[hf] at hr;cases hr
        | some l'=>
          rw[hf] at hr;cases hr;have K:n=m:=hs _ aGa;subst K;obtain⟨hl,v0,xs,z,G,O,D,h⟩:=hH.blk k _ I;have U:=X.1.1;rw[z] at U;obtain rfl:=aFU U;refine(Y g w e0 t l l' v0 n xs hH.tab.1 G O hl (hs _ pV) hf).mono ?_;rintro en w' ⟨rfl,M,xs',k1,k2,k3⟩;have j: ∀b,v0.ownBlock=some b->∀o,t7 g H [k] b o:=fun b hb o=>⟨k,_,by simp,I,v0,z,hb⟩;refine⟨_,_,rfl,rU.row (v:=v0) (xs:=xs') hH M k1 k2 D (fun u Q=>by rw[z] at Q;exact(aFU Q).symm) (.inr ⟨v0.ownBlock,k3,j⟩) (fun b o R=>?_) h (fun b hb=> .inr (j b hb)) ⟨⟨[],rfl,rfl⟩,trivial⟩⟩;have hne:v0.ownBlock≠some b:=fun e=>h b e o R;exact aGf (a:=⟨b,o,none⟩) (k3.block b (hH.sl b o R) (fun e=>hne e.symm))
      |_=>cases hr
  cases hr
section
variable {P:Program}{o:Oper}{a:Act}{g:Gh}{w:qD}{H:sJ}{T:sZ}{Γ:tP}(hT:xZ P T) (hΓ:F6 P Γ) (hH:sO g w H)
include hT hΓ hH
theorem On {f:FuncId}{args:List qQ}{vals:q8}(j:vJ g w args vals) {base:Nat}{e:r6}(hr:M9 H base args (JT Γ f)=some e) (hs: ∀p∈e.side,p) (E:yS g base e):
    (∀args w,(callFunc f args).run P w= .ok (.enter f args) w)/\Calls P f vals.toArray w (fun en w'=> ∃v g',en= .returned v/\rU g w H e g' w' v):=by
  cases D:JT Γ f with
  |none=>rw[D] at hr;cases hr
  | some sg=>
    rw[D] at hr
    obtain⟨K,D⟩:f<1000000000/\Γ f=some sg:=by
      unfold JT at D;split at D
      .rename_i h;exact⟨h,D⟩
      cases D
    obtain⟨z,G⟩:=hΓ f sg K D;refine⟨z.1,?_⟩;simp only[M9] at hr;cases I:sg.row with
    | some F=>
      rw[I] at hr;exact a56 (G F I) hH j hr hs
    | none=>
      rw[I] at hr;simp only[WG] at hr;cases M:RD sg.ps args with
      | some k=>
        rw[M] at hr;exact a54 z hH j hr hs E
      | none=>
        rw[M] at hr;exact Ok z hH j hr hs E
theorem Oo {fop:Operand}{args:Array Operand}{tys:Array TypeId}(ho:o.op= .call ⟨.value fop,args,tys⟩) {ρ:Operand->qQ}(hf:rX g w (ρ fop) (a.eval fop)) (hρ: ∀x∈args.toList,rX g w (ρ x) (a.eval x)) {base:Nat}{e:r6}
    (hr:MA Γ H base (CM T ρ args.toList tys.toList) (ρ fop)=some e) (hs: ∀p∈e.side,p) (D:yS g base e) (E:args.size=tys.size):rR P o a g w H e:=by
  have h:=XG (a:=a) (ρ:=ρ) hT hΓ hH (xs:=args.toList) (ts:=tys.toList) (by simpa using E) hρ;unfold MA at hr;split at hr
  · rename_i f caps k heq
    rw[heq] at hf
    obtain⟨vs,R,j⟩: ∃vs,zE g caps vs/\a.eval fop= .func (.func f) #[] vs.toArray:=by
      rcases hf.1 with⟨O,_⟩ |⟨_,vs,M,h3⟩
      .cases O
      simp only[aGD,and_true] at h3
      exact⟨vs,M,h3⟩
    obtain⟨z,F⟩:=On hT hΓ hH (a5s hT hΓ hH h (Ng hT hΓ hH R)) hr hs D;intro K Q G;refine XH ho j z (F.mono ?_);rintro en w' ⟨v,g',rfl,I⟩;exact⟨v,rfl,G _ w' v I.w⟩
  · rename_i f k heq
    rw[heq] at hf
    have j:a.eval fop= .func (.func f) #[] ([]:q8).toArray:=by
      rcases hf.1 with⟨O,_⟩ |⟨_,M⟩
      .cases O
      simpa[Rd,X0] using M
    obtain⟨z,F⟩:=On hT hΓ hH h hr hs D;intro K Q G;refine XH ho j z ?_;rw[List.append_nil];refine F.mono ?_;rintro en w' ⟨v,g',rfl,I⟩;exact⟨v,rfl,G _ w' v I.w⟩
  cases hr
theorem a57 {fop:Operand}{args:Array Operand}{tys:Array TypeId}(ho:o.op= .call ⟨.value fop,args,tys⟩) {ρ:Operand->qQ}(hf:a.eval fop= .func (.func JM) #[] #[]) (hρ: ∀x∈args.toList,rX g w (ρ x) (a.eval x)) {e:r6}
    (hr:fu (CM T ρ args.toList tys.toList) (s5 T LV)=some e) (I:args.size=tys.size):rR P o a g w H e:=by
  have D:=XG (a:=a) (ρ:=ρ) hT hΓ hH (xs:=args.toList) (ts:=tys.toList) (by simpa using I) hρ;have Y:a.eval fop= .func (.func JM) #[] ([]:q8).toArray:=hf
  have go: ∀{s:qQ}{el by':Nat}{ar:Bool}{ls:List (Nat×TypeId×Nat)},CM T ρ args.toList tys.toList=[s]->s5 T LV=some ⟨.ap,el,by',ar,ls⟩->(∀v,rX g w s v->∀g' w',Le g w g' w'->zM g' w' s.1 v)->(∀v,rX g w s v->∃p,v= .pointer p)->rR P o a g w H ⟨[],(.apd s.1,none),[],[]⟩:=by
    intro s el by' ar ls G F h3 h4;rw[G] at D;obtain⟨v,vs,hv,hs,R⟩:=D;rw[show vs=[] from R] at hv;obtain⟨pp,rfl⟩:=h4 v hs;obtain⟨_,V,Z,_,_⟩:=(tB hT F).2;intro K Q hK;refine XH ho Y Z ?_;rw[List.append_nil,hv];refine(V w pp).mono ?_;rintro en w' ⟨b,rfl,hb,ha,hc,M⟩;have e1:=rU.below hH M
    let g':Gh:={g with S:=fun q oo=>g.S q oo\/(q=b/\oo=0)}
    have le:Le g w' g' w':=⟨fun _ _ h=> .inl h,fun _ _ _=>rfl,fun _ _ h=>h,fun _ _ _ h=>h⟩
    have U: ∀i blk,qS H i=some blk->∀oo,¬sL g i blk b oo:=fun i blk G oo F=>by
      have:=MP (hH.blk i blk G) F;omega
    have hd:sO g' w' H:=by
      have h4:sO g w' H:=e1.heap;refine⟨fun i blk O=>K2 (h4.blk i blk O) le rfl rfl (fun _ _ _=>⟨rfl,rfl⟩) (fun _ _=>rfl) (fun q oo ho z=>?_) (fun _ _ _ _ h=>h),fun i j bi bj q oo X h5 h6 o1 o2=>h4.dis i j bi bj q oo X h5 h6 ((xX (g':=g') (g:=g) rfl rfl).1 o1) ((xX (g':=g') (g:=g) rfl rfl).1 o2),fun q oo z=>?_,h4.tab.1,fun i blk q oo O ho=>h4.tab.2 i blk q oo O ((xX (g':=g') (g:=g) rfl rfl).1 ho)⟩
      · rcases z with z|⟨rfl,_⟩
        .exact z
        exact absurd ho (U i blk O oo)
      rcases z with z|⟨rfl,_⟩
      .exact h4.sl q oo z
      exact ha
    have E:Le g w g' w':=e1.le.trans le;refine⟨_,rfl,hK g' w' _ (rU.w ⟨E,⟨⟨b,.pointer pp,rfl,.inr ⟨rfl,rfl⟩,hc,h3 _ hs g' w' E⟩,trivial⟩,hd,⟨e1.fr.os,e1.fr.tape,e1.fr.output,e1.fr.size,e1.fr.blk,e1.fr.cell,fun q oo z=>?_,e1.fr.shape⟩,fun _ _ _ _ hi=>(by cases hi),fun _ _=>⟨rfl,rfl⟩,fun _ _ y us h=> .inl ⟨y,us,h⟩⟩)⟩;rcases z with z|⟨rfl,_⟩
    .exact .inl z
    exact .inr (.inl hb)
  unfold fu at hr;split at hr
  · rename_i p k el by' ar ls G F
    cases hr
    exact go G F (fun v hs g' w' hle=>RY hle hs.1) (fun v hs=>by
      rcases hs.1 with⟨h,_⟩ |⟨_,q,_,h⟩
      .cases h
      exact⟨_,(List.cons.inj h).1⟩)
  · rename_i k n c ix oo k2 el by' ar ls G F
    cases hr
    exact go G F (fun v hs g' w' hle=>RY hle hs.1) (fun v hs=>by
      obtain⟨b,cap,_,_,_,h⟩:=hs.1;exact⟨_,h⟩)
  cases hr
omit hT hΓ hH in
theorem jv {x:Nat×Nat}{o n:Nat}: ∀{ts:pY},x∈tT ts o n->x∈ts
  |[],h=>h
  | (q,k)::r,h=>by
    simp only[tT] at h;split at h
    .exact aF2 _ (jv h)
    rcases aF1.1 h with h|h
    .rw[h];exact aGa
    exact aF2 _ (jv h)
omit hT hΓ hH in
theorem a58 {v:Ty}: ∀{t:Ty}{x:t.den}{o:Nat}{y:pP}{l:(Ty.list v).den},rH .str t x o=some y->rH (.list v) t x o=some l->False:=by
  intro t
  induction t with
  | pair a b iha ihb=>
    intro x o y l h g
    have key: ∀{w:Ty}(hw:w.isRow=false),rH w (.pair a b) x o=(if o<a.cells then rH w a x.1 o else rH w b x.2 (o-a.cells)):=by
      intro w hw;cases o with
      | zero=>
        conv=>lhs;unfold rH
        rw[aHi (by intro e;subst e;cases hw),Nat.zero_sub]
      |succ o=>simp [rH]
    rw[key rfl] at h g;split at h
    · rename_i ho
      rw[aFP ho] at g;exact iha h g
    · rename_i ho
      rw[aFQ ho] at g;exact ihb h g
  | str=>
    intro x o y l h g;cases o with
    | zero=>
      unfold rH at g;split at g
      .rename_i e;cases e
      .cases g
    |succ o=>simp [rH] at g
  | _=>
    intro x o y l h g;cases o with
    | zero=>
      unfold rH at h;split at h
      .rename_i e;cases e
      .cases h
    |succ o=>simp [rH] at h
omit hT hΓ in
theorem a59 {i:Nat}{u:Ty}{x z:u.den}{y:pP}{toks0 toks:pY}{p:Pl}(hb:qS H i=some (.cells u x toks0)) (hp:g.J i=some p) (j: ∀x∈toks,x∈toks0) {o:Nat}(E:rH .str u x o=some y) (h:sT .str y u x o=some z):
    rU g w H ⟨[],(.any,none),[(i,.cells u z toks)],[]⟩ g w undef:=by
  refine rU.reread hH hb hp j (fun cs F _=>?_) (fun v q l hl=>XA hH h hl (fun⟨I,G⟩=>?_))
  · obtain⟨c1,c2,c3,rfl,rfl,D⟩:=CO F E
    have e2:c2=[.string ⟨y.toArray⟩]:=D;exact iy h (v:= .string ⟨y.toArray⟩) rfl F (by rw[e2];simp)
  have:q=o:=by simp only[Ty.cells] at G;omega
  subst this;exact a58 E hl
omit hT hΓ in
theorem Oq {i:Nat}{u:Ty}{x z:u.den}{b:Bool}{y:pP}{ts:pY}{p:Pl}{o:Nat}(hb:qS H i=some (.cells u x ts)) (hp:g.J i=some p) (j:OX b y o (some x)=some z):
    rU g w H ⟨[],(.any,none),[(i,.cells u z (tT ts o 1))],[]⟩ g (if b=true then w.setCells p.1 (p.2+o) [.string ⟨y.toArray⟩] else w) undef:=by
  simp only[OX] at j;cases D:rH .str u x o with
  |none=>rw[D] at j;cases j
  | some y0=>
    rw[D] at j;simp only[Ks] at j;cases b with
    | true=>
      rw[aFP rfl];exact(rU.store (side:=[]) (rds:=[]) (k:=none) (v:= .string ⟨y.toArray⟩) hH hb hp (t:= .str) j (cy:=[.string ⟨y.toArray⟩]) rfl trivial (fun _ _ _=>rfl) (fun _=>rfl)).1
    | false=>
      rw[aFQ pV];exact a59 hH hb hp (fun _ h=>jv h) D j
omit hT hΓ in
theorem rU.again {k:Nat}{b:qP}(j:qS H k=some b):rU g w H ⟨[],(.any,none),[(k,b)],[]⟩ g w undef:=by
  refine rU.more (U:=[]) (sd:=[]) (r:=[]) (rU.pure hH ⟨trivial,trivial⟩) (fun i=>?_) (fun _ h=>by cases h);simp only[rD,qS];split
  .rename_i e;subst e;exact j.symm
  rfl
omit hT hΓ in
theorem Ot {i:Nat}{u:Ty}{x:u.den}{y:pP}{ts:pY}{p:Pl}{o:Nat}(hb:qS H i=some (.cells u x ts)) (hp:g.J i=some p) (F:rH .str u x o=some y):w.cell? ⟨p.1,p.2+o,none⟩=some (.string ⟨y.toArray⟩)/\w.frozen? ⟨p.1,p.2+o,none⟩=false:=by
  obtain⟨p',cs,h,E,z,j,_,_⟩:=hH.blk i _ hb;rw[hp] at h;obtain rfl:=aFU h;have hl:=t8 E;obtain⟨c1,c2,c3,rfl,rfl,D⟩:=CO E F;have e2:c2=[.string ⟨y.toArray⟩]:=D;subst e2;simp only[aFR,aG2] at hl;exact⟨z _ _ pV,(j.1 _ pT).2⟩
omit hT hΓ in
theorem Ou {k:Nat}{e:TypeId}{t:Ty}{l:List t.den}{m b cap j o':Nat}{x:t.den}{v:qE}(K:qS H k=some (.row e t l m)) (D:g.cur k m=some (.slice (some ⟨b,0,none⟩) m cap)) (G:l[j]? =some x) (I: ∀cs,Rd g w t x cs->cs[o']? =some v) (ho:o'<t.cells):
    w.cell? ⟨b,j*t.cells+o',none⟩=some v/\w.frozen? ⟨b,j*t.cells+o',none⟩=false:=by
  obtain⟨hl,v0,xs,z,h,O,_,_⟩:=hH.blk k _ K;rw[D] at z;obtain rfl:=aFU z;obtain⟨c1,c2,c3,e1,e2,e3,e4⟩:=X7 O G
  have F:=h.cells (g:=b) rfl (j*t.cells+o') v (by
    rw[e1,aF3,aFZ pT,e2,aGB,aF9 pT];exact I c2 e4)
  rw[aG8,aGk] at F;rcases h.2 with⟨E,_⟩ |⟨q,cap',cur,E,_,M,_⟩
  .cases E
  simp only[aHw,aFO,Addr.mk.injEq,and_true,true_and] at E;obtain⟨rfl,rfl⟩:=E;exact⟨F,frozen_of_row w b _ cur e M⟩
omit hT hΓ in
theorem a6a {k:Nat}{e:TypeId}{l:pQ}{m:Nat}{b:Bool}{z:pP}(h:qS H k=some (.row e .str l m)) {bb cap:Nat}(j:b=true->g.cur k m=some (.slice (some ⟨bb,0,none⟩) m cap)/\0<m):
    ∃g',rU g w H ⟨[],(.any,none),[(k,.row e .str (GF b z l) m)],[]⟩ g' (if b=true then w.setCells bb (m-1) [.string ⟨z.toArray⟩] else w) undef:=by
  cases b with
  | false=>
    rw[aFQ pV];exact⟨g,rU.again hH h⟩
  | true=>
    obtain⟨D,E⟩:=j rfl;have hl:=(hH.blk k _ h).1;rw[aFP rfl];have:=rU.poke (o':=0) (uT:= .str) (y:=z) (z':=z) (i:=((m-1:Nat):Int)) (u:= .string ⟨z.toArray⟩) hH h D pT pT (by unfold sT;rw[aHQ rfl];rfl) rfl;refine⟨g.tok k m (.slice (some ⟨bb,0,none⟩) m cap),?_⟩
    have e1:GF true z l=l.set (((m-1:Nat):Int)).toNat z:=by
      unfold GF;rw[aFP rfl,aGI,hl]
    have e2:(((m-1:Nat):Int)).toNat*(Ty.str).cells+0=m-1:=by simp [Ty.cells]
    rw[e1];rw[e2] at this;exact this
omit hT hΓ in
theorem a6b {k:Nat}{e:TypeId}{l:List (pP×pP×Unit)}{m:Nat}{b:Bool}{z:pP}(h:qS H k=some (.row e I3 l m)) {bb cap:Nat}(D:b=true->g.cur k m=some (.slice (some ⟨bb,0,none⟩) m cap)/\0<m):
    ∃g',rU g w H ⟨[],(.any,none),[(k,.row e I3 (GG b z l) m)],[]⟩ g' (if b=true then w.setCells bb ((m-1)*2+1) [.string ⟨z.toArray⟩] else w) undef:=by
  cases b with
  | false=>
    rw[aFQ pV];exact⟨g,rU.again hH h⟩
  | true=>
    obtain⟨E,F⟩:=D rfl;have hl:List.length l=m:=(hH.blk k _ h).1;rw[aFP rfl]
    have j:qV I3 l (((m-1:Nat):Int))=l.getD (l.length-1) ([],[],()):=by
      unfold qV;rw[aGI,hl];rfl
    have:=rU.poke (t:=I3) (l:=l) (o':=1) (uT:= .str) (y:=z) (z':=((l.getD (l.length-1) ([],[],())).1,z,())) (i:=((m-1:Nat):Int)) (u:= .string ⟨z.toArray⟩) hH h E pT pT (by rw[j];rfl) rfl;refine⟨g.tok k m (.slice (some ⟨bb,0,none⟩) m cap),?_⟩
    have e1:GG true z l=List.set l (((m-1:Nat):Int)).toNat ((l.getD (l.length-1) ([],[],())).1,z,()):=by
      unfold GG;rw[aFP rfl,aGI,hl]
    have e2:(((m-1:Nat):Int)).toNat*I3.cells+1=(m-1)*2+1:=by simp [Ty.cells]
    rw[e1];rw[e2] at this;exact this
theorem a6c {fop:Operand}{args:Array Operand}{tys:Array TypeId}(ho:o.op= .call ⟨.value fop,args,tys⟩) {ρ:Operand->qQ}{x:Nat×Nat×(Nat×Nat)×(Nat×Nat)}(hf:tJ g w .ap x (a.eval fop)) (hρ: ∀x∈args.toList,rX g w (ρ x) (a.eval x)) {e:r6}
    (hr:ME Γ H x (CM T ρ args.toList tys.toList) (s5 T LV)=some e) (hs: ∀p∈e.side,p) (hc:args.size=tys.size):rR P o a g w H e:=by
  have M:=XG (a:=a) (ρ:=ρ) hT hΓ hH (xs:=args.toList) (ts:=tys.toList) (by simpa using hc) hρ;generalize hV:CM T ρ args.toList tys.toList=ss at hr M;generalize hst:s5 T LV=ot at hr;unfold ME at hr;split at hr
  case h_2=>cases hr
  rename_i c i k3 n3 k4 n4 s kk el by' ar ls;obtain⟨v0,vs',hv,hD,hz⟩:=M;rw[show vs'=[] from hz] at hv;have hA:=x7 hD.1;obtain⟨_,_,_,hJ,hM⟩:=(tB hT hst).2;generalize hi:qS H i=oi at hr;generalize hne:ga i k3 k4=ne at hr;unfold WK at hr;split at hr
  case h_2=>cases hr
  rename_i u xo ts;generalize h3:qS H k3=o3 at hr;generalize h4:qS H k4=o4 at hr;unfold fz at hr;split at hr
  case h_2=>cases hr
  rename_i e3 l3 m3 e4 l4 m4;generalize O:JT Γ HV=osg at hr;generalize hh:rH .str u xo 6=oy1 at hr;generalize he:rH .str u xo 7=oy2 at hr;cases osg with
  |none=>cases hr
  |some sg=>
  cases oy1 with
  |none=>cases hr
  |some y1=>
  cases oy2 with
  |none=>cases hr
  |some y2=>
  simp only[fy] at hr;generalize hy:MC c y1 y2 (GE l3) (JU l4)=y at hr;generalize hC:sg.C [(.val .str (y++s),none)] []=oC at hr;unfold fw at hr;split at hr
  case h_2=>cases hr
  rename_i sd ok;generalize hn:OX (ok&&decide (c=1)) (y++s) 6 (some xo)=ox1 at hr;cases ox1 with
  |none=>cases hr
  |some x1=>
  generalize hk:OX (ok&&decide (c=2)) (y++s) 7 (some x1)=ox2 at hr;cases ox2 with
  |none=>cases hr
  |some x2=>
  simp only[fv,aFO] at hr;subst hr;have hL:c≠0:=hs _ pV;have hF:n3=m3:=hs _ pV;have hE:n4=m4:=hs _ pV;have hG:((y++s).length:Int)<=9223372036854775807:=hs _ pV;have hB: ∀p∈sd,p:=fun p hp=>hs p (by simp [hp]);subst hF hE
  obtain⟨G,F,R⟩:i≠k3/\i≠k4/\k3≠k4:=by
    unfold ga at hne;split at hne
    .cases hne
    split at hne
    .cases hne
    split at hne
    .cases hne
    exact⟨by assumption,by assumption,by assumption⟩
  rcases y5 rfl hf with⟨h,_⟩ |⟨_,b,α,e1,hS,X,a1,a2,a3,a4⟩
  .exact absurd h hL
  simp only[aGD,and_true] at e1;obtain⟨p,cs0,hp,_⟩:=hH.blk i _ hi
  have hα:w.cell? α=some (.string ⟨y.toArray⟩)/\w.frozen? α=false/\α.spot=none:=by
    by_cases c1:c=1
    · subst c1
      obtain⟨p',D,rfl⟩:=a1 rfl;rw[hp] at D;obtain rfl:=aFU D;have:y=y1:=by rw[<-hy];rfl
      subst this;have:=Ot hH hi hp hh;exact⟨this.1,this.2,rfl⟩
    by_cases c2:c=2
    · subst c2
      obtain⟨p',D,rfl⟩:=a2 rfl;rw[hp] at D;obtain rfl:=aFU D;have:y=y2:=by rw[<-hy];rfl
      subst this;have:=Ot hH hi hp he;exact⟨this.1,this.2,rfl⟩
    by_cases c3:c=3
    · subst c3
      obtain⟨bb,cap,I,ha,rfl⟩:=a3 rfl;have:y=GE l3:=by rw[<-hy];rfl
      subst this;have hl:List.length l3=n3:=(hH.blk k3 _ h3).1;have E:n3-1<l3.length:=by omega
      have hx:l3[n3-1]? =some (GE l3):=by
        unfold GE;rw[aGb,hl,aFW E];rfl
      have:=Ou (o':=0) hH h3 I hx (fun cs hR=>by rw[show cs=[.string ⟨(GE l3).toArray⟩] from hR];rfl) (by simp [Ty.cells]);simp only[Ty.cells,aHy,aG0] at this;exact⟨this.1,this.2,rfl⟩
    obtain⟨bb,cap,I,ha,rfl⟩:=a4 pT
    have:y=JU l4:=by
      rw[<-hy];unfold MC;rw[aFQ c1,aFQ c2,aFQ c3]
    subst this;have hl:List.length l4=n4:=(hH.blk k4 _ h4).1;have E:n4-1<List.length l4:=by omega
    have hx:l4[n4-1]? =some (l4.getD (l4.length-1) ([],[],())):=by
      rw[aGb,hl,aFW E];rfl
    have:=Ou (t:=I3) (o':=1) (v:= .string ⟨(JU l4).toArray⟩) hH h4 I hx (fun cs hR=>by
      obtain⟨d1,d2,rfl,r1,e1,e2,rfl,r2,r3⟩:=hR;rw[show d1=[_] from r1,show e1=[_] from r2];rfl) (by simp [Ty.cells])
    simp only[Ty.cells] at this;exact⟨this.1,this.2,rfl⟩
  have Z: ∀w1,Below w.heap.size w w1->Calls P HV #[.string ⟨(y++s).toArray⟩] w1 fun e w'=>e= .returned (.bool ok)/\Below w1.heap.size w1 w':=by
    intro w1 Y
    obtain⟨E,hg⟩:HV<1000000000/\Γ HV=some sg:=by
      unfold JT at O;split at O
      .rename_i h;exact⟨h,O⟩
      cases O
    have hN:G7 w1:=JN hH.tab.1 Y.size (fun q hq=>Y.block q (aGq hq hH.tab.1.1));have hP:sO ⟨fun _ _=>False,fun _=>none,fun _ _=>none⟩ w1 (rC 0 []):=⟨fun _ _ h=>(by cases h),fun _ _ _ _ _ _ _ h=>(by cases h),fun _ _ h=>h.elim,⟨hN,fun _ _ _ _ h=>(by cases h)⟩⟩;refine((hΓ HV sg E hg).1.2 _ w1 [(.val .str (y++s),none)] [.string ⟨(y++s).toArray⟩] [] _ hP ⟨_,[],rfl,⟨.inr ⟨rfl,rfl⟩,trivial⟩,rfl⟩ hC hB).mono ?_;rintro en w' ⟨v,g',rfl,r⟩;refine⟨by rw[vU r.ret.1],r.fr.os,r.fr.tape,r.fr.output,r.fr.size,fun q hq=>r.fr.blk q hq fun oo ⟨j,blk,h1,_⟩=>(by cases h1)⟩
  have key:=hM w b α y s ok X hα.1 hα.2.1 hα.2.2 hG Z;intro K Q hK;refine XH ho (caps:=[.pointer (some ⟨b,0,none⟩)]) (by rw[e1]) hJ ?_;rw[hv,hA];refine key.mono ?_;rintro en w' ⟨rfl,w1,hd,hu⟩;have E0:=rU.below hH hd;have E1:=Oq (b:=ok&&decide (c=1)) (y:=y++s) (o:=6) E0.heap hi hp hn;have hI:qS (rD [(i,qP.cells u x1 (tT ts 6 1))] H) i=some (.cells u x1 (tT ts 6 1)):=by simp [rD,qS]
  have E2:=Oq (b:=ok&&decide (c=2)) (y:=y++s) (o:=7) E1.heap hI hp hk
  have hU:qS (rD [(i,qP.cells u x2 (tT (tT ts 6 1) 7 1))] (rD [(i,qP.cells u x1 (tT ts 6 1))] (rD [] H))) k3=some (.row e3 .str l3 n3):=by
    simp only[rD,qS];rw[aFQ G,aFQ G];exact h3
  obtain⟨bb,cap,V⟩: ∃bb cap,((ok&&decide (c=3))=true->g.cur k3 n3=some (.slice (some ⟨bb,0,none⟩) n3 cap)/\0<n3/\α=⟨bb,n3-1,none⟩):=by
    by_cases c3:c=3
    · obtain⟨bb,cap,q1,q2,q3⟩:=a3 c3
      exact⟨bb,cap,fun _=>⟨q1,q2,q3⟩⟩
    exact⟨0,0,fun h=>by simp [c3] at h⟩
  obtain⟨g3,E3⟩:=a6a (b:=ok&&decide (c=3)) (z:=y++s) (bb:=bb) (cap:=cap) E2.heap hU (fun h=>⟨(V h).1,(V h).2.1⟩)
  have hQ:qS (rD [(k3,qP.row e3 .str (GF (ok&&decide (c=3)) (y++s) l3) n3)] (rD [(i,qP.cells u x2 (tT (tT ts 6 1) 7 1))] (rD [(i,qP.cells u x1 (tT ts 6 1))] (rD [] H)))) k4=some (.row e4 I3 l4 n4):=by
    simp only[rD,qS];rw[aFQ R,aFQ F,aFQ F];exact h4
  obtain⟨bb4,cap4,U⟩: ∃bb cap,((ok&&decide (4<=c))=true->g.cur k4 n4=some (.slice (some ⟨bb,0,none⟩) n4 cap)/\0<n4/\α=⟨bb,(n4-1)*2+1,none⟩):=by
    by_cases c4:4<=c
    · obtain⟨bb,cap,q1,q2,q3⟩:=a4 c4
      exact⟨bb,cap,fun _=>⟨q1,q2,q3⟩⟩
    exact⟨0,0,fun h=>by simp [c4] at h⟩
  obtain⟨g4,E4⟩:=a6b (b:=ok&&decide (4<=c)) (z:=y++s) (bb:=bb4) (cap:=cap4) E3.heap hQ (fun h=>⟨E3.le.cur _ _ _ (U h).1,(U h).2.1⟩);have T1:=rU.trans (side:=[]) (rds:=[]) E0 E1;have T2:=rU.trans (side:=[]) (rds:=[]) T1 E2;have T3:=rU.trans (side:=[]) (rds:=[]) T2 E3;have T4:=rU.trans (side:=[]) (rds:=[]) T3 E4
  have ht:(if (ok&&decide (4<=c))=true then(if (ok&&decide (c=3))=true then(if (ok&&decide (c=2))=true then(if (ok&&decide (c=1))=true then w1.setCells p.1 (p.2+6) [.string ⟨(y++s).toArray⟩] else w1).setCells p.1 (p.2+7) [.string ⟨(y++s).toArray⟩] else(if (ok&&decide (c=1))=true then w1.setCells p.1 (p.2+6) [.string ⟨(y++s).toArray⟩] else w1)).setCells bb (n3-1) [.string ⟨(y++s).toArray⟩] else(if (ok&&decide (c=2))=true then(if (ok&&decide (c=1))=true then w1.setCells p.1 (p.2+6) [.string ⟨(y++s).toArray⟩] else w1).setCells p.1 (p.2+7) [.string ⟨(y++s).toArray⟩] else(if (ok&&decide (c=1))=true then w1.setCells p.1 (p.2+6) [.string ⟨(y++s).toArray⟩] else w1))).setCells bb4 ((n4-1)*2+1) [.string ⟨(y++s).toArray⟩] else(if (ok&&decide (c=3))=true then(if (ok&&decide (c=2))=true then(if (ok&&decide (c=1))=true then w1.setCells p.1 (p.2+6) [.string ⟨(y++s).toArray⟩] else w1).setCells p.1 (p.2+7) [.string ⟨(y++s).toArray⟩] else(if (ok&&decide (c=1))=true then w1.setCells p.1 (p.2+6) [.string ⟨(y++s).toArray⟩] else w1)).setCells bb (n3-1) [.string ⟨(y++s).toArray⟩] else(if (ok&&decide (c=2))=true then(if (ok&&decide (c=1))=true then w1.setCells p.1 (p.2+6) [.string ⟨(y++s).toArray⟩] else w1).setCells p.1 (p.2+7) [.string ⟨(y++s).toArray⟩] else(if (ok&&decide (c=1))=true then w1.setCells p.1 (p.2+6) [.string ⟨(y++s).toArray⟩] else w1))))=w':=by
    rw[hu];cases ok with
    |false=>simp
    | true=>
      by_cases c1:c=1
      · subst c1
        obtain⟨p',D,rfl⟩:=a1 rfl;rw[hp] at D;obtain rfl:=aFU D;simp
      by_cases c2:c=2
      · subst c2
        obtain⟨p',D,rfl⟩:=a2 rfl;rw[hp] at D;obtain rfl:=aFU D;simp
      by_cases c3:c=3
      · subst c3
        rw[(V pV).2.2];simp
      have c4:4<=c:=by omega
      rw[(U (by simp [c4])).2.2];simp [c1,c2,c3,c4]
  rw[ht] at T4;refine⟨_,rfl,hK g4 w' _ (rU.w ?_)⟩;refine(rU.more (sd2:=[]) (r2:=[]) (U2:=[(i,qP.cells u x2 (tT (tT ts 6 1) 7 1)),(k3,.row e3 .str (GF (ok&&decide (c=3)) (y++s) l3) n3),(k4,.row e4 I3 (GG (ok&&decide (4<=c)) (y++s) l4) n4)]) T4 (fun j=>?_) (fun j hj=>?_)).slot' ⟨.inr ⟨rfl,rfl⟩,trivial⟩
  · simp only[rD,qS]
    by_cases j1:i=j
    · subst j1
      rw[aFP rfl,aFQ (Ne.symm F),aFQ (Ne.symm G),aFP rfl]
    rw[aFQ j1]
    by_cases j3:k3=j
    · subst j3
      rw[aFP rfl,aFQ (Ne.symm R),aFP rfl]
    rw[aFQ j3]
    by_cases j4:k4=j
    · subst j4
      rw[aFP rfl,aFP rfl]
    rw[aFQ j4,aFQ j4,aFQ j3,aFQ j1,aFQ j1]
  simp only[rD,qU,aF1,aHj,or_false] at hj|-
  rcases hj with rfl|rfl|rfl|rfl<;>simp
theorem a6d {fop:Operand}{args:Array Operand}{tys:Array TypeId}(ho:o.op= .call ⟨.value fop,args,tys⟩) {ρ:Operand->qQ}(hf:rX g w (ρ fop) (a.eval fop)) (hρ: ∀x∈args.toList,rX g w (ρ x) (a.eval x)) {base:Nat}{e:r6}
    (hr:OY T Γ base H (CM T ρ args.toList tys.toList) (ρ fop)=some e) (hs: ∀p∈e.side,p) (j:yS g base e) (h:args.size=tys.size):rR P o a g w H e:=by
  unfold OY at hr;split at hr
  · rename_i x k heq
    rw[heq] at hf;exact a6c hT hΓ hH ho hf.1 hρ hr hs h
  · rename_i f caps k heq
    unfold gc at hr;split at hr
    · rename_i z
      rw[heq] at hf;unfold Kr at hr;split at hr
      · subst z
        refine a57 hT hΓ hH ho ?_ hρ hr h;rcases hf.1 with⟨E,_⟩ |⟨_,vs,D,h3⟩
        .cases E
        rw[show vs=[] from D] at h3
        simpa using h3
      cases hr
    exact Oo hT hΓ hH ho hf hρ (by rw[heq];exact hr) hs j h
  rename_i s _ _
  exact Oo hT hΓ hH ho hf hρ hr hs j h
theorem Ov: ∀{xs:List Operand}{ts:List TypeId},MB xs ts=true->xs.length=ts.length
  |[],[],_=>rfl
  |_::xs,_::ts,h=>by simp only[MB] at h;simp [Ov h]
  |[],_::_,h=>by cases h
  |_::_,[],h=>by cases h
theorem jw {op:Op}(ho:o.op=op) {ρ:Operand->qQ}(hρ: ∀x∈sY op,rX g w (ρ x) (a.eval x)) {base:Nat}{e:r6}(hr:uX T Γ o.type ρ base H op=some e) (hs: ∀p∈e.side,p) (hf:yS g base e):rR P o a g w H e:=by
  unfold uX at hr;split at hr
  · rename_i x
    exact Mo hT hH (.inl ho) (hρ x (by simp [sY])) hr hf
  · rename_i x
    exact Mo hT hH (.inr ho) (hρ x (by simp [sY])) hr hf
  .exact a47 hT hH ho hr hf
  · rename_i t x
    exact a48 hT hH ho (hρ x (by simp [sY])) (fun _=>jh hT hΓ hH (hρ x (by simp [sY]))) hr hf
  · rename_i t ps
    exact a4J hT hH ho (ρ:=ρ) (fun q hq=>hρ q.2 (by
      simp only[sY];generalize ps.toList=l at hq
      induction l with
      |nil=>cases hq
      |cons p l ih=>rcases aF1.1 hq with rfl|h<;>simp_all [sY.parts])) hr
  · rename_i t n ps
    exact a5g hT hH ho (ρ:=ρ) (fun q hq=>hρ q.2 (by
      simp only[sY];generalize ps.toList=l at hq
      induction l with
      |nil=>cases hq
      |cons p l ih=>rcases aF1.1 hq with rfl|h<;>simp_all [sY.parts])) hr hf
  · rename_i t x
    exact a4Y hT hH ho (hρ x (by simp [sY])) hr hs
  · rename_i t x y
    exact a5f hT hH ho (hρ x (by simp [sY])) (jh hT hΓ hH (hρ y (by simp [sY]))) hr hs hf
  · rename_i x
    exact a4D hT hH ho (hρ x (by simp [sY])) hr
  · rename_i op t x y t'
    cases hw:V4 op (s5 T t) (ρ x) (ρ y) with
    | some r=>
      rw[hw] at hr;exact a4u hH ho (hρ x (by simp [sY])) (hρ y (by simp [sY])) (by rw[hw];exact hr)
    |none=>
    rw[hw] at hr;cases hb:V3 op (ρ x) (ρ y) with
    | some r=>
      rw[hb] at hr;exact a4t hH ho (hρ x (by simp [sY])) (hρ y (by simp [sY])) (by rw[hb];exact hr) hs
    | none=>
      rw[hb] at hr;exact a5T hT hH ho (hρ x (by simp [sY])) (hρ y (by simp [sY])) hr
  · rename_i op t x
    exact a4v hH ho (hρ x (by simp [sY])) hr hs
  · rename_i t t' x
    cases hb:V6 (s5 T t) (s5 T t') (ρ x) with
    | some r=>
      rw[hb] at hr;exact a4w hT hH ho (hρ x (by simp [sY])) (by rw[hb];exact hr)
    | none=>
      rw[hb] at hr;exact a5X hT hH ho (hρ x (by simp [sY])) hr
  · rename_i f first caps
    have E:first= #[]:=by
      cases hl:first.toList with
      |nil=>apply aG3.1;simpa using hl
      |cons x l=>rw[hl] at hr;cases hr
    subst E;exact a4N hT hH ho (ρ:=ρ) (fun x j=>hρ x (by simpa[sY] using j)) hr
  · rename_i t x lo hi
    refine a4Z hT hH ho (ρ:=ρ) (hρ x (by simp [sY])) (fun y z=>hρ y ?_) (fun y z=>hρ y ?_) hr hs
    · cases lo with
      |none=>simp at z
      |some l=>simp at z;subst z;simp [sY,sY.opt,rD]
    cases hi with
    |none=>simp at z
    |some l=>simp at z;subst z;cases lo<;>simp [sY,sY.opt,rD]
  · rename_i t x f
    exact a4B hT hH ho (hρ x (by simp [sY])) hr
  · rename_i t x f
    exact a4A hT hH ho (hρ x (by simp [sY])) hr
  · rename_i t x ix
    exact a4F hT hH ho (hρ x (by simp [sY])) (hρ ix (by simp [sY])) hr hs
  · rename_i t x ix
    exact a4E hT hH ho (hρ x (by simp [sY])) (hρ ix (by simp [sY])) hr hs
  · rename_i x i
    exact a4C hT hH ho (hρ x (by simp [sY])) hr hs
  · rename_i t r
    exact a5j hT hH ho hr hf
  · rename_i t x
    exact a5p hT hH ho (hρ x (by simp [sY])) hr hf
  · rename_i x b
    exact a5q hT hH ho (hρ x (by simp [sY])) hr
  · rename_i t x i ok
    exact a5m hT hH ho (hρ x (by simp [sY])) (hρ i (by simp [sY])) hr
  · rename_i t m k x
    exact Nc hT hH (.inl ho) (hρ m (by simp [sY])) (hρ k (by simp [sY])) (Nb (hρ x (by simp [sY]))) hr
  · rename_i t m k x
    exact Nc hT hH (.inr ho) (hρ m (by simp [sY])) (hρ k (by simp [sY])) (Nb (hρ x (by simp [sY]))) hr
  · rename_i c
    obtain⟨cal,args,tys⟩:=c;simp only at hr;unfold MF at hr;split at hr
    .exact a4M hT hH ho (ρ:=ρ) (fun x j=>hρ x (by simpa[sY] using j)) hr
    .exact a5Y hT hH ho (ρ:=ρ) (fun x j=>hρ x (by simpa[sY] using j)) hr hs
    .exact Mb (mx:=true) hT hH ho (ρ:=ρ) (fun x j=>hρ x (by simpa[sY] using j)) hr
    .exact Mb (mx:=false) hT hH ho (ρ:=ρ) (fun x j=>hρ x (by simpa[sY] using j)) hr
    · rename_i f
      cases D:MB args.toList tys.toList with
      |false=>rw[D] at hr;cases hr
      | true=>
        rw[D] at hr;simp only[gd] at hr;exact a6d hT hΓ hH ho (hρ f (by simp [sY])) (fun x j=>hρ x (by simp [sY];right;simpa using j)) hr hs hf (by simpa using Ov hT hΓ hH D)
    cases hr
  cases hr
end
def BN (g:Gh) (w:qD) (env:List (Nat×qQ)) (tmps:Array qE):Prop:= ∀t,rX g w (lk env t) (tmps.getD t undef)
def AL (B:Nat) (w:qD) (ds:List Deferred):Prop:=ds.Nodup/\∀d∈ds,∃D,d={target:= .collected D,args:= #[]}/\B<=D/\NG<=D/\w.heap[D]? =some (.deferred (some []))
theorem Ow (B:Nat) (w:qD):AL B w []:=⟨List.nodup_nil,fun d h=>by cases h⟩
theorem AL.same {B:Nat}{w w':qD}{ds:List Deferred}(h:AL B w ds) (hb: ∀D:Nat,w.heap[D]? =some (Obj.deferred (some []))->w'.heap[D]? =some (Obj.deferred (some []))):AL B w' ds:=
 ⟨h.1,fun d j=>by obtain⟨D,E,z,h0,h3⟩:=h.2 d j;exact⟨D,E,z,h0,hb D h3⟩⟩
def IE:Obj->Bool
 | .deferred _=>true
 | .loop _=>true
 |_=>false
theorem jx {w:qD}{b:Nat}{ob:Obj}(h:w.heap[b]? =some ob) (hm:IE ob=true) (o:Nat):w.cell? ⟨b,o,none⟩=none:=by
 unfold World.cell?;simp only[h];cases ob<;>first|rfl|cases hm
theorem XQ {g:Gh}{w:qD}{i:Nat}{blk:qP}(h:AX g w i blk) {b o:Nat}(ho:sL g i blk b o) {ob:Obj}(z:w.heap[b]? =some ob) (hm:IE ob=true):False:=by
 have D: ∀{e:TypeId}{c n:Nat}{v:qE}{xs:q8},w.ownsRow 0 e c v n xs->v.ownBlock=some b->False:=by
  intro e c n v xs hr hb;rcases hr.2 with⟨rfl,_⟩ |⟨g',cap,cur,rfl,_,h3,_⟩
  .cases hb
  simp only[Value.ownBlock,aFO] at hb;subst hb;rw[z] at h3;cases h3;cases hm
 cases blk with
 |cells t x toks=>
  obtain⟨p,cs,hp,_,_,I,_⟩:=h;obtain⟨q,hq,rfl,F,E⟩:=ho;rw[hp] at hq;obtain rfl:=aFU hq;have:=(I.1 (o-p.2) pT).1;rw[jx z hm] at this;cases this
 |grow e c n=>
  obtain⟨v,xs,G,hr,_⟩:=h;obtain⟨v',j,hb⟩:=ho;rw[G] at j;obtain rfl:=aFU j;exact D hr hb
 |row e t l n=>
  obtain⟨_,v,xs,G,hr,_⟩:=h;obtain⟨v',j,hb⟩:=ho;rw[G] at j;obtain rfl:=aFU j;exact D hr hb
 |map k v l=>
  obtain⟨p,es,cl,hp,h0,E,_⟩:=h;obtain⟨q,hq,F⟩:=ho;rw[hp] at hq;obtain rfl:=aFU hq;rw[show b=p.1 from F] at z;rw[E] at z;cases z;cases hm
 |iter s n=>
  obtain⟨p,hp,h0,E,_⟩:=h;obtain⟨q,hq,F⟩:=ho;rw[hp] at hq;obtain rfl:=aFU hq;rw[show b=p.1 from F] at z;rw[E] at z;cases z;cases hm
 |dead=>exact ho.elim
theorem AL.eff {B:Nat}{g g':Gh}{w w':qD}{H:sJ}{e:r6}{v:qE}{ds:List Deferred}(h:AL B w ds) (hH:sO g w H) (k:AI g w H e g' w' v):AL B w' ds:=
 h.same fun D j=>by
  rw[k.fr.blk D (aGh.1 j).1 (fun o ⟨i,blk,_,E,z⟩=>XQ (hH.blk i blk E) z j rfl)];exact j
structure vE (B:Nat) (g:Gh) (w:qD) (s:St) (a:Act):Prop where
 env:BN g w s.env a.tmps
 heap:sO g w s.H
 size:a.tmps.size=s.N
 nb: ∀i,s.nb<=i->g.J i=none/\∀n,g.cur i n=none
 def_:AL B w a.defers
 np:s.np<=s.nb
theorem a6e (g:Gh) (w:qD) (v:qE):zM g w (cp v) v:=by
 unfold cp;split
 .exact vV _ _ _
 .exact wN _ _ _ _
 .rename_i s;have:=DC g w s.data.toList;rw[aHk] at this;exact this
 .exact rfl
 .exact .inr ⟨rfl,rfl⟩
 .exact .inr ⟨rfl,rfl⟩
 .exact .inr ⟨rfl,rfl⟩
 exact trivial
theorem B3 {g:Gh}{w:qD}{env:List (Nat×qQ)}{a:Act}(h:BN g w env a.tmps) (x:Operand):rX g w (uC env x) (a.eval x):=by
 cases x with
 |tmp t=>exact h t
 |const v=>exact⟨a6e g w v,trivial⟩
 |func f=>exact⟨.inr ⟨rfl,[],rfl,rfl⟩,trivial⟩
 |global i=>exact⟨trivial,trivial⟩
theorem PB {g:Gh}{w:qD}{G:Bool}(I:G=true): ∀{ss:List qQ}{s:qQ}{v:qE},s∈ss->(∀p∈zV G ss,p)->rX g w s v->rX g w (tV s) v
 |x::ss,s,v,hm,E,hs=>by
  have D: ∀{s:qQ},(∀p∈zV G [s],p)->rX g w s v->rX g w (tV s) v:=by
   intro s E hs;obtain⟨d,k⟩:=s;cases d with
   |cond p d=>
    refine⟨hs.1.1 (E (G=true->p=true) (by simp [zV]) I),?_⟩;simp only[tV]
   |_=>exact hs
  have z: ∀p,p∈zV G [x]->p∈zV G (x::ss):=by
   intro p hp;unfold zV at hp|-;split at hp
   .cases hp
   .rename_i heq;simp only[aGD] at heq;obtain⟨rfl,rfl⟩:=heq;rcases aF1.1 hp with h|h
    .exact h▸aGa
    cases h
   rename_i h0 heq;simp only[aGD] at heq;obtain⟨_,rfl⟩:=heq;cases hp
  have j: ∀p,p∈zV G ss->p∈zV G (x::ss):=by
   intro p hp;generalize F:zV G ss=L at hp;unfold zV;split
   .rename_i h;cases h
   .rename_i heq;simp only[aGD] at heq;obtain⟨_,rfl⟩:=heq;rw[F];exact aF2 _ hp
   rename_i heq;simp only[aGD] at heq;obtain⟨_,rfl⟩:=heq;rw[F];exact hp
  rcases aF1.1 hm with rfl|hm
  .exact D (fun p hp=>E p (z p hp)) hs
  exact PB I hm (fun p hp=>E p (j p hp)) hs
theorem XR {env:List (Nat×qQ)}: ∀{xs:List Operand}{x:Operand},x∈xs->uC env x∈D7 env xs
 |y::xs,x,h=>by
  simp only[D7];rcases aF1.1 h with rfl|h
  .exact aGa
  exact aF2 _ (XR h)
theorem SC: ∀(ops:List Oper) (j:Nat),AU ops j=(ops[j]?).bind (·.dst)
 |[],j=>by simp [AU]
 |o::_,0=>rfl
 |_::r,j+1=>by simpa[AU] using SC r j
section
variable {P:Program}{g:Gh}{w:qD}{T:sZ}{Γ:tP}(hT:xZ P T) (hΓ:F6 P Γ)
include hT hΓ
theorem a6f {ops:List Oper}{o:Oper}{a:Act}{env:List (Nat×qQ)}(D:BN g w env a.tmps) {j:Nat}{b:Bool}(M:o.guard=some (j,b)) {G:Bool}(h:I5 env b (AU ops j)=some G):Region.wanted o (yielded ops.toArray a.tmps)=G:=by
 rw[SC] at h;unfold Region.wanted;rw[M];simp only;cases I:(ops[j]?).bind (·.dst) with
 |none=>rw[I] at h;cases h
 |some t=>
  rw[I] at h;simp only[I5] at h;have F:yielded ops.toArray a.tmps j=match a.tmps[t]? with|some (.bool b)=>some b|_=>none:=by
   unfold yielded;have:(ops.toArray[j]?).bind (·.dst)=some t:=by simpa using I
   rw[this];rfl
  have E:=D t;generalize hl:lk env t=s at h E;unfold Kw at h;have hb: ∀c,a.tmps.getD t undef= .bool c->a.tmps[t]? =some (.bool c):=by
   intro c z;rw[aGn] at z;cases hq:a.tmps[t]? with
   |none=>rw[hq] at z;simp [undef] at z
   |some v=>rw[hq] at z;simp at z;rw[z]
  split at h
  .rename_i c k;simp only[aFO] at h;have:=hb _ (vU E.1);rw[F,this,<-h];cases c<;>cases b<;>rfl
  .rename_i p c k;simp only[aFO] at h;subst h;cases p with
   |true=>
    have:=hb _ (vU (E.1.1 rfl));rw[F,this];cases c<;>cases b<;>rfl
   |false=>
    have K:=E.1.2 rfl;have: ∀c,a.tmps[t]? ≠some (.bool c):=by
     intro c z;rw[aGn,z] at K;simp [undef] at K
    rw[F];cases hq:a.tmps[t]? with
    |none=>cases b<;>rfl
    |some v=>cases v<;>first|(exact absurd hq (this _)) |(cases b<;>rfl)
  cases h
theorem a6g {ops:List Oper}{o:Oper}{a:Act}{env:List (Nat×qQ)}(F:BN g w env a.tmps) {j:Nat}{b:Bool}(M:o.guard=some (j,b)) (h:MG env b (AU ops j)=false):Region.wanted o (yielded ops.toArray a.tmps)=false:=by
 rw[SC] at h;unfold Region.wanted;rw[M];simp only;cases I:(ops[j]?).bind (·.dst) with
 |none=>rw[I] at h;cases h
 |some t=>
  rw[I] at h;simp only[MG] at h;have G:yielded ops.toArray a.tmps j=match a.tmps[t]? with|some (.bool b)=>some b|_=>none:=by
   unfold yielded;have:(ops.toArray[j]?).bind (·.dst)=some t:=by simpa using I
   rw[this];rfl
  have D:=F t;generalize hl:lk env t=s at h D;have hb: ∀c,a.tmps.getD t undef= .bool c->a.tmps[t]? =some (.bool c):=by
   intro c z;rw[aGn] at z;cases hq:a.tmps[t]? with
   |none=>rw[hq] at z;simp [undef] at z
   |some v=>rw[hq] at z;simp at z;rw[z]
  have E:a.tmps.getD t undef=undef->(yielded ops.toArray a.tmps j==some b)=false:=by
   intro K;have: ∀c,a.tmps[t]? ≠some (.bool c):=by
    intro c z;rw[aGn,z] at K;simp [undef] at K
   rw[G];cases hq:a.tmps[t]? with
   |none=>cases b<;>rfl
   |some v=>cases v<;>first|(exact absurd hq (this _)) |(cases b<;>rfl)
  unfold Kx at h;split at h
  .rename_i c k;have:=hb _ (vU D.1);rw[G,this];cases c<;>cases b<;>first|rfl|cases h
  .rename_i p c k;cases p with
   |true=>
    have:=hb _ (vU (D.1.1 rfl));rw[G,this];cases c<;>cases b<;>first|rfl|cases h
   |false=>exact E (D.1.2 rfl)
  .rename_i p k;subst h;exact E (D.1.2 rfl)
  cases h
theorem SD {G:Bool}{p:Prop}: ∀{l:List Prop},p∈l->(G=true->p)∈RP G l
 |q::l,h=>by
  simp only[RP];rcases aF1.1 h with rfl|h
  .exact aGa
  exact aF2 _ (SD h)
theorem jy {o:Oper}{a:Act}{H:sJ}(hH:sO g w H) {c x y:Operand}(E:o.op= .pick c x y) {sc sx sy:qQ}(M:rX g w sc (a.eval c)) (D:rX g w sx (a.eval x)) (j:rX g w sy (a.eval y)) {e:r6}(hr:RO sc sx sy=some e) (hs: ∀p∈e.side,p):rR P o a g w H e:=by
 intro K Q O;unfold RO at hr;split at hr
 .rename_i z k;have F:=vU M.1;have run:(execOp a.eval o).run P w= .ok (.value (if z then a.eval x else a.eval y)) w:=by
   unfold execOp;rw[E];simp [F,asBool]
  have fin: ∀{v:Bool}{side:List Prop},(if z then a.eval x else a.eval y)= .bool v->e=⟨side,(.val .bool v,none),[],[]⟩->o.wp P a w K Q:=by
   intro v side G I;subst I;refine rR.value (v:= .bool v) (g':=g) (w':=w) (H:=H) (by rw[run,G]) (.pure hH (s:=(.val .bool v,none)) ⟨(vV g w v:zM g w (.val .bool v) (.bool v)),trivial⟩) K Q O
  unfold Ky at hr;split at hr
  .rename_i m1 _ m2 _;simp only[aFO] at hr;refine fin (v:=cond z m1 m2) ?_ hr.symm;cases z
   .exact vU j.1
   exact vU D.1
  .rename_i p m1 _ m2 _;simp only[aFO] at hr;refine fin (v:=cond z m1 m2) ?_ hr.symm;cases z
   .exact vU j.1
   exact vU (D.1.1 (hs (true=true->p=true) (by rw[<-hr];simp) rfl))
  .rename_i m1 _ p m2 _;simp only[aFO] at hr;refine fin (v:=cond z m1 m2) ?_ hr.symm;cases z
   .exact vU (j.1.1 (hs (false=false->p=true) (by rw[<-hr];simp) rfl))
   exact vU D.1
  .rename_i q m1 _ p m2 _;simp only[aFO] at hr;refine fin (v:=cond z m1 m2) ?_ hr.symm;cases z
   .exact vU (j.1.1 (hs (false=false->p=true) (by rw[<-hr];simp) rfl))
   exact vU (D.1.1 (hs (true=true->q=true) (by rw[<-hr];simp) rfl))
  .rename_i m1 _ p _;simp only[aFO] at hr;have h:z=true:=hs _ (by rw[<-hr];simp);refine fin (v:=m1) ?_ hr.symm;rw[h];exact vU D.1
  .rename_i q m1 _ p _;simp only[aFO] at hr;have h:z=true:=hs (z=true) (by rw[<-hr];simp);refine fin (v:=m1) ?_ hr.symm;rw[h];exact vU (D.1.1 (hs (q=true) (by rw[<-hr];simp)))
  .rename_i p _ m2 _;simp only[aFO] at hr;have h:z=false:=hs _ (by rw[<-hr];simp);refine fin (v:=m2) ?_ hr.symm;rw[h];exact vU j.1
  .rename_i p _ q m2 _;simp only[aFO] at hr;have h:z=false:=hs (z=false) (by rw[<-hr];simp);refine fin (v:=m2) ?_ hr.symm;rw[h];exact vU (j.1.1 (hs (q=true) (by rw[<-hr];simp)))
  cases hr
 cases hr
omit hT hΓ in
theorem SE {np:Nat}{x:Option r6}{e:r6}(h:gl np x=some e):x=some e/\(JO e.rds=true->JW np e.upd=true):=by
 cases x with
 |none=>cases h
 |some q=>
  simp only[gl] at h;cases hq:JO q.rds with
  |false=>
   rw[hq] at h;cases h;exact⟨rfl,fun h=>by rw[hq] at h;cases h⟩
  |true=>
   rw[hq] at h;simp only[Lb] at h;split at h
   .rename_i j;cases h;exact⟨rfl,fun _=>j⟩
   cases h
omit hT hΓ in
theorem Ox {np:Nat}{H:sJ}: ∀{U:List (Nat×qP)},JW np U=true->∀{i:Nat}{u:Ty}{y:u.den}{us:pY},i<np->qS (rD U H) i=some (.cells u y us)->qS H i=some (.cells u y us)
 |[],_,i,u,y,us,_,h=>h
 |(j,b)::U,h,i,u,y,us,hi,z=>by
  simp only[rD,qS] at z;split at z
  .rename_i e;subst e;simp only[aFO] at z;subst z;simp only[JW] at h;split at h
   .omega
   cases h
  refine Ox ?_ hi z;unfold JW at h;split at h
  .rename_i heq;cases heq
  .rename_i heq;cases heq;split at h
   .exact h
   cases h
  rename_i heq;cases heq;exact h
theorem Oy {ops:List Oper}{o:Oper}{a:Act}{s:St}{e:r6}(z:BN g w s.env a.tmps) (hH:sO g w s.H) (hr:AH T Γ ops o s=some e) (hs: ∀p∈e.side,p) (hf:yS g s.nb e) {K:Act->qD->Prop}{Q:Exit->Act->qD->Prop}
  (O: ∀g' w' v,AI g w s.H e g' w' v->K (a.put o.dst v) w'):
  if Region.wanted o (yielded ops.toArray a.tmps) then o.wp P a w K Q else K (a.put o.dst undef) w:=by
 replace hr:=(SE hr).1;unfold P4 at hr;cases M:o.guard with
 |none=>
  rw[M] at hr;simp only at hr;have hw:Region.wanted o (yielded ops.toArray a.tmps)=true:=by unfold Region.wanted;rw[M]
  rw[aFP hw];cases E:o.op with
  |pick c x y=>
   rw[E] at hr;simp only[P3] at hr;exact jy hT hΓ hH E (B3 z c) (B3 z x) (B3 z y) hr hs K Q O
  |_=>
   rw[E] at hr;simp only[P3] at hr;rw[<-E] at hr;generalize F:uX T Γ o.type (fun x=>tV (uC s.env x)) s.nb s.H o.op=op at hr;cases op with
   |none=>cases hr
   |some e0=>
    simp only[P1,aFO] at hr;subst hr;refine jw hT hΓ hH rfl (ρ:=fun x=>tV (uC s.env x)) (fun x R=>?_) F (fun p hp=>hs p (xK.2 (.inr hp))) hf K Q (fun g' w' v h=>O g' w' v ⟨h.le,h.slot,h.heap,h.fr,h.perm,h.gho,h.ty⟩);exact PB rfl (XR R) (fun p hp=>hs p (xK.2 (.inl hp))) (B3 z x)
 |some jb=>
  obtain⟨j,b⟩:=jb;rw[M] at hr;simp only at hr;cases U:Γ (WQ j b) with
  |some sg=>
   rw[U] at hr;simp only[RQ] at hr;cases X:Kz o.op with
   |true=>rw[X] at hr;cases hr
   |false=>
   rw[X] at hr;simp only[La,aFO] at hr;subst hr;have Y:MG s.env b (AU ops j)=false:=hs _ aGa;rw[a6g hT hΓ z M Y,aFQ pU];exact O g w undef (AI.pure hH ⟨⟨fun I=>(by cases I),fun _=>rfl⟩,trivial⟩)
  |none=>
  rw[U] at hr;simp only[RQ] at hr;generalize Z:I5 s.env b (AU ops j)=oG at hr;cases oG with
  |none=>cases hr
  |some G=>
   have hw:=a6f hT hΓ z M Z;rw[hw];by_cases V: ∃c x y,o.op= .pick c x y
   .obtain⟨c,x,y,E⟩:=V;rw[E] at hr;simp only[P2] at hr;generalize F:RO (tV (uC s.env c)) (uC s.env x) (uC s.env y)=op at hr;cases op with
    |none=>cases hr
    |some e0=>
     unfold JV at hr;split at hr
     .rename_i side d k rds heq;simp only[aFO] at hr heq;subst hr;subst heq;by_cases D:G=true
      .rw[aFP D];refine jy hT hΓ hH E (PB D (ss:=[uC s.env c]) pV (fun p hp=>hs p (xK.2 (.inl hp))) (B3 z c)) (B3 z x) (B3 z y) F (fun p hp=>hs (G=true->p) (xK.2 (.inr (SD hT hΓ hp))) D) K Q (fun g' w' v h=>O g' w' v ⟨h.le,⟨⟨fun _=>h.slot.1,fun I=>by rw[D] at I;cases I⟩,trivial⟩,h.heap,h.fr,h.perm,h.gho,h.ty⟩)
      rw[aFQ D];exact O g w undef (AI.pure hH ⟨⟨fun I=>absurd I D,fun _=>rfl⟩,trivial⟩)
     .rename_i side sl u us rds heq;simp only[aFO] at hr heq;subst hr;subst heq;have D:G=true:=hs _ aGa;rw[aFP D];exact jy hT hΓ hH E (PB D (ss:=[uC s.env c]) pV (fun p hp=>hs p (aF2 _ (xK.2 (.inl hp)))) (B3 z c)) (B3 z x) (B3 z y) F (fun p hp=>hs (G=true->p) (aF2 _ (xK.2 (.inr (SD hT hΓ hp)))) D) K Q (fun g' w' v h=>O g' w' v ⟨h.le,h.slot,h.heap,h.fr,h.perm,h.gho,h.ty⟩)
     cases hr
   have e1:P2 T Γ o s (some G) o.op=JV G (zV G (D7 s.env (sY o.op))) (uX T Γ o.type (fun x=>tV (uC s.env x)) s.nb s.H o.op):=by
    cases ho:o.op<;>first|rfl|(exact absurd ⟨_,_,_,ho⟩ V)
   rw[e1] at hr;generalize F:uX T Γ o.type (fun x=>tV (uC s.env x)) s.nb s.H o.op=op at hr;cases op with
   |none=>cases hr
   |some e0=>
    unfold JV at hr;split at hr
    .rename_i side d k rds heq;simp only[aFO] at hr heq;subst hr;subst heq;by_cases D:G=true
     .rw[aFP D];refine jw hT hΓ hH rfl (ρ:=fun x=>tV (uC s.env x)) (fun x R=>?_) F (fun p hp=>hs (G=true->p) (xK.2 (.inr (SD hT hΓ hp))) D) (fun i hi=>by cases hi) K Q (fun g' w' v h=>O g' w' v ⟨h.le,⟨⟨fun _=>h.slot.1,fun I=>by rw[D] at I;cases I⟩,trivial⟩,h.heap,h.fr,h.perm,h.gho,h.ty⟩);exact PB D (XR R) (fun p hp=>hs p (xK.2 (.inl hp))) (B3 z x)
     rw[aFQ D];exact O g w undef (AI.pure hH ⟨⟨fun I=>absurd I D,fun _=>rfl⟩,trivial⟩)
    .rename_i side sl u us rds heq;simp only[aFO] at hr heq;subst hr;subst heq;have D:G=true:=hs _ aGa;rw[aFP D];refine jw hT hΓ hH rfl (ρ:=fun x=>tV (uC s.env x)) (fun x R=>?_) F (fun p hp=>hs (G=true->p) (aF2 _ (xK.2 (.inr (SD hT hΓ hp)))) D) hf K Q (fun g' w' v h=>O g' w' v ⟨h.le,h.slot,h.heap,h.fr,h.perm,h.gho,h.ty⟩);exact PB D (XR R) (fun p hp=>hs p (aF2 _ (xK.2 (.inl hp)))) (B3 z x)
    cases hr
end
structure tR (A:Nat->Nat->Prop) (L:List qP) (g0:Gh) (w0:qD) (g:Gh) (w:qD) (H:sJ):Prop where
 shut: ∀b o,g0.S b o->g.S b o/\w.cell? ⟨b,o,none⟩=w0.cell? ⟨b,o,none⟩
 fr:Fr A w0 w g0.S g.S
 perm: ∀i blk b o,qS H i=some blk->sL g i blk b o->w0.heap.size<=b\/A b o
 J: ∀i p,i<L.length->g0.J i=some p->g.J i=some p
 live: ∀i,i<L.length->(∃p,g.J i=some p)\/(∃n v,g.cur i n=some v)
 ty: ∀i u y us,i<L.length->qS H i=some (.cells u y us)->∃x ts,L[i]? =some (.cells u x ts)
 cur: ∀i n v,i<L.length->g0.cur i n=some v->g.cur i n=some v
def tR.eff {A:Nat->Nat->Prop}{L:List qP}{g0 g g':Gh}{w0 w w':qD}{H:sJ}{e:r6}{v:qE}(h:tR A L g0 w0 g w H) (k:AI g w H e g' w' v) (I:JO e.rds=true->JW L.length e.upd=true):tR A L g0 w0 g' w' (rD e.upd H):=by
 have z: ∀b o,t7 g H (qU e.upd) b o->w0.heap.size<=b\/A b o:=fun b o ⟨i,blk,_,F,h3⟩=>h.perm i blk b o F h3;refine⟨fun b o hs=>?_,h.fr.trans k.fr z,fun i blk b o E ho=>?_,fun i p hi hp=>k.le.J _ _ (h.J i p hi hp),fun i hi=>?_,fun i u y us hi E=>?_,fun i n u hi D=>k.le.cur _ _ _ (h.cur i n u hi D)⟩
 .obtain⟨j,F⟩:=h.shut b o hs;exact⟨k.le.S b o j,(k.le.cell b o j).trans F⟩
 .by_cases hi:i∈qU e.upd
  .rcases k.perm i blk b o hi E ho with j|j
   .exact .inl (aGL h.fr.size j)
   exact z b o j
  exact h.perm i blk b o ((AY hi).symm.trans E) ((xX (k.gho i hi).1 (k.gho i hi).2).1 ho)
 .rcases h.live i hi with⟨p,hp⟩ |⟨n,u,D⟩
  .exact .inl ⟨p,k.le.J _ _ hp⟩
  exact .inr ⟨n,u,k.le.cur _ _ _ D⟩
 cases G:JO e.rds with
 |true=>exact h.ty i u y us hi (Ox (I G) hi E)
 |false=>
  rcases k.ty G i u y us E with⟨x,ts,j⟩ |⟨j,F⟩
  .exact h.ty i u x ts hi j
  rcases h.live i hi with⟨p,hp⟩ |⟨n,u,D⟩
  .rw[j] at hp;cases hp
  rw[F] at D;cases D
def AM:pY->Nat->qB
 |[],_=>none
 |(n,o)::r,k=>if n=k then some o else AM r k
def uP (g:Gh) (np:Nat) (m:pY):Gh:=
 ⟨g.S,fun i=>if i<np then g.J i else(AM m i).bind g.J,fun i n=>if i<np then g.cur i n else(AM m i).bind fun o=>g.cur o n⟩
def XS {n o:Nat}: ∀{m:pY},P5 n o m=false->∀n' o',(n',o')∈m->n'≠n/\o'≠o
 |[],_,_,_,h=>by cases h
 |(a,b)::m,h,n',o',hm=>by
  simp only[P5,aHb,aGu] at h;rcases aF1.1 hm with j|j
  .cases j;exact h.1
  exact XS h.2 n' o' j
def jz {np:Nat}: ∀{m:pY},xI np m=true->∀{n o:Nat},(n,o)∈m->AM m n=some o/\(n<np->o=n)
 |[],_,_,_,h=>by cases h
 |(a,b)::m,z,n,o,h=>by
  simp only[xI,aF0,aGj,aHo,aFY] at z;obtain⟨⟨j,E⟩,h3⟩:=z;simp only[AM];rcases aF1.1 h with h4|h4
  .cases h4;rw[aFP rfl];exact⟨rfl,fun D=>by rcases j with j|j<;>omega⟩
  have D:=XS E n o h4;rw[aFQ (Ne.symm D.1)];exact jz h3 h4
def BO: ∀{m:pY}{k j:Nat},wM m k=some j->(j,k)∈m
 |[],_,_,h=>by cases h
 |(a,b)::m,k,j,h=>by
  simp only[wM] at h;split at h
  .rename_i e;subst e;simp only[aFO] at h;subst h;exact aGa
  exact aF2 _ (BO h)
def zY {g:Gh}{np:Nat}{m:pY}(E:xI np m=true) {n o:Nat}(h:(n,o)∈m):(uP g np m).J n=g.J o/\(uP g np m).cur n=g.cur o:=by
 obtain⟨D,z⟩:=jz E h;refine⟨?_,?_⟩
 .show (if n<np then g.J n else(AM m n).bind g.J)=_;by_cases j:n<np
  .rw[aFP j,z j]
  rw[aFQ j,D];rfl
 funext q;show (if n<np then g.cur n q else(AM m n).bind fun o=>g.cur o q)=_;by_cases j:n<np
 .rw[aFP j,z j]
 rw[aFQ j,D];rfl
def ka {g:Gh}{np:Nat}{m:pY}(D:xI np m=true): ∀(l l':pY) (vs:q8),zE g l vs->D9 m l=some l'->zE (uP g np m) l' vs
 |[],l',vs,h,hr=>by simp only[D9,aFO] at hr;subst hr;exact h
 |(i,o)::l,l',vs,⟨p,vs',F,E,h3⟩,hr=>by
  simp only[D9] at hr;cases hi:wM m i with
  |none=>rw[hi] at hr;cases z:D9 m l<;>rw[z] at hr<;>cases hr
  |some j=>
   rw[hi] at hr;cases z:D9 m l with
   |none=>rw[z] at hr;cases hr
   |some l2=>
    rw[z] at hr;simp only[D9.renCons,aFO] at hr;subst hr;exact⟨p,vs',by rw[(zY D (BO hi)).1];exact F,E,ka D l l2 vs' h3 z⟩
def a6h {m:pY}{u t:Ty}{x y:t.den}{o:Nat}{l:List u.den}(h:zW m t x=some y) (j:rH (.list u) t x o=some l):rH (.list u) t y o=some l:=
 jk (zW m) (fun _ _ _=>rfl) (fun _ _=>rfl) h j
def a6i {c n3 n4:Nat}{a b d:qB}{y:Nat×Nat×(Nat×Nat)×(Nat×Nat)}(h:gm c n3 n4 a b d=some y): ∃i k3 k4,a=some i/\b=some k3/\d=some k4/\y=(c,i,(k3,n3),(k4,n4)):=by
 unfold gm at h;split at h
 .exact⟨_,_,_,rfl,rfl,rfl,(aFU h).symm⟩
 cases h
def SF {g:Gh}{w:qD}{np:Nat}{m:pY}(E:xI np m=true): ∀{t:Ty}{x y:t.den}{cs:q8},Rd g w t x cs->zW m t x=some y->Rd (uP g np m) w t y cs
 | .bool,_,_,_,r,h=>by cases h;exact r
 | .int _,_,_,_,r,h=>by cases h;exact r
 | .str,_,_,_,r,h=>by cases h;exact r
 | .unit,_,_,_,r,h=>by cases h;exact r
 | .list t,x,y,_,r,h=>by
  simp only[zW] at h;split at h
  .rename_i hp;cases h;exact wG (g:=g) (g':=uP g np m) rfl (t:= .list t) (by simpa[Ty.pure] using hp) r
  .cases h
 | .ref,none,y,_,r,h=>by cases h;exact r
 | .ref,some (i,o),y,_,⟨p,D,z⟩,h=>by
  simp only[zW,WW] at h;cases hi:wM m i with
  |none=>rw[hi] at h;cases h
  |some j=>
   rw[hi] at h;cases h;exact⟨p,by rw[(zY E (BO hi)).1];exact D,z⟩
 | .clo,none,y,_,r,h=>by cases h;exact r
 | .clo,some (f,l),y,_,⟨vs,D,z⟩,h=>by
  simp only[zW,Lg] at h;cases hi:D9 m l with
  |none=>rw[hi] at h;cases h
  |some l'=>
   rw[hi] at h;cases h;exact⟨vs,ka E l l' vs D hi,z⟩
 | .fn,_,_,_,r,h=>by cases h;exact r
 | .rl _ _,none,y,_,r,h=>by cases h;exact r
 | .rl _ _,some (k,n),y,_,⟨v,D,z⟩,h=>by
  simp only[zW,Li] at h;cases hi:wM m k with
  |none=>rw[hi] at h;cases h
  |some j=>
   rw[hi] at h;cases h;exact⟨v,by rw[(zY E (BO hi)).2];exact D,z⟩
 | .mref,none,y,_,r,h=>by cases h;exact r
 | .mref,some (i,o),y,_,⟨p,D,z⟩,h=>by
  simp only[zW,WW] at h;cases hi:wM m i with
  |none=>rw[hi] at h;cases h
  |some j=>
   rw[hi] at h;cases h;exact⟨p,by rw[(zY E (BO hi)).1];exact D,z⟩
 | .ap,(c,i,(k3,n3),(k4,n4)),y,_,r,h=>by
  simp only[zW,Lj] at h;obtain⟨i',k3',k4',e1,e2,e3,rfl⟩:=a6i h;exact jl (g:=g) (g':=uP g np m) (fun _ _ h=>⟨h,rfl⟩) (fun p hp=>⟨p,by rw[(zY E (BO e1)).1];exact hp,rfl,rfl⟩) (fun v F=>by rw[(zY E (BO e2)).2];exact F) (fun v F=>by rw[(zY E (BO e3)).2];exact F) r
 | .mp,none,y,_,r,h=>by cases h;exact r
 | .mp,some i,y,_,⟨p,D,z⟩,h=>by
  simp only[zW,Lh] at h;cases hi:wM m i with
  |none=>rw[hi] at h;cases h
  |some j=>
   rw[hi] at h;cases h;exact⟨p,by rw[(zY E (BO hi)).1];exact D,z⟩
 | .pair a b,x,y,_,⟨c1,c2,e,r1,r2⟩,h=>by
  simp only[zW] at h;obtain⟨D,z⟩:=jj h;refine⟨c1,c2,e,?_,?_⟩
  .split at D
   .rename_i hp;exact(aFU D)▸wG (g:=g) (g':=uP g np m) rfl hp r1
   exact SF E r1 D
  split at z
  .rename_i hp;exact(aFU z)▸wG (g:=g) (g':=uP g np m) rfl hp r2
  exact SF E r2 z
def XT {g:Gh}{w:qD}{np:Nat}{m:pY}(E:xI np m=true) {s:qQ}{v:qE}(h:rX g w s v):rX (uP g np m) w (AV m s) v:=by
 have caps: ∀(l l':pY) (vs:q8),zE g l vs->D9 m l=some l'->zE (uP g np m) l' vs:=ka E;unfold AV;split
 .rename_i k n k';cases hi:wM m k with
  |none=>exact⟨trivial,trivial⟩
  |some j=>
   obtain⟨D,z⟩:=h.1;exact⟨⟨by rw[(zY E (BO hi)).2];exact D,z⟩,trivial⟩
 .obtain D:=h.1;refine⟨?_,trivial⟩;rcases D with⟨D,_⟩ |⟨_,z⟩
  .cases D
  exact .inr ⟨rfl,z⟩
 .rename_i p k;obtain⟨i,o⟩:=p;simp only[Ld];cases hi:wM m i with
  |none=>exact⟨trivial,trivial⟩
  |some j=>
   simp only[Option.map_some,AV.refSlot];obtain⟨q,hq,F⟩:=y6 h.1;exact⟨.inr ⟨rfl,q,by rw[(zY E (BO hi)).1];exact hq,by rw[F]⟩,trivial⟩
 .rename_i f l k;cases hl:D9 m l with
  |none=>exact⟨trivial,trivial⟩
  |some l'=>
   simp only[AV.cloSlot];rcases h.1 with⟨D,_⟩ |⟨_,vs,z,h3⟩
   .cases D
   exact⟨.inr ⟨rfl,vs,caps l l' vs z hl,h3⟩,trivial⟩
 .rename_i i k;cases hi:wM m i with
  |none=>exact⟨trivial,trivial⟩
  |some j=>
   simp only[AV.mpSlot];rcases h.1 with⟨D,_⟩ |⟨_,p,z,h3⟩
   .cases D
   exact⟨.inr ⟨rfl,p,by rw[(zY E (BO hi)).1];exact z,h3⟩,trivial⟩
 .rename_i t x k _ _ _ _;split
  .rename_i hp;have F:tJ (uP g np m) w t x v:=h.1.imp (fun⟨a,cs,e,q⟩=>⟨a,cs,e,wG (g:=g) (g':=uP g np m) rfl hp q⟩) (fun⟨a,q⟩=>⟨a,wG (g:=g) (g':=uP g np m) rfl hp q⟩);refine⟨F,?_⟩;replace h:=Nf h;generalize G:G8 t k=k' at h|-;cases k' with
   |none=>trivial
   |some k=>
    simp only[Lf];cases K:wM m k with
    |none=>trivial
    |some j=>
     have z:=h.2;cases t with
     |list u=>
      show (uP g np m).cur j _=_;rw[(zY E (BO K)).2];exact z
     |pair a b=>cases G
     |_=>exact z.elim
  cases I:zW m t x with
  |none=>exact⟨trivial,trivial⟩
  |some y=>
   simp only[AV.valSlot];exact⟨h.1.imp (fun⟨a,cs,e,q⟩=>⟨a,cs,e,SF E q I⟩) (fun⟨a,q⟩=>⟨a,SF E q I⟩),trivial⟩
 .rename_i t x k;split
  .rename_i hp;obtain⟨b,o,cs,D,z,h3,h4⟩:=h.1;exact⟨⟨b,o,cs,D,z,h3,wG (g:=g) (g':=uP g np m) rfl hp h4⟩,trivial⟩
  exact⟨trivial,trivial⟩
 .exact⟨h.1,trivial⟩
 exact⟨trivial,trivial⟩
def Oz {q j:Nat}{x:Nat×Nat}: ∀{r:pY},x∈WX q j r->x=(q,j)\/x∈r
 |[],h=> .inl (aF7.1 h)
 |(a,b)::r,h=>by
  simp only[WX] at h;split at h
  .exact aF1.1 h
  rcases aF1.1 h with h|h
  .exact .inr (by rw[h];exact aGa)
  exact(Oz h).imp id (aF2 _)
def XU {m:pY}: ∀{ts:pY}{q j:Nat},(q,j)∈MK m ts->∃k,(q,k)∈ts/\wM m k=some j
 |[],_,_,h=>by cases h
 |(a,b)::ts,q,j,h=>by
  simp only[MK] at h;cases hb:wM m b with
  |none=>
   rw[hb] at h;obtain⟨k,z,D⟩:=XU h;exact⟨k,aF2 _ z,D⟩
  |some j'=>
   rw[hb] at h;simp only[MK.renTok1] at h;rcases Oz h with z|z
   .cases z;exact⟨b,aGa,hb⟩
   obtain⟨k,z,D⟩:=XU z;exact⟨k,aF2 _ z,D⟩
def N0 {g:Gh}{w:qD}{np:Nat}{m:pY}(K:xI np m=true) {n o:Nat}(hm:(n,o)∈m) {b:Option qP}(h: ∀c,b=some c->AX g w o c):
  AX (uP g np m) w n (zX m b)/\∀bb oo,sL (uP g np m) n (zX m b) bb oo->∃c,b=some c/\sL g o c bb oo:=by
 obtain⟨G,z⟩:=zY (g:=g) K hm;unfold zX;split
 .rename_i t x toks;split
  .rename_i hp;obtain⟨p,cs,E,D,h3,h4,I,M⟩:=h _ rfl;refine⟨⟨p,cs,by rw[G];exact E,wG (g:=g) (g':=uP g np m) rfl hp D,h3,h4,I,fun q j F=>?_⟩,fun bb oo ⟨pp,e1,e2⟩=>⟨_,rfl,pp,by rw[G] at e1;exact e1,e2⟩⟩;obtain⟨k,k1,k2⟩:=XU F;obtain⟨u,l,v,g1,g2,g3⟩:=M q k k1;exact⟨u,l,v,g1,g2,by rw[(zY K (BO k2)).2];exact g3⟩
  cases O:zW m t x with
  |none=>exact⟨trivial,fun _ _ h=>h.elim⟩
  |some y=>
   obtain⟨p,cs,E,D,h3,h4,I,M⟩:=h _ rfl;simp only[gn];refine⟨⟨p,cs,by rw[G];exact E,SF K D O,h3,h4,I,fun q j F=>?_⟩,fun bb oo ⟨pp,e1,e2⟩=>⟨_,rfl,pp,by rw[G] at e1;exact e1,e2⟩⟩;obtain⟨k,k1,k2⟩:=XU F;obtain⟨u,l,v,g1,g2,g3⟩:=M q k k1;exact⟨u,l,v,a6h O g1,g2,by rw[(zY K (BO k2)).2];exact g3⟩
 .rename_i e c k;obtain⟨v,xs,E,D,h3,h4⟩:=h _ rfl;exact⟨⟨v,xs,by rw[z];exact E,D,fun q hq=>by rw[z];exact h3 q hq,h4⟩,fun bb oo ⟨v',e1,e2⟩=>⟨_,rfl,v',by rw[z] at e1;exact e1,e2⟩⟩
 .rename_i e t l n;split
  .rename_i hp;obtain⟨h0,v,xs,E,D,I,h3,h4⟩:=h _ rfl;exact⟨⟨h0,v,xs,by rw[z];exact E,D,DA (fun _ _ h=>wG (g:=g) (g':=uP g np m) rfl hp h) I,fun q hq=>by rw[z];exact h3 q hq,h4⟩,fun bb oo ⟨v',e1,e2⟩=>⟨_,rfl,v',by rw[z] at e1;exact e1,e2⟩⟩
  exact⟨trivial,fun _ _ h=>h.elim⟩
 .rename_i k v l;split
  .rename_i hp;rw[aF0] at hp;obtain⟨p,es,cl,E,h0,D,h3,h4⟩:=h _ rfl;exact⟨⟨p,es,cl,by rw[G];exact E,h0,D,RZ (g:=g) (g':=uP g np m) rfl hp.1 hp.2 h3,h4⟩,fun bb oo ⟨pp,e1,e2⟩=>⟨_,rfl,pp,by rw[G] at e1;exact e1,e2⟩⟩
  exact⟨trivial,fun _ _ h=>h.elim⟩
 .obtain⟨p,E,h0,D,h4⟩:=h _ rfl;exact⟨⟨p,by rw[G];exact E,h0,D,h4⟩,fun bb oo ⟨pp,e1,e2⟩=>⟨_,rfl,pp,by rw[G] at e1;exact e1,e2⟩⟩
 exact⟨trivial,fun _ _ h=>h.elim⟩
def K8 {m:pY}{H:sJ}: ∀{l:pY}{n:Nat}{b:qP},qS (WY m H l) n=some b->∃o,(n,o)∈l/\b=zX m (qS H o)
 |[],_,_,h=>by cases h
 |(a,c)::l,n,b,h=>by
  simp only[WY,qS] at h;split at h
  .rename_i e;subst e;exact⟨c,aGa,(aFU h).symm⟩
  obtain⟨o,z,j⟩:=K8 h;exact⟨o,aF2 _ z,j⟩
def Pa {m:pY}{env:List (Nat×qQ)}: ∀(l:qC) (t:Nat),lk (RT m env l) t=(.any,none)\/lk (RT m env l) t=AV m (lk env t)
 |[],_=> .inl rfl
 |a::l,t=>by
  simp only[RT,lk];split
  .rename_i e;subst e;exact .inr rfl
  exact Pa l t
def Pb: ∀{m:pY}{n o:Nat},(n,o)∈m->n<WZ m
 |(a,b)::m,n,o,h=>by
  simp only[WZ];rcases aF1.1 h with j|j
  .cases j;omega
  have:=Pb j;omega
def kb: ∀{m:pY}{n o:Nat},AM m n=some o->(n,o)∈m
 |[],_,_,h=>by cases h
 |(a,b)::m,n,o,h=>by
  simp only[AM] at h;split at h
  .rename_i e;subst e;simp only[aFO] at h;subst h;exact aGa
  exact aF2 _ (kb h)
def kc {B:Nat}{A:Nat->Nat->Prop}{L:List qP}{g0 g:Gh}{w0 w:qD}{s:St}{a:Act}(h:vE B g w s a) (I:tR A L g0 w0 g w s.H) (O:s.np=L.length) (k:wL) (F:xI s.np k.ids=true):
  vE B (uP g s.np k.ids) w (s.keep k) a/\tR A L g0 w0 (uP g s.np k.ids) w (s.keep k).H/\(s.keep k).np=L.length/\(s.keep k).N=s.N:=by
 unfold St.keep;rw[F];refine⟨⟨fun t=>?_,⟨fun i b hb=>?_,fun i j bi bj b o Q E D o1 o2=>?_,h.heap.sl,h.heap.tab.1,fun i b bb oo hb ho=>by
   obtain⟨o,E,rfl⟩:=K8 hb;obtain⟨c1,e1,o1'⟩:=(N0 F E fun c G=>h.heap.blk o c G).2 bb oo ho;exact h.heap.tab.2 o c1 bb oo e1 o1'⟩,h.size,fun i hi=>?_,h.def_,Nat.le_max_left _ _⟩,⟨I.shut,I.fr,fun i blk b o hb ho=>?_,fun i p hi hp=>?_,fun i hi=>?_,fun i u y us hi hb=>?_,fun i n u hi V=>(by
   show (if i<s.np then g.cur i n else _)=_;rw[aFP pT];exact I.cur i n u hi V)⟩,O,rfl⟩
 .rcases Pa (m:=k.ids) (env:=s.env) k.slots t with e|e
  .exact⟨by rw[show lk (RU s k true).env t=_ from e];trivial,by rw[show lk (RU s k true).env t=_ from e];trivial⟩
  have:=XT F (h.env t);rw[show lk (RU s k true).env t=_ from e];exact this
 .obtain⟨o,E,rfl⟩:=K8 hb;exact(N0 F E fun c G=>h.heap.blk o c G).1
 .obtain⟨p,k1,rfl⟩:=K8 E;obtain⟨q,k2,rfl⟩:=K8 D;obtain⟨c1,e1,o1'⟩:=(N0 F k1 fun c G=>h.heap.blk p c G).2 b o o1;obtain⟨c2,e2,o2'⟩:=(N0 F k2 fun c G=>h.heap.blk q c G).2 b o o2;refine h.heap.dis p q c1 c2 b o (fun e=>?_) e1 e2 o1' o2';subst e;have inj: ∀{m:pY},xI s.np m=true->∀{i j o:Nat},(i,o)∈m->(j,o)∈m->i=j:=by
   intro m
   induction m with
   |nil=>intro _ _ _ _ h;cases h
   |cons z m ih=>
    obtain⟨z1,z2⟩:=z;intro F i j o E D;simp only[xI,aF0,aGj] at F;rcases aF1.1 E with E|E<;>rcases aF1.1 D with D|D
    .cases E;cases D;rfl
    .cases E;exact absurd rfl (XS F.1.2 _ _ D).2
    .cases D;exact absurd rfl (XS F.1.2 _ _ E).2
    exact ih F.2 E D
  exact Q (inj F k1 k2)
 .have M: ¬i<s.np:=by have:=aGL (Nat.le_max_left _ _) hi;omega
  have K:AM k.ids i=none:=by
   cases ho:AM k.ids i with
   |none=>rfl
   |some o=>
    have:=Pb (kb ho);have:=aGL (Nat.le_max_right _ _) hi;omega
  refine⟨?_,fun n=>?_⟩
  .show (if i<s.np then g.J i else(AM k.ids i).bind g.J)=none;rw[aFQ M,K];rfl
  show (if i<s.np then g.cur i n else(AM k.ids i).bind fun o=>g.cur o n)=none;rw[aFQ M,K];rfl
 .obtain⟨p,E,rfl⟩:=K8 hb;obtain⟨c,e1,e2⟩:=(N0 F E fun c G=>h.heap.blk p c G).2 b o ho;exact I.perm p c b o e1 e2
 .show (if i<s.np then g.J i else _)=_;rw[aFP pT];exact I.J i p hi hp
 .rcases I.live i hi with⟨p,hp⟩ |⟨n,v,U⟩
  .left;refine⟨p,?_⟩;show (if i<s.np then g.J i else _)=_;rw[aFP pT];exact hp
  right;refine⟨n,v,?_⟩;show (if i<s.np then g.cur i n else _)=_;rw[aFP pT];exact U
 obtain⟨o,E,D⟩:=K8 hb;have ho:=(jz F E).2 pT;subst ho;unfold zX at D;split at D
 .rename_i t x toks heq;split at D
  .simp only[qP.cells.injEq] at D;obtain⟨rfl,_⟩:=D;exact I.ty o u x toks hi heq
  cases R:zW k.ids t x with
  |none=>rw[R] at D;cases D
  |some y=>
   rw[R] at D;simp only[gn,qP.cells.injEq] at D;obtain⟨rfl,_⟩:=D;exact I.ty o u x toks hi heq
 .cases D
 .split at D<;>cases D
 .split at D<;>cases D
 .cases D
 cases D
def K9 {B:Nat}{A:Nat->Nat->Prop}{L:List qP}{g0 g:Gh}{w0 w:qD}{s:St}{a:Act}(h:vE B g w s a) (z:tR A L g0 w0 g w s.H) (D:s.np=L.length) (k:wL):
  ∃g',vE B g' w (s.keep k) a/\tR A L g0 w0 g' w (s.keep k).H/\(s.keep k).np=L.length/\(s.keep k).N=s.N:=by
 unfold St.keep;cases E:xI s.np k.ids with
 |false=>
  refine⟨g,⟨fun t=>⟨trivial,trivial⟩,⟨(fun i b h=>by cases h),(fun i j bi bj b o _ h=>by cases h),h.heap.sl,h.heap.tab.1,(fun i b bb oo h=>by cases h)⟩,h.size,h.nb,h.def_,h.np⟩,⟨z.shut,z.fr,(fun i blk b o h=>by cases h),z.J,z.live,(fun i u y us _ h=>by cases h),z.cur⟩,D,rfl⟩
 |true=>
  have:=kc h z D k E;unfold St.keep at this;rw[E] at this;exact⟨_,this⟩
end Go.Proofs.YtcpbaddnmpeipaaGreatDoor.Vc
