/- Packed by a program of mine (wip/tools/pack.py): the same texts with short names and few blanks. -/
import Derived.KernelRfl
import Derived.Lib.Hide
import Derived.Lib.IndexMore
import Derived.Lib.RowBridge
import Derived.LoopIn
import Derived.LoopNIn
import Derived.OwnWalkIn
import Derived.RangeFuncBox
import Derived.RangeFuncLeaves
import Derived.Shelf.Abstract
import Derived.Shelf.Slices.Clone
import Derived.Shelf.Slices.CompactS
import Derived.Shelf.Slices.In.SortNone
import Derived.Shelf.SlicesE.DeleteFunc
import Derived.Shelf.Small.Strs
import Derived.Shelf.Small.Utf8
import Derived.Shelf.Sort.Plain
import Derived.Shelf.Spec.SlicesInsertGrow
import Derived.Shelf.Strconv.Itoa3
import Derived.Shelf.Strings.Builder1
import Derived.Shelf.Strings.Fields
import Derived.Shelf.Strings.OnBuilder
import Derived.Shelf.Strings.Runes
import Derived.Shelf.Strings.Search1
import Derived.Shelf.Strings.Search2
import Derived.Shelf.Strings.Search3
import Derived.Shelf.Strings.SlTrimAscii
import Derived.Shelf.Strings.Split
import Derived.Shelf.Strings.Trim
import Derived.Shelf.Unicode.DecodeAny
import Derived.Shelf.Unicode.ValidAny
import Derived.TacticsInMore
import Derived.Test.YtkpflnijijccpaaGreatDoorChecked
import Derived.Test.YtkpflnijijccpaaGreatDoorProg
import Derived.WalkKit
import Derived.Test.YtkpflnijijccpaaGreatDoorD001
set_option linter.defProp false
set_option linter.unusedVariables false
set_option linter.unusedSimpArgs false
set_option linter.unusedSectionVars false
set_option maxRecDepth 100000
set_option maxHeartbeats 4000000
namespace Go.Proofs.YtkpflnijijccpaaGreatDoor.Vc
open Go.RowKit
variable {R:Bool}
attribute [go_sem] Option.map_some Option.map_none
@[go_sem] theorem aPA {H:List (Nat×q9)}{ps:List PK}{b:List qB}{a:Option t7}:y4 H ps ([]++b) a=y4 H ps b a:=rfl
@[go_sem] theorem aPB {H:List (Nat×q9)}{ps:List PK}{x:qB}{l b:List qB}{a:Option t7}:y4 H ps ((x::l)++b) a=y4 H ps (x::(l++b)) a:=rfl
@[go_sem] def aBX:Option qB->Option (List qB)->Option (List qB)
 |some s,some l=>some (s::l)
 |_,_=>none
@[go_sem] def aBY:Option qJ->Option qB
 |some e=>some e.slot
 |none=>none
@[go_sem] def W4 (H:List (Nat×q9)):Option TI->qB->Option qJ
 |some ti,(.val .ref (some (i,off)),_)=>PA ti.ty i off (qD H i)
 |_,_=>none
@[go_sem] def QH (T:sK) (s:St) (m:pK):Nat×Option TypeId->Option qB
 |(t,none)=>some (A6 m (lk s.env t))
 |(t,some ty)=>(aBY (W4 s.H (rK T ty) (lk s.env t))).map (A6 m)
@[go_sem] def IK (T:sK) (s:St) (m:pK):List (Nat×Option TypeId)->Option (List qB)
 |[]=>some []
 |q::r=>aBX (QH T s m q) (IK T s m r)
def D8:Nat×Option TypeId->ResultVar
 |(t,none)=> .tmp t
 |(t,some ty)=> .cell t ty
@[go_sem] def E7:Nat->Nat->List (Nat×q9)->List (Nat×q9)
 |0,_,H=>H
 |n+1,i,[]=>(i,.dead)::E7 n (i+1) []
 |n+1,i,(j,b)::H=>if j=i then(j,b)::E7 n (i+1) H else(i,.dead)::E7 n (i+1) ((j,b)::H)
theorem KM: ∀{n i:Nat}{H:List (Nat×q9)}{k:Nat}{b:q9},qD (E7 n i H) k=some b->qD H k=some b\/b= .dead
 |0,_,_,_,_,h=> .inl h
 |n+1,i,[],k,b,h=>by
  simp only[E7,qD] at h;split at h
  .exact .inr (aRi h).symm
  .exact KM h
 |n+1,i,(j,c)::H,k,b,h=>by
  unfold E7 at h;split at h
  .simp only[qD] at h|-;split at h
   .rename_i e;rw[aRf e];exact .inl h
   .rename_i e;rw[aRk e];exact KM h
  .simp only[qD] at h;split at h
   .exact .inr (aRi h).symm
   .exact KM h
theorem sE.pad {g:Gh}{w:pQ}{H:s7}(h:sE g w H) (n i:Nat):sE g w (E7 n i H):=by
 have own: ∀{k blk b o},qD (E7 n i H) k=some blk->sA g k blk b o->qD H k=some blk:=fun hg ho=>by
  rcases KM hg with h1|h1
  .exact h1
  .subst h1;exact ho.elim
 refine⟨fun k b hb=> ?_,fun i j bi bj b o hij h1 h2 o1 o2=>h.dis i j bi bj b o hij (own h1 o1) (own h2 o2) o1 o2,h.sl,h.tab.1,fun k blk b o h1 h2=>h.tab.2 k blk b o (own h1 h2) h2⟩;rcases KM hb with h1|h1
 .exact h.blk k b h1
 .subst h1;trivial
theorem tH.pad {A:Nat->Nat->Prop}{L:List q9}{g0 g:Gh}{w0 w:pQ}{H:s7}(h:tH A L g0 w0 g w H) (n i:Nat):tH A L g0 w0 g w (E7 n i H):=by
 refine⟨h.shut,h.fr,fun k blk b o hg ho=> ?_,h.J,h.live,fun k u y us hk hg=> ?_,h.cur⟩
 .rcases KM hg with h1|h1
  .exact h.perm k blk b o h1 ho
  .subst h1;exact ho.elim
 .rcases KM hg with h1|h1
  .exact h.ty k u y us hk h1
  .cases h1
def aBZ (T:sK) (ts:List (Nat×Option TypeId)) (r:qH):Ex->St->Prop
 | .exit _,_=>False
 |_,s=> ∃m:pK,xQ s.np m=true/\E7 (qY r.H) 0 (s.keep ⟨[],m⟩).H=qM 0 r.H/\IK T s m ts=some r.ret
section
variable {P:Program}{o:Oper}{a:Act}{g:Gh}{w:pQ}{H:s7}{T:sK}(hT:xH P T) (hH:sE g w H)
include hT hH
theorem aKx {t:TypeId}{vx:pR}{sx:qB}(hx:rH g w sx vx) {e:qJ}(hr:W4 H (rK T t) sx=some e): ∃ad v,vx= .pointer (some ad)/\(loadVar t ad).run P w= .ok v w/\rH g w e.slot v:=by
 generalize hs:rK T t=ot at hr;replace hx:=hx.1;unfold W4 at hr;split at hr
 .rename_i ti i off k;have hty:=tE hT hs;generalize hb:qD H i=ob at hr;unfold PA at hr;split at hr
  .rename_i u z toks;generalize hga:r9 ti.ty u z off=oy at hr;cases oy with
   |none=>cases hr
   |some y=>
    cases hr;obtain⟨p,hp,hv⟩:=zQ hx;obtain⟨p',cs,hp',hR,hra,_,_,htk⟩:=hH.blk i _ hb;rw[hp] at hp';obtain rfl:=aRi hp';obtain⟨c1,c2,c3,rfl,rfl,hR2⟩:=DY hR hga;obtain⟨v,h1,h2,h3⟩:=PW hT hH hty (MT hT hH hra) hR2;refine⟨_,v,hv,by simpa[Instr.loadAt,Instr.sureAddr] using h1,h2,?_⟩;obtain⟨ty,el,by',ar,ls⟩:=ti;cases ty with
    |list u'=>
     simp only[F4];generalize htt:xO toks c1.length=ok;cases ok with
     |none=>trivial
     |some k=>
      obtain⟨u2,l,v',g1,g2,g3⟩:=htk _ _ (a0k hT hH htt);obtain⟨heq,hl⟩:=aAj hT hH g1 hga rfl;injection heq with heq'
      subst heq';have hlen:=sR hR2;obtain⟨v2,rfl⟩:=aSF.1 hlen;have e2:v'=v2:=by
       have e:(c1++[v2]++c3)[c1.length]? =some v2:=by simp
       rw[e] at g2;exact(aRi g2).symm
      have e3:v=v2:=by
       have h4:=AS rfl h2;have hone:=AR h4 v pH;have:v.cells= #[v]:=by cases v<;>first|rfl|(simp [Value.oneCell'] at hone)
       rw[this] at h3;simpa using h3
      subst e2;subst e3;have e4:(y:List u'.den)=l:=hl;subst e4;exact g3
    |_=>trivial
  .cases hr
 .cases hr
end
def KN (tmps:Array pR) (q:Nat×Option TypeId):Sem pR:=match D8 q with
 | .tmp t=>pure (tmps.getD t undef)
 | .cell a t=>do loadVar t (<-asAddr (tmps.getD a undef))
theorem aB0 {P:Program}{T:sK}(hT:xH P T) {B:Nat}{g:Gh}{w:pQ}{s:St}{a:Act}{m:pK}(hk:xQ s.np m=true) (hr:v8 B g w s a): ∀{ts:List (Nat×Option TypeId)}{l:List qB},IK T s m ts=some l->
  ∃vs:pM,(ts.mapM (KN a.tmps)).run P w= .ok vs w/\vL (uT g s.np m) w l vs
 |[],l,h=>by
  simp only[IK,aRd] at h;subst h;exact⟨[],by simp,rfl⟩
 |q::ts,l,h=>by
  simp only[IK] at h;obtain⟨s1,l1,e1,e2,rfl⟩: ∃s1 l1,QH T s m q=some s1/\IK T s m ts=some l1/\l=s1::l1:=by
   cases h1:QH T s m q<;>cases h2:IK T s m ts<;>rw[h1,h2] at h<;>simp [aBX] at h
   exact⟨_,_,rfl,rfl,h.symm⟩
  obtain⟨vs,v1,v2⟩:=aB0 hT hk hr e2;obtain⟨v,w1,w2⟩: ∃v,(KN a.tmps q).run P w= .ok v w/\rH (uT g s.np m) w s1 v:=by
   obtain⟨t,oty⟩:=q;cases oty with
   |none=>
    simp only[QH,aRd] at e1;subst e1;exact⟨_,by simp [KN,D8],VL hk (hr.env t)⟩
   |some ty=>
    simp only[QH] at e1;cases he:W4 s.H (rK T ty) (lk s.env t) with
    |none=>rw[he] at e1;cases e1
    |some e=>
     rw[he] at e1;simp only[aBY,Option.map_some,aRd] at e1;subst e1;obtain⟨ad,v,hv,hl,hs⟩:=aKx hT hr.heap (hr.env t) he;exact⟨v,by simp only[KN,D8,hv,asAddr,aRy,aRI,aRp,hl],VL hk hs⟩
  exact⟨v::vs,by simp only[List.mapM_cons,aRy,w1,aRp,v1,aRI],v,vs,rfl,w2,v2⟩
def N5 (tmps:Array pR):ResultVar->Sem pR
 | .tmp t=>pure (tmps.getD t undef)
 | .cell a t=>do loadVar t (<-asAddr (tmps.getD a undef))
theorem aKy {P:Program}{fn:Func}{w:pQ}{tmps:Array pR}{ts:List (Nat×Option TypeId)}(h:fn.results.toList=ts.map D8) {vs:pM}(hv:(ts.mapM (KN tmps)).run P w= .ok vs w):(results fn tmps).run P w= .ok (a1c vs) w:=by
 obtain⟨rs,hrs⟩: ∃rs,fn.results=⟨rs⟩:=⟨fn.results.toList,rfl⟩;have hm:rs=ts.map D8:=by rw[hrs] at h;exact h
 have key:Sem.run P (((ts.map D8).toArray).mapM (N5 tmps)) w=Result.ok vs.toArray w:=by
  rw[List.mapM_toArray,List.mapM_map];have e:N5 tmps∘D8=KN tmps:=by
   funext q;obtain⟨t,o⟩:=q;cases o<;>rfl
  have e2:(fun q=>N5 tmps (D8 q))=KN tmps:=e;show Sem.run P (List.mapM (fun q=>N5 tmps (D8 q)) ts>>=fun l=>pure l.toArray) w=_;rw[e2,aRy,hv];rfl
 have hu:results fn tmps=(fn.results.mapM (N5 tmps) >>=fun vs=>pure (if h:vs.size=1 then vs[0] else .tuple vs)):=by
  unfold results;congr 2
 rw[hu,hrs,hm,aRy];have key2:Sem.run P (Array.mapM (N5 tmps) (⟨ts.map D8⟩:Array ResultVar)) w=Result.ok vs.toArray w:=key;rw[key2];simp only[aRp,aRI]
 match vs with
 |[]=>rfl
 |[v]=>rfl
 |v::u::l=>simp [a1c]
theorem aKz {P:Program}{T:sK}(hT:xH P T) {f:FuncId}{fn:Func}{c:Code}{C:List qB->List q9->Option qH}{ts:List (Nat×Option TypeId)}(hf:P.funcs[f]? =some fn) (hb:fn.body=some c) {N:Nat}(hN:fn.ntmps=N)
  (hcall: ∀args w,(callFunc f args).run P w= .ok (.enter f args) w) (hres:fn.results.toList=ts.map D8)
  (h: ∀args L r,C args L=some r->(∀p∈r.side,p)->rO L->args.length<=N/\QA (w3 0 L) args/\QB (w3 0 L) L/\Ev false P c ⟨rM 0 args,qM 0 L,qY L,N,qY L⟩ (aBZ T ts r)):xI P f C:=by
 subst hN;refine⟨hcall,fun g w args vals L r hH ha hC hs=> ?_⟩;obtain⟨h1,h2,h3,h4⟩:=h args L r hC hs (aBG fun i b hb=>⟨i,hH.blk i b (by rw[x9];exact hb)⟩);obtain⟨hr,hent⟩:=aKm hH ha h2 h3 h1;have hsub: ∀b o,y8 (uT g 0 (w3 0 L)) (qM 0 L) b o->y8 g (qM 0 L) b o:=fun b o ⟨i,blk,hg,ho⟩=>⟨i,blk,hg,(hent i blk (by rw[<-x9];exact hg)).2.2 b o ho⟩;have hgood:tH (y8 (uT g 0 (w3 0 L)) (qM 0 L)) L (uT g 0 (w3 0 L)) w (uT g 0 (w3 0 L)) w (qM 0 L):=by
  refine⟨fun b o h=>⟨h,rfl⟩,Fr.refl _ _ _,fun i blk b o hg ho=> .inr ⟨i,blk,hg,ho⟩,fun _ _ _ h=>h,fun i hi=> ?_,fun i u y us _ hg=>⟨y,us,by rw[<-x9];exact hg⟩,fun _ _ _ _ h=>h⟩;have hL:L[i]? =some L[i]:=by simp
  obtain⟨_,hbk,_⟩:=hent i L[i] hL;have hnd:=(KL h3 L[i] (aSK hi)).2;generalize L[i]=blk at hbk hnd;cases blk with
  |cells t x ts=>obtain⟨p,cs,hp,_⟩:=hbk;exact .inl ⟨p,hp⟩
  |grow e c n=>obtain⟨v,xs,hv,_⟩:=hbk;exact .inr ⟨n,v,hv⟩
  |row e t l n=>obtain⟨_,v,xs,hv,_⟩:=hbk;exact .inr ⟨n,v,hv⟩
  |map k v l=>obtain⟨p,es,cl,hp,_⟩:=hbk;exact .inl ⟨p,hp⟩
  |iter s n=>obtain⟨p,hp,_⟩:=hbk;exact .inl ⟨p,hp⟩
  |dead=>exact absurd rfl hnd
 refine callsIn_wide.1 (callsIn_of_wp_marks (F:=Fence.wide) (n:=0) hf hb trivial (aST (h4 none rfl _ _ _ _ _ _ _ _ (aRE _) hr hgood (QD L)) fun x a' w' hp=> ?_) rfl);obtain⟨e,g',s',e1,e2,e3,e4,e5⟩:=hp;have fin: ∀m:pK,xQ s'.np m=true->E7 (qY r.H) 0 (s'.keep ⟨[],m⟩).H=qM 0 r.H->IK T s' m ts=some r.ret->LeavesInM Fence.wide 0 P fn a'.tmps (fun e w'=> ∃v' g',e= .returned v'/\E4 g w L r g' w' v') a'.defers .returning w':=by
  intro m hk k1 k2;refine aBL a'.defers w' e3 e4 (fun w1 e3 e4=> ?_);obtain⟨l1,l2,l3,_⟩:=VN e3 e4 e5 ⟨[],m⟩ hk;replace l2:=l2.pad (qY r.H) 0;rw[k1] at l2;obtain⟨vs,q1,q2⟩:=aB0 hT hk e3 k2;have q3:=aKy (P:=P) (w:=w1) (tmps:=a'.tmps) hres q1;refine⟨_,q3,_,_,rfl,⟨fun b o hb=>l2.shut b o hb,by rw[<-k1];exact l1.heap.pad _ _,?_,?_,fun i blk b o hi ho=> ?_,fun i t x us hi=> ?_,fun i t x us u y vs hi hr=> ?_,fun i p hi hp=>l2.J i p hi ((AT VY (N4.2 ⟨rfl,aSo _,pF⟩)).1.trans hp),fun i n u hi hu=>l2.cur i n u hi ((congrFun (AT VY (N4.2 ⟨rfl,aSo _,pF⟩)).2 n).trans hu)⟩⟩
  .unfold Q1;split
   .rename_i s hs;rw[hs] at q2;obtain⟨v,vs',hv,h5,h6⟩:=q2;rw[hv,show vs'=[] from h6];exact h5
   .rename_i hne;refine⟨_,?_,q2⟩;unfold a1c;split
    .rename_i v hv;exfalso;have:=(QC q2).1;cases hq:r.ret with
     |nil=>rw[hq] at this;simp at this
     |cons s l=>cases l with
      |nil=>exact hne s hq
      |cons _ _=>rw[hq] at this;simp at this
    .rfl
  .exact⟨l2.fr.os,l2.fr.tape,l2.fr.output,l2.fr.size,fun b hb hA=>l2.fr.blk b hb (fun o ho=>hA o (hsub b o ho)),fun b o hb hA=>l2.fr.cell b o hb (fun ho=>hA (hsub b o ho)),fun b o hS=>(l2.fr.new b o hS).imp id (Or.imp id (hsub b o)),fun b s hs=>(l2.fr.shape b s hs).imp id fun h o=>hsub b o (h o)⟩
  .exact(l2.perm i blk b o (by rw[x9];exact hi) ho).imp id (hsub b o)
  .obtain⟨j1,⟨p,cs,j2,_⟩,_⟩:=hent i _ hi;have hil:i<L.length:=(aRs.1 hi).1;rw[l2.J i p hil j2,<-j1,j2]
  .have hil:i<L.length:=(aRs.1 hi).1;obtain⟨x',ts',h5⟩:=l2.ty i u y vs hil (by rw[x9];exact hr);rw[hi] at h5;simp only[aRd,q9.cells.injEq] at h5;exact h5.1.symm
 cases x<;>simp only[FE,aRd] at e1
 case normal=>subst e1;obtain⟨k,k0,k1,k2⟩:=e2;exact fin k k0 k1 k2
 case ret=>subst e1;obtain⟨k,k0,k1,k2⟩:=e2;exact fin k k0 k1 k2
 case exit id=>subst e1;exact e2.elim
 all_goals cases e1
open Classical in
noncomputable def rP {V:Type}(p:V->List qB) (q:V->List q9) (R:V->qH) (a:List qB) (L:List q9):Option qH:=
 if h: ∃v,p v=a/\q v=L then some (R h.choose) else none
theorem aKA {V:Type}{p:V->List qB}{q:V->List q9}{R:V->qH}{a:List qB}{L:List q9}{r:qH}(h:rP p q R a L=some r): ∃v,p v=a/\q v=L/\R v=r:=by
 unfold rP at h;split at h
 .rename_i e;exact⟨e.choose,e.choose_spec.1,e.choose_spec.2,aRi h⟩
 .cases h
theorem rR {V:Type}{p:V->List qB}{q:V->List q9}{R:V->qH}(inj: ∀v v',p v=p v'->q v=q v'->v=v') (v:V):rP p q R (p v) (q v)=some (R v):=by
 have h: ∃u,p u=p v/\q u=q v:=⟨v,rfl,rfl⟩;unfold rP;rw[aTj h,inj _ v h.choose_spec.1 h.choose_spec.2]
theorem aB1: ∀{l:List Prop},(∀p∈l,p)->r7 l
 |[],_=>trivial
 |[p],h=>h p pH
 |p::q::r,h=>⟨h p pH,aB1 (l:=q::r) fun x hx=>h x (aRo _ hx)⟩
def r5 (P:Program) (x:Nat×qW):Prop:=xI P x.1 x.2.C/\∀F,x.2.row=some F->V5 P x.1 F
theorem rS {P:Program}{T:sK}{Γ:tW}(hE:rI P T Γ) {f:FuncId}{fn:Func}{c:Code}{V:Type}{p:V->List qB}{q:V->List q9}{R:V->qH}{ps:List PK}{gs:List (Nat×Nat×PK)}{same:pP}{ts:List (Nat×Option TypeId)}(hf:P.funcs[f]? =some fn) (hb:fn.body=some c) {N:Nat}(hN:fn.ntmps=N)
  (hres:fn.results.toList=ts.map D8) (hcall: ∀args w,(callFunc f args).run P w= .ok (.enter f args) w)
  (h: ∀v,r7 (R v).side->rO (q v)->Ev false P c ⟨rM 0 (p v),qM 0 (q v),qY (q v),N,qY (q v)⟩ (aBZ T ts (R v)))
  (h1: ∀v,Nat.ble (p v).length N=true:=by intro _;rfl)
  (h2: ∀v,QA (w3 0 (q v)) (p v):=by intro _;repeat (first|exact trivial|refine ⟨rfl,?_⟩))
  (h3: ∀v,QB (w3 0 (q v)) (q v):=by intro _;repeat (first|exact trivial|refine ⟨rfl,?_⟩)):r5 P (f,⟨ps,rP p q R,gs,same,none⟩):=
 ⟨aKz hE.T hf hb hN hcall hres fun args L r hC hs hr=>by
  obtain⟨v,rfl,rfl,rfl⟩:=aKA hC;exact⟨aSA (h1 v),h2 v,h3 v,h v (aB1 hs) hr⟩,fun _ h=>by cases h⟩
abbrev qC (n:Int):Prop:= -9223372036854775808<=n/\n<=9223372036854775807
@[go_sem] def rJ:List (Nat×qW)->tW
 |[],_=>none
 |(k,s)::r,f=>if k=f then some s else rJ r f
theorem rN {P:Program}:D6 P (rJ []):=fun _ _ _ h=>by cases h
theorem qK {P:Program}{x:Nat×qW}{r:List (Nat×qW)}(h:r5 P x) (hr:D6 P (rJ r)):D6 P (rJ (x::r)):=fun f s hlt hs=>by
 obtain⟨k,y⟩:=x;simp only[rJ] at hs;split at hs
 .rename_i e;subst e;cases hs;exact h
 .exact hr f s hlt hs
section
variable {P:Program}{T:sK}{Γ:tW}(E:rI P T Γ) {s:St}{Q:Ex->St->Prop}
include E
theorem q8 {id:Nat}{ops:Array Oper}{a:vH}{y:Code}(hq:Ev R P y a.s Q) (h:uS T Γ ops.toList ops.toList (some ⟨s,[],[]⟩)=some a:=by simp only[go_sem];rfl) (hp:r7 a.side:=by exact trivial):Ev R P (.seq (.region id ops false) y) s Q:=
 qS (aBV E h hp hq)
theorem vQ {id:Nat}{ops:Array Oper}{a:vH}{y:Code}(hq:Ev R P y a.s Q) (h:uS T Γ ops.toList ops.toList (some ⟨s,[],[]⟩)=some a:=by simp only[go_sem];rfl) (hp:r7 a.side:=by exact trivial) (hf:F9 ops s.nb a.es.reverse=true:=by kernel_rfl):Ev R P (.seq (.region id ops true) y) s Q:=
 qS (aBW E h hf hp hq)
theorem rF {id:Nat}{ops:Array Oper}{a:vH}(hq:Q .normal a.s) (h:uS T Γ ops.toList ops.toList (some ⟨s,[],[]⟩)=some a:=by simp only[go_sem];rfl) (hp:r7 a.side:=by exact trivial):Ev R P (.region id ops false) s Q:=
 aBV E h hp hq
theorem AW {id:Nat}{ops:Array Oper}{a:vH}(hq:Q .normal a.s) (h:uS T Γ ops.toList ops.toList (some ⟨s,[],[]⟩)=some a:=by simp only[go_sem];rfl) (hp:r7 a.side:=by exact trivial) (hf:F9 ops s.nb a.es.reverse=true:=by kernel_rfl):Ev R P (.region id ops true) s Q:=
 aBW E h hf hp hq
end
theorem qV {P:Program}{s:St}{Q:Ex->St->Prop}{c:Operand}{x y:Code}{b b':Bool}{k:pO}{ρ:Type}{X Y r:ρ}(hC:(if b'=true then X else Y)=r) (ht:X=r->b=true->Ev R P x s Q) (hf:Y=r->b=false->Ev R P y s Q)
  (h:uF s.env c=(.val .bool b,k):=by simp only[go_sem];rfl) (hb:b=b':=by first|rfl|simp):Ev R P (.cond c x y) s Q:=
 aKp h (fun e=>ht (aKu hC (hb▸e)) e) (fun e=>hf (aKv hC (hb▸e)) e)
theorem qQ {σ ρ:Type}[Inhabited σ] {x:Option σ}{k:σ->Option ρ}{r:ρ}(h:x.bind k=some r): ∃y,x=some y/\val x=y/\k y=some r:=by
 obtain⟨y,h1,h2⟩:=qI h;exact⟨y,h1,rY h1,h2⟩
attribute [go_sem] true_and and_true false_and and_false Nat.reduceMul List.nil_append List.cons_append List.append_nil List.toList_toArray Nat.reduceEqDiff reduceIte reduceDIte reduceCtorEq Nat.reduceAdd Nat.reduceSub Int.reduceToNat Nat.reduceLT Nat.reduceLeDiff decide_true decide_false Bool.and_self Bool.or_self Bool.or_false Bool.false_or Bool.and_true Bool.true_and Bool.not_true Bool.not_false
end Go.Proofs.YtkpflnijijccpaaGreatDoor.Vc
namespace Go.Proofs
open Go.RowKit Go.Lib
def Tryz.lays137_ren:Go.Shelf.Ren:=⟨fun|137=>108|217=>149|266=>185|n=>n,fun|9=>9|5=>5|3=>3|n=>n,fun|n=>n⟩
theorem Tryz.lays137:Go.Proofs.Lays.n137 Tryz.prog Tryz.lays137_ren:={
 mixed:=by kernel_rfl
 f137:=Tryz.func108.trans (aRx some pT)
 f217:=Tryz.func149.trans (aRx some pT)
 f266:=Tryz.func185.trans (aRx some pT)
 t3:=Tryz.underlying3
 a3:=Tryz.isAgg3
 z3:=Tryz.sizeOf3
 v3:=Tryz.zeroValue3
 t5:=Tryz.underlying5
 a5:=Tryz.isAgg5
 z5:=Tryz.sizeOf5
 v5:=Tryz.zeroValue5
 t9:=Tryz.underlying9
 a9:=Tryz.isAgg9
 z9:=Tryz.sizeOf9
 v9:=Tryz.zeroValue9}
def Tryz.lays161_ren:Go.Shelf.Ren:=⟨fun|161=>127|231=>117|227=>119|233=>120|235=>122|228=>160|197=>161|151=>162|260=>194|152=>195|137=>108|119=>219|224=>187|225=>186|217=>149|266=>185|n=>n,fun|9=>9|4=>4|3=>3|5=>5|117=>162|116=>161|0=>0|124=>165|105=>191|21=>21|119=>182|46=>175|139=>230|138=>229|n=>n,fun|3=>3|4=>4|n=>n⟩
theorem Tryz.lays161:Go.Proofs.Lays.n161 Tryz.prog Tryz.lays161_ren:={
 mixed:=by kernel_rfl
 f119:=Tryz.func219.trans (aRx some pT)
 f137:=Tryz.func108.trans (aRx some pT)
 f151:=Tryz.func162.trans (aRx some pT)
 f152:=Tryz.func195.trans (aRx some pT)
 f161:=Tryz.func127.trans (aRx some pT)
 f197:=Tryz.func161.trans (aRx some pT)
 f217:=Tryz.func149.trans (aRx some pT)
 f224:=Tryz.func187.trans (aRx some pT)
 f225:=Tryz.func186.trans (aRx some pT)
 f227:=Tryz.func119.trans (aRx some pT)
 f228:=Tryz.func160.trans (aRx some pT)
 f231:=Tryz.func117.trans (aRx some pT)
 f233:=Tryz.func120.trans (aRx some pT)
 f235:=Tryz.func122.trans (aRx some pT)
 f260:=Tryz.func194.trans (aRx some pT)
 f266:=Tryz.func185.trans (aRx some pT)
 t0:=Tryz.underlying0
 a0:=Tryz.isAgg0
 z0:=Tryz.sizeOf0
 v0:=Tryz.zeroValue0
 t3:=Tryz.underlying3
 a3:=Tryz.isAgg3
 z3:=Tryz.sizeOf3
 v3:=Tryz.zeroValue3
 t4:=Tryz.underlying4
 a4:=Tryz.isAgg4
 z4:=Tryz.sizeOf4
 v4:=Tryz.zeroValue4
 t5:=Tryz.underlying5
 a5:=Tryz.isAgg5
 z5:=Tryz.sizeOf5
 v5:=Tryz.zeroValue5
 t9:=Tryz.underlying9
 a9:=Tryz.isAgg9
 z9:=Tryz.sizeOf9
 v9:=Tryz.zeroValue9
 t21:=Tryz.underlying21
 a21:=Tryz.isAgg21
 z21:=Tryz.sizeOf21
 v21:=Tryz.zeroValue21
 t46:=Tryz.underlying175
 a46:=Tryz.isAgg175
 z46:=Tryz.sizeOf175
 v46:=Tryz.zeroValue175
 t105:=Tryz.underlying191
 a105:=Tryz.isAgg191
 z105:=Tryz.sizeOf191
 v105:=Tryz.zeroValue191
 t116:=Tryz.underlying161
 a116:=Tryz.isAgg161
 z116:=Tryz.sizeOf161
 t117:=Tryz.underlying162
 a117:=Tryz.isAgg162
 z117:=Tryz.sizeOf162
 v117:=Tryz.zeroValue162
 t119:=Tryz.underlying182
 a119:=Tryz.isAgg182
 z119:=Tryz.sizeOf182
 t124:=Tryz.underlying165
 a124:=Tryz.isAgg165
 z124:=Tryz.sizeOf165
 v124:=Tryz.zeroValue165
 t138:=Tryz.underlying229
 a138:=Tryz.isAgg229
 z138:=Tryz.sizeOf229
 v138:=Tryz.zeroValue229
 t139:=Tryz.underlying230
 a139:=Tryz.isAgg230
 z139:=Tryz.sizeOf230
 v139:=Tryz.zeroValue230
 g3:=by kernel_rfl
 g4:=by kernel_rfl}
def Tryz.lays190_ren:Go.Shelf.Ren:=⟨fun|190=>88|125=>135|258=>134|128=>177|129=>178|302=>168|303=>169|304=>170|305=>171|306=>172|307=>173|308=>174|309=>175|310=>176|333=>201|329=>202|330=>203|334=>204|335=>205|336=>206|344=>222|n=>n,fun|31=>24|9=>9|3=>3|46=>175|0=>0|51=>205|53=>207|4=>4|183=>199|182=>198|131=>55|5=>5|218=>221|222=>225|228=>250|229=>180|n=>n,fun|n=>n⟩
theorem Tryz.lays190:Go.Proofs.Lays.n190 Tryz.prog Tryz.lays190_ren:={
 mixed:=by kernel_rfl
 f125:=Tryz.func135.trans (aRx some pT)
 f128:=Tryz.func177.trans (aRx some pT)
 f129:=Tryz.func178.trans (aRx some pT)
 f190:=Tryz.func88.trans (aRx some pT)
 f258:=Tryz.func134.trans (aRx some pT)
 f302:=Tryz.func168.trans (aRx some pT)
 f303:=Tryz.func169.trans (aRx some pT)
 f304:=Tryz.func170.trans (aRx some pT)
 f305:=Tryz.func171.trans (aRx some pT)
 f306:=Tryz.func172.trans (aRx some pT)
 f307:=Tryz.func173.trans (aRx some pT)
 f308:=Tryz.func174.trans (aRx some pT)
 f309:=Tryz.func175.trans (aRx some pT)
 f310:=Tryz.func176.trans (aRx some pT)
 f329:=Tryz.func202.trans (aRx some pT)
 f330:=Tryz.func203.trans (aRx some pT)
 f333:=Tryz.func201.trans (aRx some pT)
 f334:=Tryz.func204.trans (aRx some pT)
 f335:=Tryz.func205.trans (aRx some pT)
 f336:=Tryz.func206.trans (aRx some pT)
 f344:=Tryz.func222.trans (aRx some pT)
 t0:=Tryz.underlying0
 a0:=Tryz.isAgg0
 z0:=Tryz.sizeOf0
 v0:=Tryz.zeroValue0
 t3:=Tryz.underlying3
 a3:=Tryz.isAgg3
 z3:=Tryz.sizeOf3
 v3:=Tryz.zeroValue3
 t4:=Tryz.underlying4
 a4:=Tryz.isAgg4
 z4:=Tryz.sizeOf4
 v4:=Tryz.zeroValue4
 t5:=Tryz.underlying5
 a5:=Tryz.isAgg5
 z5:=Tryz.sizeOf5
 v5:=Tryz.zeroValue5
 t9:=Tryz.underlying9
 a9:=Tryz.isAgg9
 z9:=Tryz.sizeOf9
 v9:=Tryz.zeroValue9
 t31:=Tryz.underlying24
 a31:=Tryz.isAgg24
 z31:=Tryz.sizeOf24
 v31:=Tryz.zeroValue24
 t46:=Tryz.underlying175
 a46:=Tryz.isAgg175
 z46:=Tryz.sizeOf175
 v46:=Tryz.zeroValue175
 t51:=Tryz.underlying205
 a51:=Tryz.isAgg205
 z51:=Tryz.sizeOf205
 v51:=Tryz.zeroValue205
 t53:=Tryz.underlying207
 a53:=Tryz.isAgg207
 z53:=Tryz.sizeOf207
 v53:=Tryz.zeroValue207
 t131:=Tryz.underlying55
 a131:=Tryz.isAgg55
 z131:=Tryz.sizeOf55
 v131:=Tryz.zeroValue55
 t182:=Tryz.underlying198
 a182:=Tryz.isAgg198
 z182:=Tryz.sizeOf198
 v182:=Tryz.zeroValue198
 t183:=Tryz.underlying199
 a183:=Tryz.isAgg199
 z183:=Tryz.sizeOf199
 v183:=Tryz.zeroValue199
 t218:=Tryz.underlying221
 a218:=Tryz.isAgg221
 z218:=Tryz.sizeOf221
 v218:=Tryz.zeroValue221
 t222:=Tryz.underlying225
 a222:=Tryz.isAgg225
 z222:=Tryz.sizeOf225
 v222:=Tryz.zeroValue225
 t228:=Tryz.underlying250
 a228:=Tryz.isAgg250
 z228:=Tryz.sizeOf250
 v228:=Tryz.zeroValue250
 t229:=Tryz.underlying180
 a229:=Tryz.isAgg180
 z229:=Tryz.sizeOf180
 v229:=Tryz.zeroValue180}
def Tryz.lays196_ren:Go.Shelf.Ren:=⟨fun|196=>179|259=>207|n=>n,fun|0=>0|3=>3|4=>4|5=>5|9=>9|12=>12|46=>175|53=>207|119=>182|138=>229|139=>230|n=>n,fun|3=>3|4=>4|n=>n⟩
theorem Tryz.lays196:Go.Proofs.Lays.n196 Tryz.prog Tryz.lays196_ren:={
 mixed:=by kernel_rfl
 f196:=Tryz.func179.trans (aRx some pT)
 f259:=Tryz.func207.trans (aRx some pT)
 t0:=Tryz.underlying0
 a0:=Tryz.isAgg0
 z0:=Tryz.sizeOf0
 v0:=Tryz.zeroValue0
 t3:=Tryz.underlying3
 a3:=Tryz.isAgg3
 z3:=Tryz.sizeOf3
 v3:=Tryz.zeroValue3
 t4:=Tryz.underlying4
 a4:=Tryz.isAgg4
 z4:=Tryz.sizeOf4
 v4:=Tryz.zeroValue4
 t5:=Tryz.underlying5
 a5:=Tryz.isAgg5
 z5:=Tryz.sizeOf5
 v5:=Tryz.zeroValue5
 t9:=Tryz.underlying9
 a9:=Tryz.isAgg9
 z9:=Tryz.sizeOf9
 v9:=Tryz.zeroValue9
 t12:=Tryz.underlying12
 a12:=Tryz.isAgg12
 z12:=Tryz.sizeOf12
 v12:=Tryz.zeroValue12
 t46:=Tryz.underlying175
 a46:=Tryz.isAgg175
 z46:=Tryz.sizeOf175
 v46:=Tryz.zeroValue175
 t53:=Tryz.underlying207
 a53:=Tryz.isAgg207
 z53:=Tryz.sizeOf207
 v53:=Tryz.zeroValue207
 t119:=Tryz.underlying182
 a119:=Tryz.isAgg182
 z119:=Tryz.sizeOf182
 t138:=Tryz.underlying229
 a138:=Tryz.isAgg229
 z138:=Tryz.sizeOf229
 v138:=Tryz.zeroValue229
 t139:=Tryz.underlying230
 a139:=Tryz.isAgg230
 z139:=Tryz.sizeOf230
 v139:=Tryz.zeroValue230
 g3:=by kernel_rfl
 g4:=by kernel_rfl}
def Tryz.lays240_ren:Go.Shelf.Ren:=⟨fun|240=>58|276=>94|n=>n,fun|0=>0|4=>4|9=>9|20=>20|70=>71|72=>73|164=>142|37=>22|n=>n,fun|n=>n⟩
theorem Tryz.lays240:Go.Proofs.Lays.n240 Tryz.prog Tryz.lays240_ren:={
 mixed:=by kernel_rfl
 f240:=Tryz.func58.trans (aRx some pT)
 f276:=Tryz.func94.trans (aRx some pT)
 t0:=Tryz.underlying0
 a0:=Tryz.isAgg0
 z0:=Tryz.sizeOf0
 v0:=Tryz.zeroValue0
 t4:=Tryz.underlying4
 a4:=Tryz.isAgg4
 z4:=Tryz.sizeOf4
 v4:=Tryz.zeroValue4
 t9:=Tryz.underlying9
 a9:=Tryz.isAgg9
 z9:=Tryz.sizeOf9
 v9:=Tryz.zeroValue9
 t20:=Tryz.underlying20
 a20:=Tryz.isAgg20
 z20:=Tryz.sizeOf20
 v20:=Tryz.zeroValue20
 t70:=Tryz.underlying71
 a70:=Tryz.isAgg71
 z70:=Tryz.sizeOf71
 v70:=Tryz.zeroValue71
 t72:=Tryz.underlying73
 a72:=Tryz.isAgg73
 z72:=Tryz.sizeOf73
 v72:=Tryz.zeroValue73
 t164:=Tryz.underlying142
 a164:=Tryz.isAgg142
 z164:=Tryz.sizeOf142
 v164:=Tryz.zeroValue142}
theorem Tryz.builderX72:Builder.X72 Tryz.prog Tryz.lays240_ren:={
 sizeBuilder:=by kernel_rfl
 liesBuilder:=by kernel_rfl}
def Tryz.lays169_ren:Go.Shelf.Ren:=⟨fun|169=>31|n=>n,fun|70=>71|9=>9|0=>0|72=>73|37=>22|127=>106|3=>3|5=>5|n=>n,fun|n=>n⟩
theorem Tryz.lays169:Go.Proofs.Lays.n169 Tryz.prog Tryz.lays169_ren:={
 mixed:=by kernel_rfl
 f169:=Tryz.func31.trans (aRx some pT)
 t0:=Tryz.underlying0
 a0:=Tryz.isAgg0
 z0:=Tryz.sizeOf0
 v0:=Tryz.zeroValue0
 t3:=Tryz.underlying3
 a3:=Tryz.isAgg3
 z3:=Tryz.sizeOf3
 v3:=Tryz.zeroValue3
 t9:=Tryz.underlying9
 a9:=Tryz.isAgg9
 z9:=Tryz.sizeOf9
 v9:=Tryz.zeroValue9
 t37:=Tryz.underlying22
 a37:=Tryz.isAgg22
 z37:=Tryz.sizeOf22
 v37:=Tryz.zeroValue22
 t70:=Tryz.underlying71
 a70:=Tryz.isAgg71
 z70:=Tryz.sizeOf71
 v70:=Tryz.zeroValue71
 t72:=Tryz.underlying73
 a72:=Tryz.isAgg73
 z72:=Tryz.sizeOf73
 v72:=Tryz.zeroValue73
 t127:=Tryz.underlying106
 a127:=Tryz.isAgg106
 z127:=Tryz.sizeOf106
 v127:=Tryz.zeroValue106}
theorem Tryz.builderExtra:Builder.Extra Tryz.prog Tryz.lays169_ren:={
 sizeBuilder:=by kernel_rfl
 liesBuilder:=by kernel_rfl
 t5:=Tryz.underlying5
 a5:=Tryz.isAgg5
 z5:=Tryz.sizeOf5
 v5:=Tryz.zeroValue5
 infoByte:=by kernel_rfl
 cellsByte:=by kernel_rfl
 sizeByte:=by kernel_rfl
 neB5:=by decide}
end Go.Proofs
namespace Go.Proofs.YtkpflnijijccpaaGreatDoor
open Vc Go.RowKit
theorem aKB {g:Gh}{w w':pQ}(hH:sE g w (qM 0 [])) (hb:Below w.heap.size w w'):sE g w' (qM 0 []):=
 ⟨fun _ _ h=>(by cases h),fun _ _ _ _ _ _ _ h=>(by cases h),fun b o h=>aRT (hH.sl b o h) hb.size,⟨JS hH.tab.1 hb.size fun b h=>hb.block b (aRT h hH.tab.1.1),fun _ _ _ _ h=>(by cases h)⟩⟩
theorem IL {P:Program}{f:FuncId}{C:List qB->List q9->Option qH}(hen: ∀args w,(callFunc f args).run P w= .ok (.enter f args) w)
  (h: ∀(g:Gh) (w:pQ) (args:List qB) (vals:pM) (L:List q9) (r:qH),D0 w->vL g w args vals->C args L=some r->(∀p∈r.side,p)->
   L=[]/\r.H=[]/\Calls P f vals.toArray w (fun e w'=> ∃v,e= .returned v/\Below w.heap.size w w'/\Q1 g w' r.ret v)):xI P f C:=by
 refine⟨hen,fun g w args vals L r hH ha hC hs=> ?_⟩;obtain⟨rfl,hr,hc⟩:=h g w args vals L r hH.tab.1 ha hC hs;refine hc.mono fun e w' ⟨v,he,hb,hv⟩=>⟨v,g,he,⟨fun b o h=>⟨h,hb.cell (p:=⟨b,o,none⟩) (hH.sl b o h)⟩,by rw[hr];exact aKB hH hb,hv,⟨hb.os,hb.tape,hb.output,hb.size,fun b h _=>hb.block b h,fun b o h _=>⟨hb.cell (p:=⟨b,o,none⟩) h,hb.frozen (p:=⟨b,o,none⟩) h⟩,fun b o h=> .inl h,fun b s h=> .inl ((CE (hb.block b (CD h))).trans h)⟩,(fun i blk b o h=>by rw[hr] at h;cases h),(fun i t x ts h=>by cases h),(fun i t x ts u y us h=>by cases h),(fun _ _ _ h=>h),(fun _ _ _ _ h=>h)⟩⟩
theorem W5 {P:Program}{f:FuncId}{vals:Array pR}{w:pQ}{Q:Ending->Prop}(h:Calls P f vals w fun e w'=>Q e/\w'=w):Calls P f vals w fun e w'=>Q e/\Below w.heap.size w w':=
 h.mono fun e w' ⟨h1,h2⟩=>⟨h1,by rw[h2];exact Below.refl _ _⟩
def v7 (s:pC) (c:Int):Int:=Lib.indexByte s (Int.toNat c).toUInt8
@[go_sem] def QI:List qB->List q9->Option qH
 |[(.val .str O,none),(.val (.int .u8) Z,none)],[]=>some ⟨[],[(.val (.int .i64) (v7 O Z),none)],[]⟩
 |_,_=>none
theorem a1j:xI Tryz.prog 108 QI:=by
 refine IL (fun _ _=>rfl) fun g w args vals L r hT ha hC hs=> ?_;unfold QI at hC;split at hC
 .rename_i s c;cases hC;obtain⟨va,_,rfl,ra,vb,_,rfl,rb,hv⟩:=ha;obtain rfl:=wU ra.1;obtain rfl:=wM rb.1;cases hv;exact⟨rfl,rfl,(W5 (Any.strings_IndexByte Tryz.lays137 ⟨List.toArray s⟩ c w)).mono fun e w' ⟨he,hb⟩=>⟨_,he,hb,wN _ _ _ _,trivial⟩⟩
 .cases hC
@[go_sem] def QJ:List qB->List q9->Option qH
 |[(.val .str O,none),(.val .str Z,none)],[]=>some ⟨[(List.all Z fun b=>decide (b.toNat<128))=true/\List.length Z<4294967281],[(.val .str (Lib.trimLeftS O Z),none)],[]⟩
 |_,_=>none
theorem a1k:xI Tryz.prog 127 QJ:=by
 refine IL (fun _ _=>rfl) fun g w args vals L r hT ha hC hs=> ?_;unfold QJ at hC;split at hC
 .rename_i s c;cases hC;obtain⟨h1,h2⟩:=hs _ aRm;obtain⟨va,_,rfl,ra,vb,_,rfl,rb,hv⟩:=ha;obtain rfl:=wU ra.1;obtain rfl:=wU rb.1;cases hv;exact⟨rfl,rfl,(Any.strings_TrimLeft_laid Tryz.lays161 pT ⟨List.toArray s⟩ ⟨List.toArray c⟩ w h2 (ascii_of_all h1)).mono fun e w' ⟨he,hb⟩=>⟨_,he,hb,BD _ _ _,trivial⟩⟩
 .cases hC
@[go_sem] def QK:List qB->List q9->Option qH
 |[(.val .str O,none)],[]=>some ⟨[List.length O<=9223372036854775807],[(.val .bool (Lib.validD O),none)],[]⟩
 |_,_=>none
theorem a1l:xI Tryz.prog 179 QK:=by
 refine IL (fun _ _=>rfl) fun g w args vals L r hT ha hC hs=> ?_;unfold QK at hC;split at hC
 .rename_i s;cases hC;have h1:=hs _ aRm;obtain⟨va,_,rfl,ra,hv⟩:=ha;obtain rfl:=wU ra.1;cases hv;exact⟨rfl,rfl,(Any.utf8_ValidString Tryz.lays196 ⟨List.toArray s⟩ w h1 hT.2.1).mono fun e w' ⟨he,hb⟩=>⟨_,he,hb,wV _ _ _,trivial⟩⟩
 .cases hC
@[go_sem] def W6:List qB->List q9->Option qH:=fun _ _=>none
def sG (l:pD):pD:=l.mergeSort fun x y=>decide (x<=y)
@[go_sem] def W7:(t:Ty)->List t.den->Option (List t.den)
 | .str,l=>some (sG l)
 |_,_=>none
theorem a1m {g:Gh}{w:pQ}: ∀{l:pD}{xs:pM},tX (Rd g w .str) 1 l xs->xs=l.map Go.Proofs.encStr
 |[],_,h=>h
 |_::_,_,⟨c1,c2,e,_,h2,h3⟩=>by rw[e,show c1=_ from h2,a1m h3];rfl
theorem W8 {g:Gh}{w:pQ}: ∀(l:pD),tX (Rd g w .str) 1 l (l.map Go.Proofs.encStr)
 |[]=>rfl
 |x::l=>⟨[.string ⟨x.toArray⟩],_,rfl,rfl,rfl,W8 l⟩
theorem aB2 (s:pD) (cur:Array pR) (h:s.length<=cur.size):(Go.Sort.putCells Go.Proofs.encStr 0 s.toArray cur).toList.take s.length=s.map Go.Proofs.encStr:=by
 apply List.ext_getElem
 .simp [Go.Sort.putCells];omega
 .intro i h1 h2;have hi:i<s.length:=by simpa using h2
  simp only[Go.Sort.putCells,List.getElem_take,Array.getElem_toList,Array.getElem_mapIdx,List.getElem_map];rw[aRf (by simp;exact hi)];simp [hi]
theorem a1n:xI Tryz.prog 88 W6/\∀F,some W7=some F->V5 Tryz.prog 88 F:=by
 refine⟨⟨fun _ _=>rfl,fun g w args vals L r _ _ hC _=>by cases hC⟩,fun F hF=> ?_⟩;cases hF;intro g w e t l l' v n xs hT hown hF hl hn hf;cases t with
 |str=>
  have hf:sG l=l':=aRi hf;subst hf;subst hl;have hlen:(sG l).length=l.length:=by simp [sG]
  obtain⟨hx,⟨rfl,h0⟩ |⟨b,cap,cur,rfl,hb0,hbk,hnc,hcm,hcs,htk⟩⟩:=hown
  .obtain rfl:l=[]:=aSM.1 h0;refine(Any.slices_Sort_string_none Tryz.lays190 none 0 w).mono ?_;rintro en w' ⟨rfl,rfl⟩;exact⟨rfl,hlen,[],⟨rfl,.inl ⟨rfl,rfl⟩⟩,by simp [sG,tX],⟨rfl,rfl,rfl,aRE _,fun _ _ _=>rfl⟩⟩
  .have hxs:=a1m hF;subst hxs;have hc1:(Ty.str).cells=1:=rfl;rw[hc1,aS3] at hcs htk;have hbl:b<w.heap.size:=by
    rcases aSr b w.heap.size with h|h
    .exact h
    .rw[Array.getElem?_eq_none h] at hbk;cases hbk
   have hH:Go.Sort.Holds Go.Proofs.encStr w b 0 l.toArray:=by
    intro j hj;have hj':j<l.length:=by simpa using hj
    refine⟨?_,Lib.frozen_of_heap hbk _⟩;rw[Lib.cell_of_heap hbk,aRP];have h2:(cur.toList.take l.length)[j]? =(l.map Go.Proofs.encStr)[j]? :=by rw[htk]
    rw[aSj hj',aSn] at h2;rw[h2];simp [hj']
   refine(Any.slices_Sort_string Tryz.lays190 b 0 cap l w hH hbl hn).mono ?_;rintro en w' ⟨rfl,m,os,rfl⟩;have hsz:(sG l).length<=cur.size:=by rw[hlen,hcs];exact hnc
   have hnew:(Go.Sort.grow (Go.Sort.putRow Go.Proofs.encStr (Go.Sort.ahead w m) b 0 (sG l).toArray) os).heap[b]? =some (.cells (Go.Sort.putCells Go.Proofs.encStr 0 (sG l).toArray cur) e (0,0)):=by
    rw[Go.Sort.heap_grow_old _ _ (by simpa using hbl)];simp [Go.Sort.putRow,Go.Sort.mapBlock,aSs,hbk,Go.Sort.onCells]
   refine⟨rfl,hlen,(sG l).map Go.Proofs.encStr,⟨by simp [hlen,hc1],.inr ⟨b,cap,_,rfl,hb0,hnew,hnc,hcm,?_,?_⟩⟩,W8 _,⟨rfl,rfl,rfl,by simp,fun k hk hne=> ?_⟩⟩
   .rw[hc1,aS3];simpa[Go.Sort.putCells] using hcs
   .rw[hc1,aS3,<-hlen];exact aB2 _ _ hsz
   .rw[Go.Sort.heap_grow_old _ _ (by simpa using hk)];have hkb:b≠k:=fun h=>hne (by rw[h];rfl);simp [Go.Sort.putRow,Go.Sort.mapBlock,aSs,hkb]
 |_=>cases hf
def yK (s c:pC):Int:=Lib.index s c
@[go_sem] def QL:List qB->List q9->Option qH
 |[(.val .ref (some (0,0)),none)],[.cells (.pair .mref (.pair (.list (.int .u8)) .unit)) ((some (0,0)),O) [(1,1)],.grow Z 1 aA]=>some ⟨[aA=List.length O.1],[],[.cells (.pair .mref (.pair (.list (.int .u8)) .unit)) ((some (0,0)),O) [(1,1)],.grow Z 1 aA]⟩
 |_,_=>none
theorem aKC {g:Gh}{w:pQ}{L:List q9}{e:qJ}{w':pQ}{u v:pR}{r:qH}(hE:sB g w (qM 0 L) e g w' u)
  (hH: ∀i,qD (qM 0 r.H) i=qD (qT e.upd (qM 0 L)) i) (hin: ∀i,i∈qE e.upd->i<L.length) (hlen:r.H.length=L.length)
  (hp: ∀i blk b o,r.H[i]? =some blk->sA g i blk b o->w.heap.size<=b\/y8 g (qM 0 L) b o)
  (hty: ∀(i:Nat) t x ts u y us,L[i]? =some (.cells t x ts)->r.H[i]? =some (.cells u y us)->u=t)
  (hret:Q1 g w' r.ret v):E4 g w L r g w' v:=
 ⟨fun b o h=>⟨h,hE.le.cell b o h⟩,hE.heap.ext hH,hret,hE.fr.mono fun b o ⟨i,blk,_,h1,h2⟩=>⟨i,blk,h1,h2⟩,hp,fun _ _ _ _ _=>rfl,hty,fun _ _ _ h=>h,fun _ _ _ _ h=>h⟩
theorem aKD {P:Program}{ρ:Go.Shelf.Ren}(L:Lays.n240 P ρ) (X:Builder.X72 P ρ) {e:TypeId}(b:Nat) (w:pQ) (h0:w.cell? ⟨b,0,none⟩=some (.pointer none)) (hsh:w.shape? b=some (e,2)) (hl:liesAt P P.depth e (2/P.cellsOf e) 0 (ρ.t 72) 1=true) (hfz:w.frozen? ⟨b,0,none⟩=false):
  Calls P (ρ.f 240) #[.pointer (some ⟨b,0,none⟩)] w fun en w'=>en= .returned (.tuple #[])/\w'=w.setCell ⟨b,0,none⟩ (.pointer (some ⟨b,0,none⟩)):=by
 obtain⟨j,hj,hjs⟩:=aRn.1 X.sizeBuilder;have mixed:=L.mixed;have t72:=L.t72;have a72:=L.a72;have z72:=L.z72;have v72:=L.v72;have u72:=aRB L.t72;have t70:=L.t70;have a70:=L.a70;have z70:=L.z70;have v70:=L.v70;have u70:=aRB L.t70;have t9:=L.t9;have a9:=L.a9;have z9:=L.z9;have v9:=L.v9;have u9:=aRB L.t9;have t4:=L.t4;have a4:=L.a4;have z4:=L.z4;have v4:=L.v4;have u4:=aRB L.t4;have t164:=L.t164;have a164:=L.a164;have z164:=L.z164;have v164:=L.v164;have u164:=aRB L.t164
 go_enter L.f240,Body.n240_ntmps ρ
 go_wp2
 rw[Lib.run_to_unsafe w ⟨b,0,none⟩ L.t70 L.t164 hj (by rw[hjs];decide) hsh (Nat.zero_lt_succ 1)];simp only[Result.andThen];rw[Oper.upon_value]
 go_wp2
 rw[run_callFunc_extern L.f276 pT pT pT (e:=Extern.AbiNoEscape.same) pT];rw[Lib.run_noEscape];simp only[Result.andThen];rw[Oper.upon_value]
 go_wp2
 rw[Lib.run_from_unsafe w ⟨b,0,none⟩ L.t164 L.t70 hj hsh hl];simp only[Result.andThen];rw[Oper.upon_value]
 go_wp2
 go_end0
 exact⟨rfl,rfl⟩
theorem a1o:xI Tryz.prog 58 QL:=by
 refine⟨fun _ _=>rfl,fun g w args vals L r hH ha hC hs=> ?_⟩;unfold QL at hC;split at hC
 .rename_i O Z aA;cases hC;obtain⟨va,_,rfl,ra,hv⟩:=ha;cases hv;have hg0:qD (qM 0 [q9.cells (.pair .mref (.pair (.list (.int .u8)) .unit)) ((some (0,0)),O) [(1,1)],.grow Z 1 aA]) 0=some (.cells (.pair .mref (.pair (.list (.int .u8)) .unit)) ((some (0,0)),O) [(1,1)]):=rfl;obtain⟨p,cs,hJ,hR,hra,hth,hns,htk⟩:=hH.blk 0 _ hg0;obtain⟨c1,c2,rfl,hR1,hR2⟩:=hR;obtain⟨p',hJ',⟨hp0,eb,heb,hk3⟩,hc1⟩:=hR1;rw[hJ] at hJ';obtain rfl:=aRi hJ';obtain⟨b,o,k⟩:=p;have ho:o=0:=by simpa using hp0
  subst ho;have hlies:liesAt Tryz.prog Tryz.prog.depth eb (2/Tryz.prog.cellsOf eb) 0 73 1=true:=by
   unfold YV at heb;split at heb
   .rename_i h;subst h;kernel_rfl
   .split at heb
    .rename_i h;subst h;kernel_rfl
    .cases heb
  have hva:va= .pointer (some ⟨b,0,none⟩):=by
   obtain⟨q,hq,e⟩:=zQ ra.1;rw[hJ] at hq;cases hq;exact e
  subst hva;have hsh:w.shape? b=some (eb,2):=hth.2 pG _ hk3;rcases hc1 with rfl|rfl
  .have h0:w.cell? ⟨b,0,none⟩=some (.pointer none)/\w.frozen? ⟨b,0,none⟩=false:=⟨hra 0 _ rfl,(hth.1 0 pG).2⟩;refine(aKD Tryz.lays240 Tryz.builderX72 b w h0.1 hsh hlies h0.2).mono ?_;rintro en w' ⟨rfl,rfl⟩;refine⟨_,g,rfl,?_⟩;have hE:=sB.store (side:=[]) (rds:=[]) hH (i:=0) (t:= .mref) (y:=some (0,0)) (off:=0) (k:=none) (p:=⟨b,0,k⟩) (cy:=[.pointer (some ⟨b,0,none⟩)]) (v:= .pointer (some ⟨b,0,none⟩)) hg0 hJ (z:=((some (0,0)),O)) pU ⟨_,hJ,⟨rfl,_,heb,hk3⟩,.inr rfl⟩ trivial (fun _ _ h=>by cases h) (fun _=>rfl);refine aKC hE.1 ?_ ?_ rfl ?_ ?_ ?_
   .intro i
    match i with
    |0=>rfl
    |1=>rfl
    |i+2=>rfl
   .intro i hi;simp [qE] at hi;subst hi;exact Nat.zero_lt_succ _
   .intro i blk b o hi ho;exact .inr ⟨i,blk,by rw[V4];simpa using hi,ho⟩
   .intro i t x ts u y us h1 h2;rw[h1] at h2;cases h2;rfl
   .exact⟨[],rfl,rfl⟩
  .have h0:w.cell? ⟨b,0,none⟩=some (.pointer (some ⟨b,0,none⟩)):=hra 0 _ rfl;refine(Any.Builder_copyCheck_used Tryz.lays240 Tryz.builderX72 b w h0).mono ?_;rintro en w' ⟨rfl,rfl⟩;refine⟨_,g,rfl,⟨fun b o h=>⟨h,rfl⟩,hH,⟨[],rfl,rfl⟩,Fr.refl _ _ _,?_,fun _ _ _ _ _=>rfl,?_,fun _ _ _ h=>h,fun _ _ _ _ h=>h⟩⟩
   .intro i blk b o hi ho;exact .inr ⟨i,blk,by rw[V4];simpa using hi,ho⟩
   .intro i t x ts u y us h1 h2;rw[h1] at h2;cases h2;rfl
 .cases hC
theorem aB3 {P:Program}(w:pQ): ∀(l:pL) (a:Addr) (acc:ByteArray),(∀j x,l[j]? =some x->w.cell? (a.add j)=some (.int .u8 x))->
  (loadBytes a acc l.length).run P w= .ok ⟨acc.data++(vG l).toArray⟩ w
 |[],a,acc,_=>by simp [loadBytes,vG]
 |x::l,a,acc,h=>by
  have h0:w.cell? a=some (.int .u8 x):=by
   have:=h 0 x rfl;simpa[Addr.add] using this
  have ih:=aB3 (P:=P) w l (a.add 1) (acc.push (UInt8.ofNat x.toNat)) (fun j y hy=>by
   have:=h (j+1) y (by simpa using hy);have e:(a.add 1).add j=a.add (j+1):=by
    unfold Addr.add;by_cases hj:j=0
    .subst hj;simp
    .simp [hj];omega
   rw[e];exact this)
  have hx:x.toNat.toUInt8=UInt8.ofNat x.toNat:=rfl;simp only[aRj,loadBytes,aRy,run_load,h0,Result.andThen,hx];rw[ih];congr 1;apply ByteArray.ext;simp [ByteArray.push,vG]
theorem aKE {P:Program}(w:pQ) (pt it ty e:TypeId) (hp:P.underlying pt=some (.pointer e)) (hc:P.cellsOf e=1) (g cells:Nat) (hsh:w.shape? g=some (e,cells)) (l:pL) (h0:l≠[]) (hn:l.length<=cells) (h63:l.length<=9223372036854775807)
  (hcell: ∀j x,l[j]? =some x->w.cell? ((⟨g,0,none⟩:Addr).add j)=some (.int .u8 x)):
  (Builtin.unsafeString_ #[pt,it] ty #[.pointer (some ⟨g,0,none⟩),.int .i64 l.length]).run P w= .ok (.string ⟨(vG l).toArray⟩) (w.freeze ⟨g,0,none⟩ l.length):=by
 have hl:l.length≠0:=by simpa using h0
 have hlb:=aB3 (P:=P) w l ⟨g,0,none⟩ .empty hcell;have hlies:=Lib.liesAt_bytes (P:=P) hc (cells/P.cellsOf e) l.length (by rw[hc];simpa using hn);have h63': ¬(9223372036854775807:Int)<(l.length:Int):=by omega
 have hdef:Builtin.unsafeString_ #[pt,it] ty #[.pointer (some ⟨g,0,none⟩),.int .i64 l.length]=
   (do
    let n<-asInt (.int .i64 l.length)
    if n<0 then runtimePanic (.error "unsafe.String: len out of range")
    if n>IntKind.i64.max then unsupported (.unsafePointer "String: a length above the largest int")
    if n=0 then pure (.string .empty)
    else if<-variablesAt ⟨g,0,none⟩ (<-elemOf pt) n.toNat then do
     let s<-loadBytes ⟨g,0,none⟩ .empty n.toNat
     freeze ⟨g,0,none⟩ n.toNat
     pure (.string s)
    else unsupported (.unsafePointer "String: not so many bytes at ptr")):=rfl
 rw[hdef];have hmax:IntKind.i64.max=9223372036854775807:=rfl;have hneg: ¬(l.length:Int)<0:=by omega
 simp [asInt,asIntOf,hmax,h63',hneg,hl,variablesAt,hsh,elemOf,aRB hp,hlies,hlb]
theorem a1p {P:Program}{ρ:Go.Shelf.Ren}(L:Lays.n169 P ρ) (X:Builder.Extra P ρ) (b n cap:Nat) (a q:Option Addr) (s:ByteArray) (w w2:pQ)
  (c1:w.drew.cell? ⟨b,1,none⟩=some (.slice a n cap)) (hSD:(Builtin.unsafeSliceData_ #[(ρ.t 37)] (ρ.t 127) #[.slice a n cap]).run P w.drew= .ok (.pointer q) w.drew)
  (hUS:(Builtin.unsafeString_ #[(ρ.t 127),(ρ.t 3)] (ρ.t 9) #[.pointer q,.int .i64 n]).run P w.drew= .ok (.string s) w2):
  Calls P (ρ.f 169) #[.pointer (some ⟨b,0,none⟩)] w fun e w'=>e= .returned (.string s)/\w'=w2:=by
 have mixed:=L.mixed;have t72:=L.t72;have a72:=L.a72;have z72:=L.z72;have v72:=L.v72;have u72:=aRB L.t72;have t70:=L.t70;have a70:=L.a70;have z70:=L.z70;have v70:=L.v70;have u70:=aRB L.t70;have t37:=L.t37;have a37:=L.a37;have z37:=L.z37;have v37:=L.v37;have u37:=aRB L.t37;have t127:=L.t127;have a127:=L.a127;have z127:=L.z127;have v127:=L.v127;have u127:=aRB L.t127;have t3:=L.t3;have a3:=L.a3;have z3:=L.z3;have v3:=L.v3;have u3:=aRB L.t3;have t9:=L.t9;have a9:=L.a9;have z9:=L.z9;have v9:=L.v9;have u9:=aRB L.t9;have t5:=X.t5;have a5:=X.a5;have z5:=X.z5;have v5:=X.v5;have u5:=aRB X.t5
 go_enter L.f169,Body.n169_ntmps ρ
 go_wp2
 go_region_o
 all_goals (go_wp2;go_ret;exact⟨rfl,rfl⟩)
theorem aKF {P:Program}{ρ:Go.Shelf.Ren}(L:Lays.n169 P ρ) (X:Builder.Extra P ρ) (b g:Nat) (cur:Array pR) (w:pQ) (hlt:b<w.heap.size)
  (c1:w.drew.cell? ⟨b,1,none⟩=some (.slice (some ⟨g,0,none⟩) 0 0)) (hg:w.drew.heap[g]? =some (.cells cur (ρ.t 5) (0,0))):
  Calls P (ρ.f 169) #[.pointer (some ⟨b,0,none⟩)] w fun e w'=>e= .returned (.string ⟨#[]⟩)/\w'=w.drew.alloc (.view ⟨g,0,none⟩ (ρ.t 5)):=by
 have hUS:=Any.unsafeString_none L X;have hSD:(Builtin.unsafeSliceData_ #[(ρ.t 37)] (ρ.t 127) #[.slice (some ⟨g,0,none⟩) 0 0]).run P w.drew= .ok (.pointer (some ⟨w.drew.heap.size,0,none⟩)) (w.drew.alloc (.view ⟨g,0,none⟩ (ρ.t 5))):=
  Lib.run_unsafeSliceData_zero w.drew _ _ (ρ.t 5) L.t127 ⟨g,0,none⟩ 0 ((ρ.t 5),cur.size) (by simp [World.shape?,hg])
 have c2:(w.drew.alloc (.view ⟨g,0,none⟩ (ρ.t 5))).cell? ⟨b,1,none⟩=some (.slice (some ⟨g,0,none⟩) 0 0):=
  (aRH (a:=⟨b,1,none⟩) (Lib.alloc_old w.drew _ b hlt)).trans c1
 have c3:(w.alloc (.view ⟨g,0,none⟩ (ρ.t 5))).drew.cell? ⟨b,1,none⟩=some (.slice (some ⟨g,0,none⟩) 0 0):=c2;have c0:w.cell? ⟨b,1,none⟩=some (.slice (some ⟨g,0,none⟩) 0 0):=c1;have mixed:=L.mixed;have t72:=L.t72;have a72:=L.a72;have z72:=L.z72;have v72:=L.v72;have u72:=aRB L.t72;have t70:=L.t70;have a70:=L.a70;have z70:=L.z70;have v70:=L.v70;have u70:=aRB L.t70;have t37:=L.t37;have a37:=L.a37;have z37:=L.z37;have v37:=L.v37;have u37:=aRB L.t37;have t127:=L.t127;have a127:=L.a127;have z127:=L.z127;have v127:=L.v127;have u127:=aRB L.t127;have t3:=L.t3;have a3:=L.a3;have z3:=L.z3;have v3:=L.v3;have u3:=aRB L.t3;have t9:=L.t9;have a9:=L.a9;have z9:=L.z9;have v9:=L.v9;have u9:=aRB L.t9;have t5:=X.t5;have a5:=X.a5;have z5:=X.z5;have v5:=X.v5;have u5:=aRB X.t5
 go_enter L.f169,Body.n169_ntmps ρ
 go_wp2
 go_region_o
 all_goals (go_wp2;go_ret;exact⟨rfl,rfl⟩)
@[go_sem] def QM:List qB->List q9->Option qH
 |[(.val .ref (some (0,0)),none)],[.cells (.pair .mref (.pair (.list (.int .u8)) .unit)) ((some (0,0)),O) [(1,1)],.grow 5 1 Z]=>some ⟨[Z=List.length O.1],[(.val .str (vG O.1),none)],[.cells (.pair .mref (.pair (.list (.int .u8)) .unit)) ((some (0,0)),O) [],.dead]⟩
 |_,_=>none
theorem a1q {g:Gh}{w w':pQ}{m:pN}{b:(Ty.pair (.list (.int .u8)) .unit).den}{e n:Nat}{s:pC}{sd:List Prop}(hH:sE g w (qM 0 [q9.cells (.pair .mref (.pair (.list (.int .u8)) .unit)) (m,b) [(1,1)],.grow e 1 n]))
  (hos:w'.os=w.os) (htape:w'.tape=w.tape) (hout:w'.output=w.output) (hsz:w.heap.size<=w'.heap.size)
  (hcell: ∀b o,b<w.heap.size->w'.cell? ⟨b,o,none⟩=w.cell? ⟨b,o,none⟩) (hshape: ∀b s,w.shape? b=some s->w'.shape? b=some s)
  (hblk: ∀b,b<w.heap.size->(∀o,¬sA g 1 (.grow e 1 n) b o)->w'.heap[b]? =w.heap[b]?):
  E4 g w [q9.cells (.pair .mref (.pair (.list (.int .u8)) .unit)) (m,b) [(1,1)],.grow e 1 n] ⟨sd,[(.val .str s,none)],[.cells (.pair .mref (.pair (.list (.int .u8)) .unit)) (m,b) [],.dead]⟩ g w' (.string ⟨s.toArray⟩):=by
 have hg0:qD (qM 0 [q9.cells (.pair .mref (.pair (.list (.int .u8)) .unit)) (m,b) [(1,1)],.grow e 1 n]) 0=some (.cells (.pair .mref (.pair (.list (.int .u8)) .unit)) (m,b) [(1,1)]):=rfl;have hg1:qD (qM 0 [q9.cells (.pair .mref (.pair (.list (.int .u8)) .unit)) (m,b) [(1,1)],.grow e 1 n]) 1=some (.grow e 1 n):=rfl;have hle:Le g w g w':=⟨fun _ _ h=>h,fun b o h=>hcell b o (hH.sl b o h),fun _ _ h=>h,fun _ _ _ h=>h⟩;have hno: ∀c o,sA g 0 (.cells (.pair .mref (.pair (.list (.int .u8)) .unit)) (m,b) [(1,1)]) c o->∀o',¬sA g 1 (.grow e 1 n) c o':=fun c o h o' h'=>by
  obtain⟨v,hv,hb⟩:=h';exact hH.dis 0 1 _ _ c o pG hg0 hg1 h ⟨v,hv,hb⟩
 obtain⟨p,cs,hJ,hR,hra,hth,hns,htk⟩:=hH.blk 0 _ hg0;have hown0: ∀j,j<2->sA g 0 (.cells (.pair .mref (.pair (.list (.int .u8)) .unit)) (m,b) [(1,1)]) p.1 (p.2+j):=fun j hj=>⟨p,hJ,rfl,Nat.le_add_right _ _,Nat.add_lt_add_left hj _⟩;have hpl:p.1<w.heap.size:=KC (hH.blk 0 _ hg0) (hown0 0 pG);have hpb:w'.heap[p.1]? =w.heap[p.1]? :=hblk p.1 hpl (hno p.1 _ (hown0 0 pG));have hbk0:A8 g w' 0 (.cells (.pair .mref (.pair (.list (.int .u8)) .unit)) (m,b) []):=
  ⟨p,cs,hJ,xR hle hR,fun j v hj=>(hcell _ _ hpl).trans (hra j v hj),⟨fun j hj=>by
   have h1:=hth.1 j hj;rw[hcell _ _ hpl];exact⟨h1.1,(aSb (a:=⟨p.1,p.2+j,none⟩) hpb).trans h1.2⟩,fun h s hs=>hshape _ _ (hth.2 h s hs)⟩,hns,fun _ _ h=>by cases h⟩
 refine⟨fun b o h=>⟨h,hcell b o (hH.sl b o h)⟩,?_,(show rH g w' (.val .str s,none) (.string ⟨s.toArray⟩) from⟨BD _ _ _,trivial⟩),⟨hos,htape,hout,hsz,?_,?_,fun _ _ h=> .inl h,fun b s h=> .inl (hshape b s h)⟩,?_,fun _ _ _ _ _=>rfl,?_,fun _ _ _ h=>h,fun _ _ _ _ h=>h⟩
 .refine⟨fun i blk h=> ?_,fun i j bi bj c o hij hi hj hoi hoj=> ?_,fun b o h=>aRT (hH.sl b o h) hsz,JS hH.tab.1 hsz (fun c hc=>hblk c (aRT hc hH.tab.1.1) fun o ho=>absurd (hH.tab.2 1 _ c o hg1 ho) pF),fun i blk c o h ho=> ?_⟩
  .match i,h with
   |0,h=>cases h;exact hbk0
   |1,h=>cases h;trivial
   |i+2,h=>simp [qM,qD] at h
  .match i,j,hi,hj with
   |0,0,_,_=>exact hij rfl
   |0,1,_,hj=>cases hj;exact hoj
   |1,_,hi,_=>cases hi;exact hoi
   |0,j+2,_,hj=>simp [qM,qD] at hj
   |i+2,_,hi,_=>simp [qM,qD] at hi
  .match i,h with
   |0,h=>cases h;exact hH.tab.2 0 _ c o hg0 ho
   |1,h=>cases h;exact ho.elim
   |i+2,h=>simp [qM,qD] at h
 .intro c hc hn;exact hblk c hc fun o ho=>hn o ⟨1,_,hg1,ho⟩
 .intro c o hc hn;exact⟨hcell c o hc,aSb (a:=⟨c,o,none⟩) (hblk c hc fun o' ho=>hn ⟨1,_,hg1,by obtain⟨v,hv,hb⟩:=ho;exact⟨v,hv,hb⟩⟩)⟩
 .intro i blk c o hi ho
  match i,hi with
  |0,hi=>cases hi;exact .inr ⟨0,_,hg0,ho⟩
  |1,hi=>cases hi;exact ho.elim
  |i+2,hi=>simp at hi
 .intro i t x ts u y us h1 h2
  match i,h1,h2 with
  |0,h1,h2=>cases h1;cases h2;rfl
  |1,h1,_=>cases h1
  |i+2,h1,_=>simp at h1
theorem aKG (w:pQ) (a p:Addr) (n:Nat):(w.freeze a n).cell? p=w.cell? p:=by
 unfold World.freeze;split
 .rfl
 .simp only[World.cell?,aSs];by_cases h:a.block=p.block
  .rw[aRf h];cases w.heap[p.block]? with
   |none=>rfl
   |some o=>cases o<;>rfl
  .rw[aRk h]
theorem aKH (w:pQ) (a:Addr) (n b:Nat):(w.freeze a n).shape? b=w.shape? b:=by
 unfold World.freeze;split
 .rfl
 .simp only[World.shape?,aSs];by_cases h:a.block=b
  .rw[aRf h];cases w.heap[b]? with
   |none=>rfl
   |some o=>cases o<;>rfl
  .rw[aRk h]
theorem aKI (w:pQ) (a:Addr) (n b:Nat) (h:b≠a.block):(w.freeze a n).heap[b]? =w.heap[b]? :=by
 unfold World.freeze;split
 .rfl
 .simp only[aSs];rw[aRk (Ne.symm h)]
theorem aKJ (w:pQ) (a:Addr) (n:Nat):(w.freeze a n).os=w.os/\(w.freeze a n).tape=w.tape/\(w.freeze a n).output=w.output/\(w.freeze a n).heap.size=w.heap.size:=by
 unfold World.freeze;split
 .exact⟨rfl,rfl,rfl,rfl⟩
 .exact⟨rfl,rfl,rfl,by simp⟩
theorem aB4 {g:Gh}{w:pQ}{b:Nat}: ∀{l:pL}{o:Nat},yV (Rd g w (.int .u8)) w g.S 1 b o l->∀j x,l[j]? =some x->w.cell? ⟨b,o+j,none⟩=some (.int .u8 x)
 |[],_,_,_,_,h=>by cases h
 |y::l,o,⟨⟨cs,_,hra,_,hR⟩,hl⟩,j,x,h=>by
  match j,h with
  |0,h=>
   cases h;have hR:cs=[.int .u8 y]:=hR;subst hR;exact hra 0 _ rfl
  |j+1,h=>
   have:=aB4 hl j x (by simpa using h);rw[show o+(j+1)=o+1+j by omega];exact this
theorem aKK {u:Ty}{m:pN}{bv:(Ty.pair (.list (.int .u8)) .unit).den}{l:List u.den}(hget:r9 (.list u) (.pair .mref (.pair (.list (.int .u8)) .unit)) (m,bv) 1=some l):l.length=bv.1.length:=by
 have h2:r9 (.list u) (.list (.int .u8)) bv.1 0=some l:=hget;simp only[r9] at h2;split at h2
 .rename_i h;injection h with h
  subst h;cases h2;rfl
 .cases h2
theorem a1r:xI Tryz.prog 31 QM:=by
 refine⟨fun _ _=>rfl,fun g w args vals L r hH ha hC hs=> ?_⟩;unfold QM at hC;split at hC
 .rename_i bv n;cases hC;obtain rfl:n=List.length bv.1:=hs _ pH;obtain⟨va,_,rfl,ra,hv⟩:=ha;cases hv;have hg0:qD (qM 0 [q9.cells (.pair .mref (.pair (.list (.int .u8)) .unit)) ((some (0,0)),bv) [(1,1)],.grow 5 1 (List.length bv.1)]) 0=some (.cells (.pair .mref (.pair (.list (.int .u8)) .unit)) ((some (0,0)),bv) [(1,1)]):=rfl;have hg1:qD (qM 0 [q9.cells (.pair .mref (.pair (.list (.int .u8)) .unit)) ((some (0,0)),bv) [(1,1)],.grow 5 1 (List.length bv.1)]) 1=some (.grow 5 1 (List.length bv.1)):=rfl;obtain⟨p,cs,hJ,hR,hra,hth,hns,htk⟩:=hH.blk 0 _ hg0;obtain⟨v',xs,hv',hown,hmax,hsl⟩:=hH.blk 1 _ hg1;obtain⟨c1,c2,rfl,hR1,hR2⟩:=hR;obtain⟨d1,d2,rfl,⟨a,cap,rfl,hcap,hl⟩,hd2⟩:=hR2;obtain⟨p',hJ',⟨hp0,_,_,_⟩,hc1⟩:=hR1;rw[hJ] at hJ';obtain rfl:=aRi hJ';obtain⟨b,o,k⟩:=p;have ho:o=0:=by simpa using hp0
  subst ho;have hlen1:c1.length=1:=by rcases hc1 with rfl|rfl<;>rfl
  obtain⟨q,hq,hva⟩:=zQ ra.1;rw[hJ] at hq;cases hq;subst hva;have hcell1:w.cell? ⟨b,1,none⟩=some (.slice a bv.1.length cap):=hra 1 _ (by rw[aRt pF,hlen1];rfl);obtain⟨u,l,v,hget,hcv,hcur⟩:=htk 1 1 pH;have hvv:v= .slice a bv.1.length cap:=by
   rw[aRt pF,hlen1] at hcv;exact(aRi hcv).symm
  have hll:l.length=bv.1.length:=aKK hget;rw[hll,hv',hvv] at hcur;obtain rfl:=aRi hcur;have hbl:b<w.heap.size:=UW hcell1;have hdr: ∀(s:pC) (sd:List Prop),E4 g w _ ⟨sd,[(.val .str s,none)],[.cells (.pair .mref (.pair (.list (.int .u8)) .unit)) ((some (0,0)),bv) [],.dead]⟩ g w.drew (.string ⟨s.toArray⟩):=fun s sd=>
   a1q hH rfl rfl rfl (aRE _) (fun _ _ _=>rfl) (fun _ _ h=>h) (fun _ _ _=>rfl)
  obtain⟨hx,⟨hnil,h0⟩ |⟨gb,cap',cur,hsl',hb0,hbk,hnc,hcm,hcs,htake⟩⟩:=hown
  .have hb0:bv.1=[]:=aSM.1 h0;have hz:vG bv.1=[]:=by rw[hb0];rfl
   have hl0:List.length bv.1=0:=h0;injection hnil with e1 e2 e3
   subst e1;subst e3;refine(a1p Tryz.lays169 Tryz.builderExtra b bv.1.length 0 none none .empty w w.drew hcell1 rfl (by rw[hl0];exact Any.unsafeString_none Tryz.lays169 Tryz.builderExtra w.drew none)).mono ?_;rintro e w' ⟨rfl,rfl⟩;exact⟨_,g,rfl,by rw[hz];exact hdr [] _⟩
  .injection hsl' with e1 e2 e3
   subst e1;subst e3;have hsz:bv.1.length<=cur.size:=by omega
   by_cases hb0:bv.1=[]
   .have hz:vG bv.1=[]:=by rw[hb0];rfl
    have hl0:List.length bv.1=0:=by rw[hb0];rfl
    by_cases hc0:cap=0
    .subst hc0;rw[hl0] at hcell1;refine(aKF Tryz.lays169 Tryz.builderExtra b gb cur w hbl hcell1 hbk).mono ?_;rintro e w' ⟨rfl,rfl⟩;have hold: ∀c,c<w.heap.size->(w.drew.alloc (.view ⟨gb,0,none⟩ 5)).heap[c]? =w.heap[c]? :=fun c hc=>Lib.alloc_old w.drew _ c hc;refine⟨_,g,rfl,?_⟩;rw[hz];exact a1q hH rfl rfl rfl pH (fun c o hc=>aRH (a:=⟨c,o,none⟩) (hold c hc)) (fun c s h=>(CE (hold c (CD h))).trans h) (fun c hc _=>hold c hc)
    .refine(a1p Tryz.lays169 Tryz.builderExtra b bv.1.length cap (some ⟨gb,0,none⟩) (some ⟨gb,0,none⟩) .empty w w.drew hcell1 (Lib.run_unsafeSliceData_row _ _ _ _ _ _ hc0) (by rw[hl0];exact Any.unsafeString_none Tryz.lays169 Tryz.builderExtra w.drew _)).mono ?_;rintro e w' ⟨rfl,rfl⟩;exact⟨_,g,rfl,by rw[hz];exact hdr [] _⟩
   .have hcap0:cap≠0:=fun h=>hb0 (aSM.1 pF);have hcb: ∀j x,bv.1[j]? =some x->w.cell? ⟨gb,j,none⟩=some (.int .u8 x):=by
     rcases hl with hl|⟨b',o',ha',hl⟩
     .exact absurd hl hb0
     .cases ha';intro j x hj;have:=aB4 hl j x hj;rwa [aRP] at this
    have hbk':w.drew.heap[gb]? =some (.cells cur 5 (0,0)):=hbk;have hshp:w.drew.shape? gb=some (5,cur.size):=by simp only[World.shape?,hbk']
    refine(a1p Tryz.lays169 Tryz.builderExtra b bv.1.length cap (some ⟨gb,0,none⟩) (some ⟨gb,0,none⟩) ⟨(vG bv.1).toArray⟩ w (w.drew.freeze ⟨gb,0,none⟩ bv.1.length) hcell1 (Lib.run_unsafeSliceData_row _ _ _ _ _ _ hcap0)
     (aKE w.drew _ _ _ 5 (Tryz.lays169).t127 (Tryz.builderExtra).cellsByte gb cur.size hshp bv.1 hb0 hsz (by unfold maxLen at hcm;omega) (fun j x h=>by rw[aSC,aRP];exact hcb j x h))).mono ?_
    rintro e w' ⟨rfl,rfl⟩;refine⟨_,g,rfl,?_⟩;have hblk: ∀c,(∀o,¬sA g 1 (.grow 5 1 (List.length bv.1)) c o)->(w.drew.freeze ⟨gb,0,none⟩ bv.1.length).heap[c]? =w.heap[c]? :=fun c hc=>aKI w.drew _ _ c fun e=>hc 0 ⟨_,hv',by rw[e];rfl⟩;have hr:=aKJ w.drew ⟨gb,0,none⟩ bv.1.length;refine a1q hH hr.1 hr.2.1 hr.2.2.1 (aSP hr.2.2.2.symm) (fun c o _=>aKG w.drew _ _ _) (fun c s h=>(aKH w.drew _ _ c).trans h) (fun c _ hc=>hblk c hc)
 .cases hC
theorem aB5:tQ Tryz.prog 111 ⟨(.pair .str (.pair .str .unit)),0,0,false,[]⟩:=⟨pT,(show ((_/\∃_,_/\_)\/_)/\_ from⟨.inl ⟨rfl,_,Tryz.underlying111,(show _/\_/\_/\_ from⟨rfl,pT,pT,(show _/\_/\_/\_ from⟨rfl,pT,pT,trivial⟩)⟩)⟩,(fun h=>absurd h pG)⟩)⟩
theorem W9 {P:Program}(w:pQ) (dT sT ty elem:TypeId) (sz g o dLen dCap:Nat) (a:Addr) (sLen sCap:Nat) (cur:Array pR) (t:TypeId) (cs:pM)
  (hu:P.underlying dT=some (.slice elem)) (hs:(P.info? elem).map (·.size)=some sz)
  (hg:w.heap[g]? =some (.cells cur t (0,0))) (hn:cs.length=Nat.min sLen dLen*sz)
  (hsrc: ∀j v,cs[j]? =some v->w.cell? (a.add j)=some v) (hfit:o+cs.length<=cur.size) (h1: ∀v∈cs,v.oneCell'=true):
  (Builtin.copy_ #[dT,sT] ty #[.slice (some ⟨g,o,none⟩) dLen dCap,.slice (some a) sLen sCap]).run P w=
   .ok (goInt (Nat.min sLen dLen:Nat)) (w.setRow g (cur.toList.take o++cs++cur.toList.drop (o+cs.length)).toArray):=by
 have hl:=run_loadCells_list (P:=P) w a cs hsrc;have hst:=run_storeCells_at P g o t cs 0 cur w hg (by simpa using hfit) h1;cases hq:P.info? elem with
 |none=>simp [hq] at hs
 |some i=>
  have hi:i.size=sz:=by simpa[hq] using hs
  simp [Builtin.copy_,aRB hu,Builtin.lenOf,Builtin.firstCells,sizeOf,typeInfo,hq,hi,<-hn,hl,hst]
theorem aKL {P:Program}(w:pQ) (tS tR e:TypeId) (ht:P.underlying tS=some (.slice e)) (size:Nat) (hz: ∀w,(Go.sizeOf e).run P w= .ok size w)
  (a b:Addr) (la ca lb cb:Nat) (hne:a.block≠b.block) (tA tB:TypeId) (kA kB:Nat)
  (hsa:w.shape? a.block=some (tA,kA)) (hkA:kA≠0) (hsb:w.shape? b.block=some (tB,kB)) (hfb: ∀o,w.frozen? ⟨b.block,o,none⟩=false) (hsp:b.spot=none):
  (Extern.SlicesOverlaps.overlaps #[tS,tS] #[tR] #[.slice (some a) la ca,.slice (some b) lb cb]).run P w= .ok (.bool false) w:=by
 have hnb:(a.block != b.block)=true:=by simpa using hne
 have hnb':(a.block==b.block)=false:=by simpa using hne
 have hfb1:w.frozen? b=false:=by
  obtain⟨bb,bo,bs⟩:=b;cases hsp;exact hfb bo
 have hfb2:=hfb kB;change Sem.run P (α:=pR) (do
  let some t:=(#[tS,tS]:Array TypeId)[0]? |stuck "slices.overlaps: no parameter types"
  let .slice elem<-underlying t|stuck "slices.overlaps: slice type expected"
  let size<-sizeOf elem
  match (some a:Option Addr),(some b:Option Addr) with
  |some a,some b=>
   if la=0\/lb=0\/size=0 then pure (Value.bool false)
   else if a.block != b.block&&(<-frozen a)&&(<-frozen b) then unsupported .addressObserved
   else do
    if a.block != b.block then do
     noView a;noView b
     if<-mayBeOne a b then return Value.bool ((<-choose (.extern "sameAddr.stringBytes" 2))==1)
    pure (Value.bool (a.block==b.block&&a.off<b.off+lb*size&&b.off<a.off+la*size))
  |_,_=>pure (Value.bool false)) w=_
 by_cases h0:la=0\/lb=0\/size=0
 .simp [aRB ht,hz,h0]
 .cases kA with
  |zero=>exact absurd rfl hkA
  |succ kA=>
   cases hfa:w.frozen? a<;>cases hfe:w.frozen? {block:=a.block,off:=kA+1}<;>
   simp [aRB ht,hz,h0,hnb,hnb',frozen,noView,viewAt,mayBeOne,stringish,shape,Sem.run,hsa,hsb,hfb1,hfb2,hfa,hfe]
theorem aKM {α:Type}{l:List α}{i n:Nat}(hin:i<=n):(l.drop (i*2)).take ((n-i)*2)=(l.take (n*2)).drop (i*2):=by
 rw[List.drop_take,show n*2-i*2=(n-i)*2 by omega]
theorem aB6 {α:Type}{l:List α}{i n:Nat}{v:α}(h:v∈(l.drop (i*2)).take ((n-i)*2)):v∈l.take (n*2):=by
 rw[show (n-i)*2=n*2-i*2 by omega,<-List.drop_take] at h;exact List.mem_of_mem_drop h
theorem aKN {cur c1 c2:Array pR}{mid vs:pM}{i n m:Nat}(hc1:c1=(cur.toList.take ((i+m)*2)++mid++cur.toList.drop ((i+m)*2+mid.length)).toArray) (hc2:c2=(c1.toList.take (i*2)++vs++c1.toList.drop (i*2+vs.length)).toArray)
  (hml:mid.length=(n-i)*2) (hvl:vs.length=m*2) (hcur:(n+m)*2<=cur.toList.length) (hin:i<=n):c2.toList.take ((n+m)*2)=cur.toList.take (i*2)++vs++mid:=by
 have e1:c1.toList=cur.toList.take ((i+m)*2)++(mid++cur.toList.drop ((i+m)*2+mid.length)):=by rw[hc1,aRl]
 have l1:(cur.toList.take ((i+m)*2)).length=(i+m)*2:=by rw[aRD];omega
 have e2:c1.toList.take (i*2)=cur.toList.take (i*2):=by
  rw[e1,aSa pF,List.take_take,Nat.min_eq_left pF]
 have e3:c1.toList.drop (i*2+vs.length)=mid++cur.toList.drop ((i+m)*2+mid.length):=by
  rw[e1,hvl,show i*2+m*2=(cur.toList.take ((i+m)*2)).length by omega,aSD]
 have l2:(cur.toList.take (i*2)).length=i*2:=by rw[aRD];omega
 have e4:c2.toList=(cur.toList.take (i*2)++vs++mid)++cur.toList.drop ((i+m)*2+mid.length):=by rw[hc2,e2,e3];simp only[aRl]
 rw[e4,show (n+m)*2=(cur.toList.take (i*2)++vs++mid).length by simp only[aRg];omega,aSd]
theorem aKO (b n c i vb voff m vc:Nat) (cur:Array pR) (vs:pM) (w:pQ) (hi:i<n) (hm:0<m) (hroom:n+m<=c) (hc63:c<=maxLen) (hvb:vb≠b)
  (hg:w.heap[b]? =some (.cells cur 111 (0,0))) (hcs:cur.size=c*2) (hvl:vs.length=m*2)
  (hvs: ∀j v,vs[j]? =some v->w.cell? ⟨vb,voff+j,none⟩=some v) (h1: ∀v∈cur.toList.take (n*2),v.oneCell'=true) (h1v: ∀v∈vs,v.oneCell'=true):
  Calls Tryz.prog 159 #[.slice (some ⟨b,0,none⟩) n c,.int .i64 i,.slice (some ⟨vb,voff,none⟩) m vc] w fun e w'=>
   e= .returned (.slice (some ⟨b,0,none⟩) (n+m) c)/\∃cur':Array pR,w'=w.drew.setRow b cur'/\cur'.size=cur.size/\cur'.toList.take ((n+m)*2)=cur.toList.take (i*2)++vs++(cur.toList.drop (i*2)).take ((n-i)*2):=by
 have u24:=aRB Tryz.underlying33;have hz1: ¬((m:Int)=0):=by omega
 have hz2: ¬((i:Int)=(n:Int)):=by omega
 have hw1:IntKind.i64.wrap ((i:Int)+(m:Int))=(i:Int)+(m:Int):=by rw[aS9];unfold maxLen at hc63;omega
 have hw2:IntKind.i64.wrap ((n:Int)+(m:Int))=(n:Int)+(m:Int):=by rw[aS9];unfold maxLen at hc63;omega
 have hb1:(0:Int)<=(i:Int)+(m:Int):=by omega
 have hin:i<=n:=by omega
 have htn:((i:Int)+(m:Int)).toNat=i+m:=by omega
 have hb2: ¬(c=i+m):=by omega
 have hb3:(i:Int)<=(n:Int)+(m:Int):=by omega
 have hb4: ¬(c=i):=by omega
 have z144: ∀w,(Go.sizeOf 111).run Tryz.prog w= .ok 2 w:=fun w=>by
  simp only[sizeOf,typeInfo,aRy,aSk,aRp];rfl
 have hsz:(Tryz.prog.info? 111).map (·.size)=some 2:=by kernel_rfl
 have hvs0:w.cell? ⟨vb,voff,none⟩=some (vs[0]'pF):=hvs 0 _ (aRr pF);obtain⟨⟨tA,kA⟩,hsa,hkA⟩: ∃q:TypeId×Nat,w.shape? vb=some q/\q.2≠0:=by
  have h0:=hvs0;simp only[World.cell?] at h0;simp only[World.shape?];cases hh:w.heap[vb]? with
  |none=>rw[hh] at h0;simp at h0
  |some o=>
   rw[hh] at h0;cases o with
   |cells cs e fr=>
    refine⟨(e,cs.size),rfl,fun hz=> ?_⟩;have hz:cs.size=0:=hz;have:cs= #[]:=Array.eq_empty_of_size_eq_zero hz;subst this;simp at h0
   |_=>simp at h0
 have hov: ∀lb cb,(callFunc 192 #[.slice (some ⟨vb,voff,none⟩) m vc,.slice (some ⟨b,(i+m)*2,none⟩) lb cb]).run Tryz.prog w= .ok (.value (.bool false)) w:=fun lb cb=>by
  rw[run_callFunc_extern Tryz.func192 pT pT pT (e:=Extern.SlicesOverlaps.overlaps #[33,33] #[4]) pT,
   aKL w 33 4 111 Tryz.underlying33 2 z144 ⟨vb,voff,none⟩ ⟨b,(i+m)*2,none⟩ m vc lb cb hvb tA 111 kA cur.size hsa hkA (by simp [World.shape?,hg]) (fun o=>Lib.frozen_of_heap hg _) rfl]
  rfl
 have mixed:Tryz.prog.follows .mixedOrders=true:=by kernel_rfl
 obtain⟨mid,hmid⟩: ∃mid,mid=(cur.toList.drop (i*2)).take ((n-i)*2):=⟨_,rfl⟩;have hml:mid.length=(n-i)*2:=by rw[hmid,aRD,aRA,aRQ];omega
 have hmin1:Nat.min (n+m-i) (n+m- (i+m))=n-i:=by simp only[Nat.min_def];split<;>omega
 have hmin2:Nat.min m (n+m-i)=m:=by simp only[Nat.min_def];split<;>omega
 obtain⟨c1,hc1⟩: ∃c1:Array pR,c1=(cur.toList.take ((i+m)*2)++mid++cur.toList.drop ((i+m)*2+mid.length)).toArray:=⟨_,rfl⟩;have hc1l:c1.size=cur.size:=by rw[hc1];simp only[aR7,aRg,aRD,aRA,aRQ,hml];omega
 obtain⟨c2,hc2⟩: ∃c2:Array pR,c2=(c1.toList.take (i*2)++vs++c1.toList.drop (i*2+vs.length)).toArray:=⟨_,rfl⟩;have hc2l:c2.size=cur.size:=by rw[hc2];simp only[aR7,aRg,aRD,aRA,aRQ,hc1l,hvl];omega
 have hcp1: ∀ty dc sc,(Builtin.copy_ #[33,33] ty #[.slice (some ⟨b,(i+m)*2,none⟩) (n+m- (i+m)) dc,.slice (some ⟨b,i*2,none⟩) (n+m-i) sc]).run Tryz.prog w.drew= .ok (goInt (n-i:Nat)) (w.drew.setRow b c1):=fun ty dc sc=>by
  have h:=W9 (P:=Tryz.prog) w.drew 33 33 ty 111 2 b ((i+m)*2) (n+m- (i+m)) dc ⟨b,i*2,none⟩ (n+m-i) sc cur 111 mid Tryz.underlying33 hsz hg (by rw[hml,hmin1]) (fun j v hj=>by
    rw[aS5];rw[hmid,aSv] at hj;split at hj
    .rw[List.getElem?_drop,aSn] at hj;show (w.cell? ⟨b,i*2+j,none⟩)=_;rw[Lib.cell_of_heap hg];exact hj
    .cases hj) (by rw[hml];omega) (fun v hv=>h1 v (aB6 (hmid▸hv)))
  rw[h,hmin1,hc1]
 have hg1:(w.drew.setRow b c1).heap[b]? =some (.cells c1 111 (0,0)):=aTa w.drew b cur c1 _ _ hg;have hcp2: ∀ty dc,(Builtin.copy_ #[33,33] ty #[.slice (some ⟨b,i*2,none⟩) (n+m-i) dc,.slice (some ⟨vb,voff,none⟩) m vc]).run Tryz.prog (w.drew.setRow b c1)= .ok (goInt (m:Nat)) ((w.drew.setRow b c1).setRow b c2):=fun ty dc=>by
  have h:=W9 (P:=Tryz.prog) (w.drew.setRow b c1) 33 33 ty 111 2 b (i*2) (n+m-i) dc ⟨vb,voff,none⟩ m vc c1 111 vs Tryz.underlying33 hsz hg1 (by rw[hvl,hmin2]) (fun j v hj=>by
    rw[aS5,aRH (w:=w) (a:=⟨vb,voff+j,none⟩) (aSN w.drew b vb c1 hvb)];exact hvs j v hj) (by rw[hvl,hc1l];omega) h1v
  rw[h,hmin2,hc2]
 have Hmid:=Lib.hid hmid;have Hc1:=Lib.hid hc1;have Hc2:=Lib.hid hc2;have Hs1:=Lib.hid hc1l;have Hs2:=Lib.hid hc2l;have Hml:=Lib.hid hml;clear hmid hc1 hc2 hc1l hc2l hml hmin1 hmin2
 go_enter Tryz.func159,Tryz.ntmps159
 go_wp2_with (simp only[hov])
 go_region_law_o (refine step_copy_runI rfl _ _ 33 33 rfl _ _ (by simp [Act.eval,Act.put]) (by simp [Act.eval,Act.put]) (hcp1 _ _ _) ?_)
 go_wp2_with (at_builtin;refine wpList_copy_runI _ rfl _ _ 33 33 rfl _ _ rfl rfl (hcp2 _ _) ?_)
 go_ret
 refine⟨rfl,c2,?_,Hs2.out,?_⟩
 .rw[setRow_setRow]
 .rw[<-Hmid.out];exact aKN Hc1.out Hc2.out Hml.out hvl (by rw[aRQ];omega) hin
theorem aKP (base:Option Addr) (n c i:Nat) (v0:Option Addr) (vc:Nat) (w:pQ) (hi:i<=n) (hnc:n<=c) (hc63:c<=maxLen):
  Calls Tryz.prog 159 #[.slice base n c,.int .i64 i,.slice v0 0 vc] w fun e w'=>e= .returned (.slice base n c)/\w'=w:=by
 have u24:=aRB Tryz.underlying33
 go_enter Tryz.func159,Tryz.ntmps159
 go_wp2_with fail
 all_goals (go_ret;exact⟨rfl,rfl⟩)
theorem aKQ (v:pR) (n vb voff m vc:Nat) (xs vs:pM) (w:pQ) (hm:0<m) (hown:w.ownsRow 0 111 2 v n xs) (h63:n+m<=maxLen) (hby:(n+m)*32<=140737488355328)
  (hvl:vs.length=m*2) (hvs: ∀j v,vs[j]? =some v->w.cell? ⟨vb,voff+j,none⟩=some v) (h1v: ∀v∈vs,v.oneCell'=true):
  Calls Tryz.prog 159 #[v,.int .i64 n,.slice (some ⟨vb,voff,none⟩) m vc] w fun e w'=>
   ∃q cap,e= .returned (.slice (some ⟨q,0,none⟩) (n+m) cap)/\w'.ownsRow 0 111 2 (.slice (some ⟨q,0,none⟩) (n+m) cap) (n+m) (xs++vs)/\
   (q=w.heap.size\/v.ownBlock=some q)/\w.grownBy w' v.ownBlock:=by
 have u24:=aRB Tryz.underlying33;obtain⟨inf,hi,hsz,hz⟩:=E2 aB5;have hby2:inf.bytes=32:=by
  have:(Tryz.prog.info? 111).map (·.bytes)=some 32:=by kernel_rfl
  rw[hi] at this;exact aRi this
 have hrun: ∀ty,∃q cap w',(Builtin.append_ #[33,33] ty #[v,.slice (some ⟨vb,voff,none⟩) m vc]).run Tryz.prog w= .ok (.slice (some ⟨q,0,none⟩) (n+m) cap) w'/\_:=
  fun ty=>a0m (P:=Tryz.prog) w 33 ty 111 inf _ 2 32 Tryz.underlying33 hi hz hsz hby2 pU v n xs hown ⟨vb,voff,none⟩ m vc vs hvl (fun j u hj=>by rw[aS5];exact hvs j u hj) h1v hm h63 hby
 obtain⟨q,cap,w2,hr,h1,h2,h3,h4,h5⟩:=hrun 33;have H1:=Lib.hid h1;have H2:=Lib.hid h2;have H3:=Lib.hid h3;have Hown:=Lib.hid hown;have hz1: ¬((m:Int)=0):=by omega
 have hmx:n+m<=9223372036854775807:=by unfold maxLen at h63;omega
 obtain⟨hxl,hv⟩:=hown;clear h1 h2 h3 h5 hrun hz hsz hby2 hi hxl;rcases hv with⟨rfl,rfl⟩ |⟨b,c,cur,rfl,_,hbk,hnc,hcm,hcs,htk⟩
 .clear Hown;rw[aRP] at hr
  go_enter Tryz.func159,Tryz.ntmps159
  go_wp2_with (at_builtin;refine Lib.wpList_append_run _ rfl _ _ _ _ rfl _ _ rfl rfl _ _ hr ?_)
  all_goals (go_ret;exact⟨q,cap,by rw[aRP];rfl,H1.out,H2.out,H3.out⟩)
 .clear hbk hcs htk;have hcm:c<=9223372036854775807:=by unfold maxLen at hcm;omega
  go_enter Tryz.func159,Tryz.ntmps159
  go_wp2_with (at_builtin;refine Lib.wpList_append_run _ rfl _ _ _ _ rfl _ _ rfl rfl _ _ hr ?_)
  all_goals (go_ret;exact⟨q,cap,rfl,H1.out,H2.out,H3.out⟩)
theorem aKR (b n c i vb voff m vc:Nat) (cur:Array pR) (vs:pM) (w:pQ) (hi:i<n) (hm:0<m) (hnc:n<=c) (hroom:c<n+m) (hbig:(n+m)*32<=140737488355328)
  (hg:w.heap[b]? =some (.cells cur 111 (0,0))) (hcs:cur.size=c*2) (hvl:vs.length=m*2)
  (hvs: ∀j v,vs[j]? =some v->w.cell? ⟨vb,voff+j,none⟩=some v) (h1: ∀v∈cur.toList.take (n*2),v.oneCell'=true) (h1v: ∀v∈vs,v.oneCell'=true):
  Calls Tryz.prog 159 #[.slice (some ⟨b,0,none⟩) n c,.int .i64 i,.slice (some ⟨vb,voff,none⟩) m vc] w fun e w'=>
   ∃G,e= .returned (.slice (some ⟨w.heap.size,0,none⟩) (n+m) G)/\w'.ownsRow 0 111 2 (.slice (some ⟨w.heap.size,0,none⟩) (n+m) G) (n+m) (cur.toList.take (i*2)++vs++(cur.toList.drop (i*2)).take ((n-i)*2))/\w.grownBy w' none:=by
 have u24:=aRB Tryz.underlying33;have mixed:Tryz.prog.follows .mixedOrders=true:=by kernel_rfl
 obtain⟨inf,hinf,hzs,hz⟩:=E2 aB5;have hzb:inf.bytes=32:=by
  have:(Tryz.prog.info? 111).map (·.bytes)=some 32:=by kernel_rfl
  rw[hinf] at this;exact aRi this
 have hsz:(Tryz.prog.info? 111).map (·.size)=some 2:=by kernel_rfl
 have hz1: ¬((m:Int)=0):=by omega
 have hz2: ¬((i:Int)=(n:Int)):=by omega
 have hz3:(c:Int)<(n:Int)+(m:Int):=by omega
 have hbw:b<w.heap.size:=by
  rcases aSr b w.heap.size with h|h
  .exact h
  .rw[Array.getElem?_eq_none h] at hg;cases hg
 have hvw:vb<w.heap.size:=block_lt_of_cell (hvs 0 _ (aRr pF));have hkk:(n:Int)+(m:Int)- (i:Int)=((n+m-i:Nat):Int):=by omega
 have hik:i+(n+m-i)=n+m:=by omega
 have hold:(Builtin.firstCells inf.size i (.slice (some ⟨b,0,none⟩) i c)).run Tryz.prog w.drew= .ok (cur.toList.take (i*2)).toArray w.drew:=by
  rw[hzs];exact run_firstCells_some w.drew 2 i ⟨b,0,none⟩ i c (cur.toList.take (i*2)) (by rw[aRD,aRQ];omega) (fun j v hj=>by
   rw[aS5,aRP];rw[aSv] at hj;split at hj
   .rw[aSn] at hj;show w.cell? ⟨b,j,none⟩=_;rw[Lib.cell_of_heap hg];exact hj
   .cases hj)
 have hrz: ∀ty,(Builtin.append_ #[33,3] ty #[.slice (some ⟨b,0,none⟩) i c,.int .i64 ((n:Int)+(m:Int)- (i:Int))]).run Tryz.prog w=
   .ok (.slice (some ⟨w.heap.size,0,none⟩) (n+m) (grownCap w (n+m) c 111)) (w.drew.alloc (.cells ((cur.toList.take (i*2)).toArray++Builtin.zeroCells (wL (.pair .str (.pair .str .unit))).cells (n+m-i)++Builtin.zeroCells (wL (.pair .str (.pair .str .unit))).cells (grownCap w (n+m) c 111- (n+m))) 111)):=fun ty=>by
  have h:=Lib.run_append_grow_zeros (P:=Tryz.prog) w 33 3 ty 111 inf _ .i64 .i64 Tryz.underlying33 Tryz.underlying3 hinf hz (some ⟨b,0,none⟩) i c (cur.toList.take (i*2)) hold (n+m-i) pF (by rw[hzs];decide) pF pF (by rw[hzb];omega) (by rw[hzb,hik];exact growslice_fits hroom hbig);rw[hik] at h;rw[hkk];exact h
 obtain⟨G,hG⟩: ∃G,G=grownCap w (n+m) c 111:=⟨_,rfl⟩;obtain⟨ROW,hROW⟩: ∃ROW:Array pR,ROW=(cur.toList.take (i*2)).toArray++Builtin.zeroCells (wL (.pair .str (.pair .str .unit))).cells (n+m-i)++Builtin.zeroCells (wL (.pair .str (.pair .str .unit))).cells (G- (n+m)):=⟨_,rfl⟩;rw[<-hG] at hrz;rw[<-hROW] at hrz;have hGn:n+m<=G:=by rw[hG];exact grownCap_ge w _ _ _
 have hGm:G<=maxLen:=by rw[hG];exact grownCap_le_maxLen w (n+m) c _ (by unfold maxLen;omega)
 have hzc:(wL (.pair .str (.pair .str .unit))).cells.size=2:=rfl;have hRl:ROW.size=G*2:=by
  rw[hROW];simp only[aS6,aR7,size_zeroCells,hzc,aRD,aRQ];omega
 have hRt:ROW.toList.take (i*2)=cur.toList.take (i*2):=by
  rw[hROW];simp only[Array.toList_append,aRl];rw[aSa (by rw[aRD,aRQ];omega),List.take_take,Nat.min_self]
 obtain⟨q,hq⟩: ∃q,q=w.heap.size:=⟨_,rfl⟩;obtain⟨mid,hmid⟩: ∃mid,mid=(cur.toList.drop (i*2)).take ((n-i)*2):=⟨_,rfl⟩;have hml:mid.length=(n-i)*2:=by rw[hmid,aRD,aRA,aRQ];omega
 have hmin1:Nat.min m (n+m-i)=m:=by simp only[Nat.min_def];split<;>omega
 have hmin2:Nat.min (n-i) (n+m- (i+m))=n-i:=by simp only[Nat.min_def];split<;>omega
 obtain⟨c1,hc1⟩: ∃c1:Array pR,c1=(ROW.toList.take (i*2)++vs++ROW.toList.drop (i*2+vs.length)).toArray:=⟨_,rfl⟩;have hc1l:c1.size=G*2:=by rw[hc1];simp only[aR7,aRg,aRD,aRA,aRQ,hRl,hvl];omega
 obtain⟨c2,hc2⟩: ∃c2:Array pR,c2=(c1.toList.take ((i+m)*2)++mid++c1.toList.drop ((i+m)*2+mid.length)).toArray:=⟨_,rfl⟩;have hc2l:c2.size=G*2:=by rw[hc2];simp only[aR7,aRg,aRD,aRA,aRQ,hc1l,hml];omega
 obtain⟨W1,hW1⟩: ∃W1,W1=w.drew.alloc (.cells ROW 111):=⟨_,rfl⟩;rw[<-hW1] at hrz;have hbq:b≠q:=by omega
 have hvq:vb≠q:=by omega
 have hg1:W1.heap[q]? =some (.cells ROW 111 (0,0)):=by rw[hW1,hq];exact aTg w.drew _
 have hO1: ∀k,k<w.heap.size->W1.heap[k]? =w.heap[k]? :=fun k hk=>by rw[hW1];exact aRN w.drew _ k hk
 have hcpA: ∀(W:pQ),W.heap=W1.heap->∀ty dc,(Builtin.copy_ #[33,33] ty #[.slice (some ⟨q,i*2,none⟩) (n+m-i) dc,.slice (some ⟨vb,voff,none⟩) m vc]).run Tryz.prog W= .ok (goInt (m:Nat)) (W.setRow q c1):=fun W hW ty dc=>by
  have h:=W9 (P:=Tryz.prog) W 33 33 ty 111 2 q (i*2) (n+m-i) dc ⟨vb,voff,none⟩ m vc ROW 111 vs Tryz.underlying33 hsz (by rw[hW];exact hg1) (by rw[hvl,hmin1]) (fun j v hj=>by
    rw[aS5,aRH (w:=w) (a:=⟨vb,voff+j,none⟩) (by rw[hW];exact hO1 vb hvw)];exact hvs j v hj) (by rw[hvl,hRl];omega) h1v
  rw[h,hmin1,hc1]
 have hcpB: ∀(W:pQ),W.heap=(W1.setRow q c1).heap->∀ty dc sc,(Builtin.copy_ #[33,33] ty #[.slice (some ⟨q,(i+m)*2,none⟩) (n+m- (i+m)) dc,.slice (some ⟨b,i*2,none⟩) (n-i) sc]).run Tryz.prog W= .ok (goInt (n-i:Nat)) (W.setRow q c2):=fun W hW ty dc sc=>by
  have h:=W9 (P:=Tryz.prog) W 33 33 ty 111 2 q ((i+m)*2) (n+m- (i+m)) dc ⟨b,i*2,none⟩ (n-i) sc c1 111 mid Tryz.underlying33 hsz (by rw[hW];exact aTa W1 q ROW c1 _ _ hg1) (by rw[hml,hmin2]) (fun j v hj=>by
    rw[aS5,aRH (w:=w) (a:=⟨b,i*2+j,none⟩) (by rw[hW,aSN W1 q b c1 hbq];exact hO1 b hbw),Lib.cell_of_heap hg];rw[hmid,aSv] at hj;split at hj
    .rw[List.getElem?_drop,aSn] at hj;exact hj
    .cases hj) (by rw[hml,hc1l];omega) (fun v hv=>h1 v (aB6 (hmid▸hv)))
  rw[h,hmin2,hc2]
 have hGi: ¬(G=i):=by omega
 have hGim: ¬(G=i+m):=by omega
 have hci: ¬(c=i):=by omega
 have hw1:IntKind.i64.wrap ((i:Int)+(m:Int))=(i:Int)+(m:Int):=by rw[aS9];omega
 have hw2:IntKind.i64.wrap ((n:Int)+(m:Int))=(n:Int)+(m:Int):=by rw[aS9];omega
 have hw3:IntKind.i64.wrap ((n:Int)+(m:Int)- (i:Int))=(n:Int)+(m:Int)- (i:Int):=by rw[aS9];omega
 have hb1:(0:Int)<=(i:Int)+(m:Int):=by omega
 have hin:i<=n:=by omega
 have htn:((i:Int)+(m:Int)).toNat=i+m:=by omega
 have hb3:(i:Int)<=(n:Int):=by omega
 have hG63:G<=9223372036854775807:=by unfold maxLen at hGm;omega
 rw[<-hq] at hrz|-;have hend: ∀W:pQ,W.heap=((W1.setRow q c1).setRow q c2).heap->W.os=w.os->W.tape=w.tape->W.output=w.output->
   W.ownsRow 0 111 2 (.slice (some ⟨q,0,none⟩) (n+m) G) (n+m) (cur.toList.take (i*2)++vs++mid)/\w.grownBy W none:=fun W hW e1 e2 e3=>by
  have hg2:W.heap[q]? =some (.cells c2 111 (0,0)):=by rw[hW];exact aTa (W1.setRow q c1) q c1 c2 _ _ (aTa W1 q ROW c1 _ _ hg1)
  have hs:w.heap.size<=W.heap.size:=by
   have:=(aRC.1 hg2).1;omega
  refine⟨⟨?_,.inr ⟨q,G,c2,rfl,aSo _,hg2,hGn,hGm,hc2l,?_⟩⟩,⟨e1,e2,e3,hs,fun k hk _=> ?_⟩⟩
  .simp only[aRg,aRD,aRQ,hml,hvl];omega
  .have x1:c1.toList=cur.toList.take (i*2)++vs++ROW.toList.drop (i*2+vs.length):=by rw[hc1,hRt]
   have l1:(cur.toList.take (i*2)++vs).length=(i+m)*2:=by rw[aRg,aRD,aRQ,hvl];omega
   have x2:c2.toList=cur.toList.take (i*2)++vs++mid++c1.toList.drop ((i+m)*2+mid.length):=by
    rw[hc2];show c1.toList.take ((i+m)*2)++mid++_=_;rw[x1,<-l1,aSd]
   rw[x2,show (n+m)*2=(cur.toList.take (i*2)++vs++mid).length by rw[aRg,l1,hml];omega,aSd]
  .rw[hW,aSN _ q k c2 pF,aSN _ q k c1 pF];exact hO1 k hk
 have Hmid:=Lib.hid hmid;have Hq:=Lib.hid hq;have Hend:=Lib.hid hend;have HW1:=Lib.hid hW1;clear hkk hik hold hROW hG hRl hmid hq hend hW1 hc1 hc2 hc1l hc2l hml hmin1 hmin2 hz hzs hzb hinf hRt hg1 hO1
 go_enter Tryz.func159,Tryz.ntmps159
 go_wp2_with (first
  |(at_builtin;refine Lib.wpList_append_run _ rfl _ _ _ _ rfl _ _ rfl rfl _ _ (hrz _) ?_)
  |(at_builtin;refine wpList_copy_runI _ rfl _ _ 33 33 rfl _ _ rfl rfl (hcpA _ rfl _ _) ?_))
 go_region_law_o (refine step_copy_runI rfl _ _ 33 33 rfl (.slice (some ⟨q,(i+m)*2,none⟩) (n+m- (i+m)) (G- (i+m))) (.slice (some ⟨b,i*2,none⟩) (n-i) (c-i)) (by simp [Act.eval,Act.put]) (by simp [Act.eval,Act.put]) (hcpB (W1.setRow q c1).drew rfl _ (G- (i+m)) (c-i)) ?_)
 go_wp2_with fail
 go_ret
 rw[<-Hmid.out];exact⟨G,rfl,Hend.out _ rfl (by rw[HW1.out];rfl) (by rw[HW1.out];rfl) (by rw[HW1.out];rfl)⟩
theorem aKS (v:pR) (n i m vc:Nat) (v0:Option Addr) (xs vs:pM) (w:pQ) (hin:i<=n) (hown:w.ownsRow 0 111 2 v n xs) (hby:(n+m)*32<=140737488355328)
  (h1: ∀u∈xs,u.oneCell'=true) (hv0:m=0\/∃vb voff,v0=some ⟨vb,voff,none⟩/\v.ownBlock≠some vb/\∀j u,vs[j]? =some u->w.cell? ⟨vb,voff+j,none⟩=some u)
  (hvl:vs.length=m*2) (h1v: ∀v∈vs,v.oneCell'=true):
  Calls Tryz.prog 159 #[v,.int .i64 i,.slice v0 m vc] w fun e w'=>
   ∃v',e= .returned v'/\w'.ownsRow 0 111 2 v' (n+m) (xs.take (i*2)++vs++xs.drop (i*2))/\(m=0->v'=v)/\(∀b,v'.ownBlock=some b->b=w.heap.size\/v.ownBlock=some b)/\w.grownBy w' v.ownBlock:=by
 have h63:n+m<=maxLen:=by unfold maxLen;omega
 rcases Nat.eq_zero_or_pos m with hm|hm
 .subst hm;have hvs:vs=[]:=aSM.1 pF;subst hvs;have hres:w.ownsRow 0 111 2 v (n+0) (xs.take (i*2)++[]++xs.drop (i*2)):=by
   rw[List.append_nil,aSQ];exact hown
  obtain⟨base,c,rfl,hnc,hc⟩: ∃base c,v= .slice base n c/\n<=c/\c<=maxLen:=by
   rcases hown.2 with⟨rfl,rfl⟩ |⟨b,c,cur,rfl,_,_,h2,h3,_⟩
   .exact⟨none,0,rfl,aRE _,by unfold maxLen;omega⟩
   .exact⟨_,c,rfl,h2,h3⟩
  refine(aKP base n c i v0 vc w hin hnc hc).mono ?_;rintro e w' ⟨rfl,rfl⟩;exact⟨_,rfl,hres,fun _=>rfl,fun b hb=> .inr hb,World.grownBy.refl _ _⟩
 .obtain⟨vb,voff,rfl,hvb,hvs⟩: ∃vb voff,v0=some ⟨vb,voff,none⟩/\v.ownBlock≠some vb/\∀j u,vs[j]? =some u->w.cell? ⟨vb,voff+j,none⟩=some u:=by
   rcases hv0 with h|h
   .omega
   .exact h
  have hxl:=hown.1;rcases aSr i n with hlt|hge
  .rcases hown.2 with⟨rfl,rfl⟩ |⟨b,c,cur,rfl,_,hbk,hnc,hcm,hcs,htk⟩
   .omega
   .have hb:vb≠b:=fun h=>hvb (by rw[h];rfl);have hx1:cur.toList.take (i*2)=xs.take (i*2):=by rw[<-htk,List.take_take,Nat.min_eq_left pF]
    have hx2:(cur.toList.drop (i*2)).take ((n-i)*2)=xs.drop (i*2):=by rw[aKM hin,htk]
    rcases aSr c (n+m) with hr|hr
    .refine(aKR b n c i vb voff m vc cur vs w hlt hm hnc hr hby hbk hcs hvl hvs (by rw[htk];exact h1) h1v).mono ?_;rintro e w' ⟨G,rfl,ho,hg⟩;rw[hx1,hx2] at ho;exact⟨_,rfl,ho,fun h=>by omega,fun b hb=> .inl (by simpa[Value.ownBlock] using hb.symm),⟨hg.os,hg.tape,hg.output,hg.size,fun k hk _=>hg.block k hk pH⟩⟩
    .refine(aKO b n c i vb voff m vc cur vs w hlt hm hr hcm hb hbk hcs hvl hvs (by rw[htk];exact h1) h1v).mono ?_;rintro e w' ⟨rfl,cur',rfl,hs,ht⟩;rw[hx1,hx2] at ht;refine⟨_,rfl,⟨?_,.inr ⟨b,c,cur',rfl,aSo _,aTa w.drew b cur cur' _ _ hbk,hr,hcm,by rw[hs,hcs],ht⟩⟩,fun h=>by omega,fun b' hb'=> .inr hb',⟨rfl,rfl,rfl,by simp,fun k hk hne=>aSN w.drew b k cur' (fun h=>hne (by rw[h];rfl))⟩⟩;simp only[aRg,aRD,aRA,hxl,hvl];omega
  .obtain rfl:i=n:=by omega
   refine(aKQ v i vb voff m vc xs vs w hm hown h63 hby hvl hvs h1v).mono ?_;rintro e w' ⟨q,cap,rfl,ho,hq,hg⟩;refine⟨_,rfl,?_,fun h=>by omega,fun b hb=> ?_,hg⟩
   .rw[<-hxl,List.take_length,aSh,List.append_nil];exact ho
   .have hb:q=b:=by simpa[Value.ownBlock] using hb
    exact hb▸hq
theorem aB7 {α:Type}{R:α->pM->Prop}{c:Nat}: ∀{l:List α}{cs:pM}(i:Nat),tX R c l cs->tX R c (l.take i) (cs.take (i*c))
 |_,_,0,_=>by simp [tX]
 |[],_,_+1,h=>by rw[show _=[] from h];simp [tX]
 |x::l,_,i+1,⟨c1,c2,e,h1,h2,h3⟩=>by
  refine⟨c1,c2.take (i*c),?_,h1,h2,aB7 i h3⟩;rw[e,aSm,Nat.add_comm,<-h1,List.take_length_add_append]
theorem aB8 {α:Type}{R:α->pM->Prop}{c:Nat}: ∀{l:List α}{cs:pM}(i:Nat),tX R c l cs->tX R c (l.drop i) (cs.drop (i*c))
 |_,_,0,h=>by simpa using h
 |[],_,_+1,h=>by rw[show _=[] from h];simp [tX]
 |x::l,_,i+1,⟨c1,c2,e,h1,h2,h3⟩=>by
  rw[e,show (i+1)*c=c1.length+i*c by rw[h1,aSm,Nat.add_comm],List.drop_length_add_append];exact aB8 i h3
def BG {t:Type}(l:List t) (i:Int) (v:List t):List t:=List.take i.toNat l++v++List.drop i.toNat l
@[go_sem] def QN:List qB->List q9->Option qH
 |[(.own 0 O,none),(.val (.int .i64) Z,none),(.val (.list (.pair .str (.pair .str .unit))) aA,none)],[.row 111 (.pair .str (.pair .str .unit)) aB aC]=>
  some ⟨[O=aC,0<=Z/\Z<=List.length aB,(List.length aB+List.length aA)*32<=140737488355328],[(.own 0 (List.length (BG aB Z aA)),none)],[.row 111 (.pair .str (.pair .str .unit)) (BG aB Z aA) (List.length (BG aB Z aA))]⟩
 |_,_=>none
theorem a1s:xI Tryz.prog 159 QN:=by
 refine⟨fun _ _=>rfl,fun g w args vals L r hH ha hC hs=> ?_⟩;unfold QN at hC;split at hC
 .rename_i n iI vl l n2;cases hC;obtain rfl:n=n2:=hs _ pH;obtain⟨hi0,hil⟩:=hs (0<=iI/\iI<=List.length l) pH;have hby:=hs ((List.length l+List.length vl)*32<=140737488355328) pH;clear hs;obtain⟨va,_,rfl,ra,vb,_,rfl,rb,vc,_,rfl,rc,hv⟩:=ha;cases hv;have hg0:qD (qM 0 [q9.row 111 (.pair .str (.pair .str .unit)) l n]) 0=some (.row 111 (.pair .str (.pair .str .unit)) l n):=rfl;obtain⟨hl,v,xs,hcur,hown,hF,hnone,hseal⟩:=hH.blk 0 _ hg0;have hva:va=v:=by
   have:=ra.1.1;rw[hcur] at this;exact(aRi this).symm
  subst hva;obtain⟨i,rfl⟩:=Int.eq_ofNat_of_zero_le hi0;have hvb:vb= .int .i64 i:=wM rb.1;subst hvb;obtain⟨a,cap,rfl,hcap,hlist⟩:=D5 rc.1;have hRone: ∀(x:(Ty.pair .str (.pair .str .unit)).den) cs,Rd g w (.pair .str (.pair .str .unit)) x cs->∀v∈cs,v.oneCell'=true:=fun x cs h=>AR h;obtain⟨vs,hFv,hv0⟩: ∃vs,tX (Rd g w (.pair .str (.pair .str .unit))) 2 vl vs/\(vl.length=0\/∃vb voff,a=some ⟨vb,voff,none⟩/\va.ownBlock≠some vb/\∀j u,vs[j]? =some u->w.cell? ⟨vb,voff+j,none⟩=some u):=by
   rcases hlist with rfl|⟨b,o,rfl,hL⟩
   .exact⟨[],rfl,.inl rfl⟩
   .obtain⟨cs,h1,h2,h3⟩:=MU hL;rcases Nat.eq_zero_or_pos vl.length with h0|h0
    .exact⟨cs,h1,.inl h0⟩
    .exact⟨cs,h1,.inr ⟨b,o,rfl,fun hb=>hseal b hb _ (h3 0 (Nat.mul_pos h0 pG)),h2⟩⟩
  have hvl:=IB hFv;have hil2:(i:Int)<=(l.length:Int):=hil;have hil':i<=n:=by omega
  subst hl;refine(aKS va l.length i vl.length cap a xs vs w pF hown hby (PX hRone hF) hv0 hvl (PX hRone hFv)).mono ?_;rintro e w' ⟨v',rfl,hown',hm0,hob,hgr⟩;have hlen:(BG l (i:Int) vl).length=l.length+vl.length:=by
   simp only[BG,aR0,aRg,aRD,aRA];omega
  have hF':tX (Rd g w (.pair .str (.pair .str .unit))) 2 (BG l (i:Int) vl) (xs.take (i*2)++vs++xs.drop (i*2)):=by
   unfold BG;rw[aR0];exact PR (PR (aB7 i hF) hFv) (aB8 i hF)
  have hsl: ∀b o,g.S b o->w'.cell? ⟨b,o,none⟩=w.cell? ⟨b,o,none⟩:=fun b o h=>aRH (a:=⟨b,o,none⟩) (hgr.block b (hH.sl b o h) (fun e=>hseal b e.symm o h));have hE:=sB.row (side:=[]) (rds:=[]) (s:=(.own 0 (BG l (i:Int) vl).length,none)) (val:=v') (k:=0) (g:=g) (w:=w) (H:=qM 0 [q9.row 111 (.pair .str (.pair .str .unit)) l l.length]) hH (e:=111) (t:= .pair .str (.pair .str .unit)) (l:=BG l (i:Int) vl) (n:=(BG l (i:Int) vl).length) (v:=v') rfl (by rw[hlen];exact hown') hF'
   (fun m hm=>hnone m pF) (fun u hu=>by
    rcases Nat.eq_zero_or_pos vl.length with h0|h0
    .rw[hlen,h0,aSg,hcur] at hu;rw[hm0 h0];exact(aRi hu).symm
    .rw[hnone _ pF] at hu;cases hu)
   (.inr ⟨va.ownBlock,hgr,fun b hb o=>⟨0,_,by simp,hg0,va,hcur,hb⟩⟩) hsl
   (fun b hb o hS=>by
    rcases hob b hb with h|h
    .have:=hH.sl b o hS;omega
    .exact hseal b h o hS)
   (fun b hb=>(hob b hb).imp (fun h=>by omega) fun h o=>⟨0,_,by simp,hg0,va,hcur,h⟩)
   ⟨⟨by simp [Gh.tok],by
    rw[hlen];rcases hown'.2 with⟨rfl,h⟩ |⟨b,cap',_,rfl,_,_,h,_⟩
    .exact .inl ⟨rfl,h⟩
    .exact .inr ⟨b,cap',rfl,h⟩⟩,trivial⟩
  refine⟨v',_,rfl,⟨fun b o h=>⟨hE.le.S b o h,hE.le.cell b o h⟩,hE.heap.ext ?_,hE.slot,hE.fr.mono fun b o ⟨i,blk,_,h1,h2⟩=>⟨i,blk,h1,h2⟩,fun i blk b o hi ho=> ?_,fun i t x ts h=> ?_,fun i t x ts u y us h _=> ?_,fun _ _ _ h=>h,fun i m u hi h=> ?_⟩⟩
  .intro i
   match i with
   |0=>rfl
   |i+1=>rfl
  .match i,hi with
   |0,hi=>
    cases hi;exact(hE.perm 0 _ b o (by simp [qE]) rfl ho).imp id fun⟨i,blk,_,h1,h2⟩=>⟨i,blk,h1,h2⟩
   |i+1,hi=>simp at hi
  .match i,h with
   |0,h=>cases h
   |i+1,h=>simp at h
  .match i,h with
   |0,h=>cases h
   |i+1,h=>simp at h
  .exact hE.le.cur i m u h
 .cases hC
end Go.Proofs.YtkpflnijijccpaaGreatDoor
namespace Go.Proofs.YtkpflnijijccpaaGreatDoor.Vc
open Go.RowKit
@[go_sem] def a1t (np:Nat):DV->Bool
 | .any=>true
 | .nilS=>true
 | .val .ref (some (i,_))=>decide (i<np)
 | .val .ref none=>true
 | .val t _=>t.pure
 |_=>false
@[go_sem] def WA (np:Nat):qB->Bool
 |(d,none)=>a1t np d
 |(.val (.list t) _,some k)=>t.pure&&decide (k<np)
 |_=>false
@[go_sem] def KO (np:Nat):List (Nat×qB)->Bool
 |[]=>true
 |(_,s)::r=>WA np s&&KO np r
theorem aB9 {np:Nat}: ∀{env:List (Nat×qB)},KO np env=true->∀t,WA np (lk env t)=true
 |[],_,t=>rfl
 |(k,s)::r,h,t=>by
  simp only[KO,aRw] at h;unfold lk;split
  .exact h.1
  .exact aB9 h.2 t
theorem aKT {np:Nat}{g g':Gh}{w:pQ}(hS:g'.S=g.S) (hJ: ∀i,i<np->g'.J i=g.J i) (hC: ∀i n,i<np->g'.cur i n=g.cur i n) {s:qB}{v:pR}(hp:WA np s=true) (h:rH g w s v):rH g' w s v:=by
 have hV: ∀{t:Ty}{x:t.den},t.pure=true->tO g w t x v->tO g' w t x v:=fun ht hv=>by
  rcases hv with⟨h1,cs,h2,h3⟩ |⟨h1,h2⟩
  .exact .inl ⟨h1,cs,h2,wC hS ht h3⟩
  .exact .inr ⟨h1,wC hS ht h2⟩
 have hD: ∀d,a1t np d=true->A7 g w d v->A7 g' w d v:=by
  intro d hd hr;unfold a1t at hd;split at hd
  .trivial
  .exact hr
  .rename_i i o;have hi:=aRU hd;rcases hr with⟨h1,_⟩ |⟨h1,h2⟩
   .cases h1
   .refine .inr ⟨h1,?_⟩;obtain⟨p,hp1,hp2⟩:=h2;exact⟨p,(hJ i hi).trans hp1,hp2⟩
  .rcases hr with⟨h1,_⟩ |⟨h1,h2⟩
   .cases h1
   .exact .inr ⟨h1,h2⟩
  .exact hV hd hr
  .cases hd
 obtain⟨d,k⟩:=s;cases k with
 |none=>exact⟨hD d hp h.1,trivial⟩
 |some k=>
  unfold WA at hp;split at hp
  .rename_i heq;cases heq
  .rename_i t x k' heq;cases heq;simp only[aRw,aRG] at hp;exact⟨hV (t:= .list t) hp.1 h.1,(hC k _ hp.2).trans h.2⟩
  .cases hp
theorem aKU {np:Nat}{g g':Gh}{w w':pQ}{env:List (Nat×qB)}{tmps:Array pR}(h:AB g w env tmps) (hp:KO np env=true) (hS: ∀b o,g.S b o->g'.S b o) (hc: ∀b o,g.S b o->w'.cell? ⟨b,o,none⟩=w.cell? ⟨b,o,none⟩)
  (hJ: ∀i p,i<np->g.J i=some p->g'.J i=some p) (hC: ∀i n v,i<np->g.cur i n=some v->g'.cur i n=some v):AB g' w' env tmps:=fun t=>by
 have le:Le g w ⟨g'.S,fun i=>if i<np then g'.J i else g.J i,fun i n=>if i<np then g'.cur i n else g.cur i n⟩ w':=by
  refine⟨hS,hc,fun i p hi=> ?_,fun i n v hi=> ?_⟩
  .show (if i<np then _ else _)=_;split
   .rename_i hlt;exact hJ i p hlt hi
   .exact hi
  .show (if i<np then _ else _)=_;split
   .rename_i hlt;exact hC i n v hlt hi
   .exact hi
 exact aKT (np:=np) (g:=⟨g'.S,fun i=>if i<np then g'.J i else g.J i,fun i n=>if i<np then g'.cur i n else g.cur i n⟩) (g':=g') rfl (fun i hi=>(aRf hi).symm) (fun i n hi=>by show g'.cur i n=(if i<np then g'.cur i n else g.cur i n);rw[aRf hi]) (aB9 hp t) (BC le (h t))
theorem tH.inner {A A':Nat->Nat->Prop}{L L':List q9}{g0 g g':Gh}{w0 w w':pQ}{H H':s7}(h:tH A L g0 w0 g w H) (k:tH A' L' g w g' w' H') (hA: ∀b o,A' b o->w.heap.size<=b\/y8 g H b o) (hl:L.length<=L'.length)
  (hL: ∀i,i<L.length->∀b,L'[i]? =some b->qD H i=some b):tH A L g0 w0 g' w' H':=by
 have own: ∀b o,A' b o->w0.heap.size<=b\/A b o:=fun b o x=>by
  rcases hA b o x with h1|⟨i,blk,h1,h2⟩
  .exact .inl (aSe h.fr.size h1)
  .exact h.perm i blk b o h1 h2
 refine⟨fun b o x=> ?_,h.fr.trans k.fr own,fun i blk b o h1 h2=> ?_,fun i p hi hp=>k.J i p pF (h.J i p hi hp),fun i hi=>k.live i pF,fun i u y us hi hg=> ?_,fun i n v hi hv=>k.cur i n v pF (h.cur i n v hi hv)⟩
 .obtain⟨h1,h2⟩:=h.shut b o x;obtain⟨k1,k2⟩:=k.shut b o h1;exact⟨k1,k2.trans h2⟩
 .rcases k.perm i blk b o h1 h2 with h3|h3
  .exact .inl (aSe h.fr.size h3)
  .exact own b o h3
 .obtain⟨x,ts,hx⟩:=k.ty i u y us pF hg;exact h.ty i u x ts hi (hL i hi _ hx)
theorem tH.start {g:Gh}{w:pQ}{H:s7}{L':List q9}(hH:sE g w H) (hL: ∀i b,L'[i]? =some b->qD H i=some b/\b≠.dead) (hty: ∀i,i<L'.length->∀b,qD H i=some b->L'[i]? =some b):tH (y8 g H) L' g w g w H:=by
 refine⟨fun b o h=>⟨h,rfl⟩,Fr.refl _ _ _,fun i blk b o hg ho=> .inr ⟨i,blk,hg,ho⟩,fun _ _ _ h=>h,fun i hi=> ?_,fun i u y us hi hg=>⟨y,us,hty i hi _ hg⟩,fun _ _ _ _ h=>h⟩;obtain⟨h1,h2⟩:=hL i L'[i] pH;have hbk:=hH.blk i _ h1;generalize L'[i]=blk at hbk h2;cases blk with
 |cells t x ts=>obtain⟨p,cs,hp,_⟩:=hbk;exact .inl ⟨p,hp⟩
 |grow e c n=>obtain⟨v,xs,hv,_⟩:=hbk;exact .inr ⟨n,v,hv⟩
 |row e t l n=>obtain⟨_,v,xs,hv,_⟩:=hbk;exact .inr ⟨n,v,hv⟩
 |map k v l=>obtain⟨p,es,cl,hp,_⟩:=hbk;exact .inl ⟨p,hp⟩
 |iter s n=>obtain⟨p,hp,_⟩:=hbk;exact .inl ⟨p,hp⟩
 |dead=>exact absurd rfl h2
@[go_sem] def IM (env:List (Nat×qB)):pP->List qB->List (Nat×qB)
 |p::ps,s::ss=>IM (tN (some p) s env) ps ss
 |_,_=>env
theorem a1u {g:Gh}{w:pQ}: ∀{ps:pP}{ss:List qB}{vs:pM}{env:List (Nat×qB)}{tmps:Array pR},AB g w env tmps->(∀p∈ps,p<tmps.size)->vL g w ss vs->ps.length=ss.length->
  AB g w (IM env ps ss) ((ps.zip vs).foldl (fun t (q:Nat×pR)=>t.setIfInBounds q.1 q.2) tmps)/\((ps.zip vs).foldl (fun t (q:Nat×pR)=>t.setIfInBounds q.1 q.2) tmps).size=tmps.size
 |[],[],vs,env,tmps,h,_,ha,_=>by
  have:vs=[]:=ha;subst this;exact⟨h,rfl⟩
 |p::ps,s::ss,vs,env,tmps,h,hp,ha,hl=>by
  obtain⟨v,vs',rfl,h1,h2⟩:=ha;have hput:AB g w (tN (some p) s env) (tmps.setIfInBounds p v):=VO (a:={tmps:=tmps,defers:=[]}) (o:=⟨some p,.move (.tmp 0),0, "",#[],none⟩) (N:=tmps.size) h (Le.refl g w) h1 rfl (by simpa[I5] using hp p pH)
  have:=a1u (tmps:=tmps.setIfInBounds p v) hput (fun q hq=>by simpa using hp q (aRo _ hq)) h2 (by simpa using hl);exact⟨this.1,by rw[List.zip_cons_cons,List.foldl_cons];rw[this.2];simp⟩
def WB (P:Program) (gf:Nat) (u:Ty) {ι:Type}(pre:u.den->Prop) (items:u.den->List ι) (vl:ι->pM):Prop:=
 (∀args w,(callFunc gf args).run P w= .ok (.enter gf args) w)/\
 ∀(l b o:Nat) (x:u.den) (cs:pM) (g:Gh) (W0:pQ) (J:Nat->pQ->Prop) (Jx:pQ->Prop),pre x->Rd g W0 u x cs->
  (∀i W,J i W->W.rangeAt b o cs/\∀b o,g.S b o->W.cell? ⟨b,o,none⟩=W0.cell? ⟨b,o,none⟩)->
  (∀i W W',J i W->Below W.heap.size W W'->J i W')->(∀W W',Jx W->Below W.heap.size W W'->Jx W')->(∀i W,J i W->D0 W)->
  (∀i it V W,(items x)[i]? =some it->J i V->Below V.heap.size V W->YieldAt Fence.wide 0 P l (vl it).toArray W fun e W'=>((e= .returned (.bool true)/\J (i+1) W')\/(e= .returned (.bool false)/\Jx W'))/\
   ∀D,V.heap.size<=D->D<W.heap.size->W'.heap[D]? =W.heap[D]?)->
  ∀W,J 0 W->Calls P gf #[.func (.yield l) #[] #[],.pointer (some ⟨b,o,none⟩)] W fun e W'=>(∃v,e= .returned v)/\(J (items x).length W'\/Jx W')
theorem aKV {F:Fence}{m:Nat}{P:Program}{l:Nat}{args:Array pR}{W:pQ}{R R':Ending->pQ->Prop}(h:YieldAt F m P l args W R) (hr: ∀e W',R e W'->R' e W'):YieldAt F m P l args W R':=by
 obtain⟨fn,tmps,assign,body,h1,h2⟩:=h;exact⟨fn,tmps,assign,body,h1,h2.mono hr⟩
def zC {ι σ ρ:Type}(f:ι->σ->Option (σ⊕ρ)):List ι->σ->Option (σ⊕ρ)
 |[],x=>some (.inl x)
 |it::r,x=>(f it x).bind fun w=>match w with
  | .inl x'=>zC f r x'
  | .inr y=>some (.inr y)
theorem aCa {ι σ ρ:Type}{f:ι->σ->Option (σ⊕ρ)}{it:ι}{r:List ι}{x:σ}{y:σ⊕ρ}(h:zC f (it::r) x=some y): ∃w,f it x=some w/\(∀x',w= .inl x'->zC f r x'=some y)/\(∀z,w= .inr z->y= .inr z):=by
 unfold zC at h;cases hf:f it x with
 |none=>rw[hf] at h;cases h
 |some w=>
  rw[hf] at h;refine⟨w,rfl,fun x' e=> ?_,fun z e=> ?_⟩
  .subst e;exact h
  .subst e;exact(aRi h).symm
def qA (st:St):Ex->St->Prop
 | .normal,s=> ∃k:wK,s.keep k=st
 |_,_=>False
def qF {σ ρ:Type}(encH:σ->List q9) (E0:List (Nat×qB)) (N np np':Nat) (w:σ⊕ρ) (Q:Ex->St->Prop):Ex->St->Prop
 | .normal,s=> ∃(k:wK) (x:σ),w= .inl x/\s.keep k=⟨[],qM 0 (encH x),qY (encH x),N,np'⟩
 |e,s=> ∃(k:wK) (B:List q9),s.keep k=⟨[],qM 0 B,qY B,N,np'⟩/\(∃z,w= .inr z)/\Q e ⟨E0,qM 0 B,qY B,N,np⟩
section
variable {B:Nat}{A:Nat->Nat->Prop}{L:List q9}{g0 g:Gh}{w0 w:pQ}{b0 o0 n0:Nat}{cs:pM}{E0:List (Nat×qB)}{tmps:Array pR}{ds:List Deferred}
structure BH (B:Nat) (A:Nat->Nat->Prop) (L:List q9) (g0:Gh) (w0:pQ) (g:Gh) (w:pQ) (b0 o0 n0:Nat) (cs:pM) (E0:List (Nat×qB)) (tmps:Array pR) (ds:List Deferred) (g1:Gh) (W:pQ) (H:s7):Prop where
 env:AB g1 W E0 tmps
 heap:sE g1 W H
 good:tH A L g0 w0 g1 W H
 sld: ∀b o,g.S b o->g1.S b o/\W.cell? ⟨b,o,none⟩=w.cell? ⟨b,o,none⟩
 rng:W.rangeAt b0 o0 cs
 len:cs.length=n0
 lt:0<n0->b0<W.heap.size
 out: ∀o,o0<=o->o<o0+n0->¬y8 g1 H b0 o
 defs:y9 B W ds
theorem BH.turn {g1:Gh}{W W2:pQ}{H:s7}(h:BH B A L g0 w0 g w b0 o0 n0 cs E0 tmps ds g1 W H) (t:uA w0.heap.size W W2) {ds':List Deferred}(hd:y9 B W2 ds'):BH B A L g0 w0 g w b0 o0 n0 cs E0 tmps ds' g1 W2 H:=by
 refine⟨fun x=>BC (t.le h.heap.sl) (h.env x),t.heapOk h.heap,h.good.turn h.heap.sl t,fun b o x=>⟨(h.sld b o x).1,(t.cell (h.heap.sl b o (h.sld b o x).1) o).1.trans (h.sld b o x).2⟩,fun j v hv=> ?_,h.len,fun x=>aRT (h.lt x) t.size,h.out,hd⟩;have hj:j<cs.length:=(aRs.1 hv).1;have:=h.len;exact(t.cell (h.lt pF) _).1.trans (h.rng j v hv)
theorem BH.inner {g1 g2:Gh}{W W2:pQ}{H H2:s7}{L':List q9}{np':Nat}(h:BH B A L g0 w0 g w b0 o0 n0 cs E0 tmps ds g1 W H) (k:tH (y8 g1 H) L' g1 W g2 W2 H2) (hH:sE g2 W2 H2) (hpin:KO np' E0=true) (hnp:np'=L'.length) (hl:L.length<=L'.length)
  (hL: ∀i,i<L.length->∀b,L'[i]? =some b->qD H i=some b):BH B A L g0 w0 g w b0 o0 n0 cs E0 tmps ds g2 W2 H2:=by
 subst hnp;refine⟨aKU h.env hpin (fun b o x=>(k.shut b o x).1) (fun b o x=>(k.shut b o x).2) (fun i p hi x=>k.J i p hi x) (fun i n v hi x=>k.cur i n v hi x),hH,h.good.inner k (fun b o x=> .inr x) hl hL,fun b o x=> ?_,fun j v hv=> ?_,h.len,fun x=>aRT (h.lt x) k.fr.size,fun o h1 h2 ⟨i,blk,h3,h4⟩=> ?_,h.defs.same fun D hD=> ?_⟩
 .obtain⟨h1,h2⟩:=h.sld b o x;exact⟨(k.shut b o h1).1,(k.shut b o h1).2.trans h2⟩
 .have hj:j<cs.length:=(aRs.1 hv).1;have:=h.len;exact(k.fr.cell _ _ (h.lt pF) (h.out _ pF pF)).1.trans (h.rng j v hv)
 .rcases k.perm i blk _ _ h3 h4 with h5|h5
  .have:=h.lt pF;omega
  .exact h.out o h1 h2 h5
 .rw[k.fr.blk D (aRC.1 hD).1 (fun o ⟨i,blk,h1,h2⟩=>VI (h.heap.blk i blk h1) h2 hD rfl)];exact hD
theorem WC {g1 g2:Gh}{W W2:pQ}{H H2:s7}{L':List q9}(hH:sE g1 W H) (k:tH (y8 g1 H) L' g1 W g2 W2 H2) {D:Nat}{ob:Obj}(hD:W.heap[D]? =some ob) (hm:GJ ob=true):W2.heap[D]? =some ob:=by
 rw[k.fr.blk D (aRC.1 hD).1 (fun o ⟨i,blk,h1,h2⟩=>VI (hH.blk i blk h1) h2 hD hm)];exact hD
end
theorem uA.put {B:Nat}{W:pQ}{l:Nat}{o o':Obj}(h:W.heap[l]? =some o) (hB:B<=l) (hN:NG<=l) (hm:GJ o=true) (hm':GJ o'=true):uA B W (W.putObj l o'):=by
 have hlt:=(aRC.1 h).1;refine⟨rfl,rfl,rfl,by simp [World.putObj],fun b hb=> ?_⟩;by_cases e:b=l
 .subst e;exact .inr ⟨hB,hN,_,_,h,World.putObj_heap_same hlt,hm,hm'⟩
 .exact .inl (World.putObj_heap_other e)
theorem uA.new (B:Nat) (W:pQ) (o:Obj):uA B W (W.alloc o):=by
 refine⟨rfl,rfl,rfl,by simp,fun b hb=> .inl ?_⟩;exact aRN W o b hb
theorem WD {e:Ex}{x:Exit}(h:FE x=some e):(x= .normal/\e= .normal)\/(x= .ret/\e= .ret)\/∃id,x= .exit id/\e= .exit id:=by
 cases x<;>simp only[FE,aRd] at h
 .exact .inl ⟨rfl,h.symm⟩
 .exact .inr (.inr ⟨_,rfl,h.symm⟩)
 .cases h
 .exact .inr (.inl ⟨rfl,h.symm⟩)
 .cases h
 .cases h
def aCb:Ex->Option Code
 | .normal=>none
 | .ret=>some .ret
 | .exit id=>some (.exit id)
theorem aKW {P:Program}{gf:Nat}{u:Ty}{ι:Type}{pre:u.den->Prop}{items:u.den->List ι}{vl:ι->pM}(hit:WB P gf u pre items vl) {sl:ι->List qB}(hsl: ∀it g w,vL g w (sl it) (vl it))
  {fo:Operand}{ps:Array Tmp}{assign body:Code}{s:St}{Q:Ex->St->Prop}{c:Nat}{k0:pO}(hf:uF s.env fo=(.val .clo (some (gf,[(c,0)])),k0)) {xc:u.den}{toks:pK}(hc:qD s.H c=some (.cells u xc toks)) (hpre:pre xc)
  {σ ρ:Type}{f:ι->σ->Option (σ⊕ρ)}{x0:σ}{y:σ⊕ρ}(hy:zC f (items xc) x0=some y)
  (E0:List (Nat×qB)) (E1:ι->List (Nat×qB)) (encH:σ->List q9) (np':Nat) (k:wK) (hk:xQ s.np k.ids=true) (h0:s.keep k=⟨E0,qM 0 (encH x0),qY (encH x0),s.N,s.np⟩)
  (hcd:k.ids.all (fun q=>decide (q.2≠c))=true) (hpin:KO np' E0=true) (hnp:s.np<=np') (hlen: ∀x,np'<=qY (encH x)) (hdead: ∀x,((encH x).take np').all (fun b=>match b with| .dead=>false|_=>true)=true)
  (hps: ∀it,ps.toList.length=(sl it).length) (hpN:(ps.toList.all fun p=>decide (p<s.N))=true)
  (hround: ∀it x w,f it x=some w->(∀z,w= .inr z->y= .inr z)->Ev true P assign ⟨IM E0 ps.toList (sl it),qM 0 (encH x),qY (encH x),s.N,np'⟩ (qA ⟨E1 it,qM 0 (encH x),qY (encH x),s.N,np'⟩)/\
   Ev true P body ⟨E1 it,qM 0 (encH x),qY (encH x),s.N,np'⟩ (qF encH E0 s.N s.np np' w Q))
  (hdone: ∀x,y= .inl x->Q .normal ⟨E0,qM 0 (encH x),qY (encH x),s.N,s.np⟩):Ev false P (.rangeFunc fo ps assign body) s Q:=by
 intro ro hro A L g0 w0 g a w B hB hr hg hn;have hN:ro=none:=by cases ro<;>first|rfl|cases hro
 subst hN;have hfv:=zR hr.env fo;rw[hf] at hfv;obtain⟨p,hpJ,hev⟩: ∃p,g.J c=some p/\a.eval fo= .func (.func gf) #[] #[.pointer (some ⟨p.1,p.2,none⟩)]:=by
  rcases hfv.1 with⟨h1,_⟩ |⟨_,vs,⟨p,vs',h4,h5,h6⟩,h3⟩
  .cases h1
  .rw[show vs'=[] from h6] at h5;subst h5;simp only[aSc,and_true] at h3;exact⟨p,h4,h3⟩
 obtain⟨p',cs,hp',hRc,hra,hth,hns,htk⟩:=hr.heap.blk c _ hc;rw[hpJ] at hp';obtain rfl:=aRi hp';have hcl:=sR hRc;obtain⟨hr1,hg1,hn1,_⟩:=VN hr hg hn k hk;have hout: ∀o,p.2<=o->o<p.2+u.cells->¬y8 (uT g s.np k.ids) (s.keep k).H p.1 o:=by
  rintro o h1 h2 ⟨i,blk,h3,h4⟩;have h3':qD (PL s k (xQ s.np k.ids)).H i=some blk:=h3;rw[hk] at h3';obtain⟨o',h5,rfl⟩:=IG h3';obtain⟨c1,h6,h7⟩:=(KI hk h5 fun c1 hc1=>hr.heap.blk o' c1 hc1).2 _ _ h4;have h8:=aRX.1 hcd _ h5;exact hr.heap.dis o' c c1 _ p.1 o (aRU h8) h6 hc h7 ⟨p,hpJ,rfl,h1,h2⟩
 rw[h0] at hr1 hg1 hout;have inv0:BH B A L g0 w0 g w p.1 p.2 u.cells cs E0 a.tmps a.defers (uT g s.np k.ids) w (qM 0 (encH x0)):=
  ⟨hr1.env,hr1.heap,hg1,fun b o h=>⟨h,rfl⟩,hra,hcl,fun hpos=>by
   obtain⟨v,hv⟩:=aRh.1 (hth.1 0 hpos).1;exact UW hv,hout,hr.def_⟩
 have hNG:NG<=w.heap.size:=hr.heap.tab.1.1;have hBw:w0.heap.size<=w.heap.size:=hg.fr.size;refine wpIn_rangeFunc fun fn _=> ?_;obtain⟨rec,hrec⟩: ∃rec:LoopState->Option Code->Loop,rec=fun st pe=>{state:=st,pending:=pe,fn,tmps:=a.tmps,params:=ps,assign,body,defers:=w.heap.size}:=⟨_,rfl⟩;obtain⟨W1,hW1⟩: ∃W1,(w.alloc (.deferred (some []))).alloc (.loop (rec .ready none))=W1:=⟨_,rfl⟩;have hL1:W1.heap[w.heap.size+1]? =some (.loop (rec .ready none)):=by
  rw[<-hW1];have:=World.alloc_heap_new (w.alloc (.deferred (some []))) (.loop (rec .ready none));rwa [World.size_alloc] at this
 have hK1:W1.heap[w.heap.size]? =some (.deferred (some [])):=by
  rw[<-hW1];exact(aRN _ _ _ pH).trans (World.alloc_heap_new w _)
 have t1:uA w0.heap.size w W1:=by rw[<-hW1];exact(uA.new _ _ _).trans (uA.new _ _ _)
 obtain⟨ds,hds⟩: ∃ds:List Deferred,{target:= .collected w.heap.size,args:= #[]}::a.defers=ds:=⟨_,rfl⟩;have hd1:y9 B W1 ds:=by
  rw[<-hds];refine⟨List.nodup_cons.2 ⟨fun hm=> ?_,hr.def_.1⟩,fun d hd=> ?_⟩
  .obtain⟨D,h1,_,_,h4⟩:=hr.def_.2 _ hm;have h5:w.heap.size=D:=by injection h1 with h1;injection h1
   have:=(aRC.1 h4).1;omega
  .rcases aRu.1 hd with rfl|hd
   .exact⟨_,rfl,pF,hNG,hK1⟩
   .obtain⟨D,h1,h2,h3,h4⟩:=hr.def_.2 _ hd;have hlt:=(aRC.1 h4).1;refine⟨D,h1,h2,h3,?_⟩;rw[<-hW1];exact(aRN _ _ D pI).trans ((aRN _ _ D hlt).trans h4)
 let l:=w.heap.size+1
 let J:Nat->pQ->Prop:=fun i W=> ∃g1 x,zC f ((items xc).drop i) x=some y/\BH B A L g0 w0 g w p.1 p.2 u.cells cs E0 a.tmps ds g1 W (qM 0 (encH x))/\
  (∀j,qY (encH x)<=j->g1.J j=none/\∀n,g1.cur j n=none)/\W.heap[l]? =some (.loop (rec .ready none))
 let Jx:pQ->Prop:=fun W=> ∃g1 Bl e cd z,aCb e=some cd/\y= .inr z/\Q e ⟨E0,qM 0 Bl,qY Bl,s.N,s.np⟩/\BH B A L g0 w0 g w p.1 p.2 u.cells cs E0 a.tmps ds g1 W (qM 0 Bl)/\
  (∀j,qY Bl<=j->g1.J j=none/\∀n,g1.cur j n=none)/\s.np<=qY Bl/\W.heap[l]? =some (.loop (rec .done (some cd)))
 have tbel: ∀{W W':pQ},Below W.heap.size W W'->uA w0.heap.size W W':=fun hb=>⟨hb.os,hb.tape,hb.output,hb.size,fun b h=> .inl (hb.block b h)⟩;have hob: ∀{W W':pQ}{D:Nat}{ob:Obj},Below W.heap.size W W'->W.heap[D]? =some ob->W'.heap[D]? =some ob:=fun hb h=>(hb.block _ (aRC.1 h).1).trans h;have hJd: ∀i W W',J i W->Below W.heap.size W W'->J i W':=fun i W W' ⟨g1,x,h1,h2,h3,h4⟩ hb=>⟨g1,x,h1,h2.turn (tbel hb) (h2.defs.same fun _ h=>hob hb h),h3,hob hb h4⟩;have hJxd: ∀W W',Jx W->Below W.heap.size W W'->Jx W':=fun W W' ⟨g1,Bl,e,cd,z,h1,h2,h3,h4,h5,h6,h7⟩ hb=>⟨g1,Bl,e,cd,z,h1,h2,h3,h4.turn (tbel hb) (h4.defs.same fun _ h=>hob hb h),h5,h6,hob hb h7⟩;have hround2: ∀i it V W,(items xc)[i]? =some it->J i V->Below V.heap.size V W->YieldAt Fence.wide 0 P l (vl it).toArray W fun e W'=>((e= .returned (.bool true)/\J (i+1) W')\/(e= .returned (.bool false)/\Jx W'))/\
   ∀D,V.heap.size<=D->D<W.heap.size->W'.heap[D]? =W.heap[D]? :=by
  rintro i it V W hi ⟨g1,x,hfold,invV,nb,hlV⟩ hbel;have inv:=invV.turn (tbel hbel) (invV.defs.same fun _ h=>hob hbel h);have hl:=hob hbel hlV;have hVl:l<V.heap.size:=(aRC.1 hlV).1;have hnoV: ∀D,V.heap.size<=D->∀o,¬y8 g1 (qM 0 (encH x)) D o:=fun D hD o ⟨i,blk,h1,h2⟩=>by
   have:=KC (invV.heap.blk i blk h1) h2;omega
  have hil:i<(items xc).length:=(aRs.1 hi).1;have hdrop:(items xc).drop i=it::(items xc).drop (i+1):=by
   rw[aRW hil];congr 1;exact(aRs.1 hi).2
  rw[hdrop] at hfold;obtain⟨wv,hw,hinl,hinr⟩:=aCa hfold;obtain⟨evA,evB⟩:=hround it x wv hw hinr;have hvl:(vl it).toArray.size=ps.size:=by
   rw[aR7,(QC (hsl it g1 W)).1,<-hps it,aRQ]
  have hyl:=run_yield (P:=P) (args:=(vl it).toArray) hl (by rw[hrec];exact hvl);rw[hrec] at hyl;refine⟨fn,_,assign,body,hyl,roundIn_of_wpIn trivial ?_⟩;have hz:(ps.zip (vl it).toArray).foldl (fun tmps (t,v)=>tmps.setIfInBounds t v) a.tmps=(ps.toList.zip (vl it)).foldl (fun t (q:Nat×pR)=>t.setIfInBounds q.1 q.2) a.tmps:=by
   rw[<-aS2,Array.toList_zip]
  rw[hz];obtain⟨henv,hsz⟩:=a1u inv.env (fun q hq=>by rw[hr.size];exact aRU (aRX.1 hpN q hq)) (hsl it g1 W) (hps it);have hL'len:((encH x).take np').length=np':=by
   rw[aRD];have:=hlen x;rw[QD] at this;omega
  have hLget: ∀i b,((encH x).take np')[i]? =some b->qD (qM 0 (encH x)) i=some b:=fun i b h=>by
   rw[x9];exact(aSj (by have:=(aRs.1 h).1;omega)).symm.trans h
  have hLget2: ∀i b,((encH x).take np')[i]? =some b->qD (qM 0 (encH x)) i=some b/\b≠.dead:=fun i b h=>⟨hLget i b h,fun e=>by
   have:=aRX.1 (hdead x) b (List.mem_of_getElem? h);subst e;cases this⟩
  have hLty: ∀i,i<((encH x).take np').length->∀b,qD (qM 0 (encH x)) i=some b->((encH x).take np')[i]? =some b:=fun i hi b h=>by
   rw[x9] at h;exact(aSj pF).trans h
  have gs:=tH.start inv.heap hLget2 hLty;have rA:v8 W.heap.size g1 W ⟨IM E0 ps.toList (sl it),qM 0 (encH x),qY (encH x),s.N,np'⟩ {tmps:=(ps.toList.zip (vl it)).foldl (fun t (q:Nat×pR)=>t.setIfInBounds q.1 q.2) a.tmps,defers:=[]}:=⟨henv,inv.heap,hsz.trans hr.size,nb,a0L _ _,hlen x⟩;have hlow:L.length<=((encH x).take np').length:=by rw[hL'len,<-hn];exact hnp
  refine aST (evA (some l) rfl _ _ g1 W g1 _ W _ (aRE _) rA gs hL'len.symm) fun e a1 wa hp=> ?_;obtain⟨e',g2,s2,e1,e2,e3,e4,e5⟩:=hp;rcases WD e1 with⟨rfl,rfl⟩ |⟨rfl,rfl⟩ |⟨id,rfl,rfl⟩
  .obtain⟨kA,hkA⟩:=e2;obtain⟨g3,k1,k2,k3,_⟩:=E5 e3 e4 e5 kA;rw[hkA] at k1 k2;have inva:=inv.inner k2 k1.heap hpin hL'len.symm hlow (fun i hi b h=>hLget i b h);have hla:=WC inv.heap k2 hl rfl;refine⟨_,run_beginRound hla (by rw[hrec]),?_⟩;obtain⟨Wb,hWb⟩: ∃Wb,wa.putObj l (.loop {rec .ready none with state:= .busy})=Wb:=⟨_,rfl⟩
   have tb:uA w0.heap.size wa Wb:=by rw[<-hWb];exact uA.put hla (by show w0.heap.size<=w.heap.size+1;omega) (by show NG<=w.heap.size+1;omega) rfl rfl
   have hlt:=(aRC.1 hla).1;have other: ∀{W:pQ}{o o':Obj}{D:Nat},W.heap[l]? =some (.loop (rec .ready none))\/W.heap[l]? =some (.loop {rec .ready none with state:= .busy})->W.heap[D]? =some (.deferred (some []))->(W.putObj l o').heap[D]? =some (.deferred (some [])):=by
    intro W o o' D h1 h2;rw[World.putObj_heap_other (fun e=>by subst e;rcases h1 with h1|h1<;>(rw[h1] at h2;cases h2))]
    exact h2
   have invb:=inva.turn tb (inva.defs.same fun D hD=>by rw[<-hWb];exact other (o:= .loop (rec .ready none)) (.inl hla) hD);have hlb:Wb.heap[l]? =some (.loop {rec .ready none with state:= .busy}):=by rw[<-hWb];exact World.putObj_heap_same hlt
   have hkA: ∀D,V.heap.size<=D->D<W.heap.size->Wb.heap[D]? =W.heap[D]? :=fun D h1 h2=>by
    rw[<-hWb,World.putObj_heap_other pF];exact k2.fr.blk D h2 (hnoV D h1)
   rw[hWb];have gsb:=tH.start invb.heap hLget2 hLty;have rB:v8 W.heap.size g3 Wb ⟨E1 it,qM 0 (encH x),qY (encH x),s.N,np'⟩ a1:=⟨fun t=>BC (tb.le k1.heap.sl) (k1.env t),invb.heap,k1.size,k1.nb,k1.def_.same fun D hD=>by rw[<-hWb];exact other (o:= .loop (rec .ready none)) (.inl hla) hD,hlen x⟩;have hWW:W.heap.size<=Wb.heap.size:=aSe k2.fr.size tb.size;refine aST (evB (some l) rfl _ _ g3 Wb g3 a1 Wb _ hWW rB gsb hL'len.symm) fun e a2 wc hp=> ?_;obtain⟨e',g4,s4,e1,e2,e3,e4,e5⟩:=hp;have fin: ∀(kB:wK) (Bl:List q9),s4.keep kB=⟨[],qM 0 Bl,qY Bl,s.N,np'⟩->∀jump:Option Code,∃g5,BH B A L g0 w0 g w p.1 p.2 u.cells cs E0 a.tmps ds g5 (wc.putObj l (.loop (rec (if jump.isNone then .ready else .done) jump))) (qM 0 Bl)/\
     (∀j,qY Bl<=j->g5.J j=none/\∀n,g5.cur j n=none)/\np'<=qY Bl/\(wc.putObj l (.loop (rec (if jump.isNone then .ready else .done) jump))).heap[l]? =some (.loop (rec (if jump.isNone then .ready else .done) jump))/\
     (Instr.endRound l jump).run P wc= .ok (.bool jump.isNone) (wc.putObj l (.loop (rec (if jump.isNone then .ready else .done) jump)))/\
     ∀D,V.heap.size<=D->D<W.heap.size->(wc.putObj l (.loop (rec (if jump.isNone then .ready else .done) jump))).heap[D]? =W.heap[D]? :=by
    intro kB Bl hkB jump;obtain⟨g5,j1,j2,j3,_⟩:=E5 e3 e4 e5 kB;rw[hkB] at j1 j2;have invc:=invb.inner j2 j1.heap hpin hL'len.symm hlow (fun i hi b h=>hLget i b h);have hlc:=WC invb.heap j2 hlb rfl;have hltc:=(aRC.1 hlc).1;have tc:uA w0.heap.size wc (wc.putObj l (.loop (rec (if jump.isNone then .ready else .done) jump))):=uA.put hlc (by show w0.heap.size<=w.heap.size+1;omega) (by show NG<=w.heap.size+1;omega) rfl rfl;refine⟨g5,invc.turn tc (invc.defs.same fun D hD=>other (o:= .loop (rec .ready none)) (.inr hlc) hD),j1.nb,j1.np,World.putObj_heap_same hltc,?_,fun D h1 h2=> ?_⟩
    .have:=run_endRound (P:=P) jump hlc;rw[this,hrec]
    .rw[World.putObj_heap_other pF,j2.fr.blk D pF (fun o ⟨i,blk,h3,h4⟩=>by
      rcases k2.perm i blk D o h3 h4 with h5|h5
      .omega
      .exact hnoV D h1 o h5),hkA D h1 h2]
   rcases WD e1 with⟨rfl,rfl⟩ |⟨rfl,rfl⟩ |⟨id,rfl,rfl⟩
   .obtain⟨kB,x',rfl,hkB⟩:=e2;obtain⟨g5,q1,q2,q3,q4,q5,q7⟩:=fin kB _ hkB none;exact⟨_,_,q5,.inl ⟨rfl,g5,x',hinl x' rfl,q1,q2,q4⟩,q7⟩
   .obtain⟨kB,Bl,hkB,⟨z,rfl⟩,hq⟩:=e2;obtain⟨g5,q1,q2,q3,q4,q5,q7⟩:=fin kB _ hkB (some .ret);exact⟨_,_,q5,.inr ⟨rfl,g5,Bl,.ret,.ret,z,rfl,hinr z rfl,hq,q1,q2,aSe hnp q3,q4⟩,q7⟩
   .obtain⟨kB,Bl,hkB,⟨z,rfl⟩,hq⟩:=e2;obtain⟨g5,q1,q2,q3,q4,q5,q7⟩:=fin kB _ hkB (some (.exit id));exact⟨_,_,q5,.inr ⟨rfl,g5,Bl,.exit id,.exit id,z,rfl,hinr z rfl,hq,q1,q2,aSe hnp q3,q4⟩,q7⟩
  .exact e2.elim
  .exact e2.elim
 refine⟨l,[{target:= .collected w.heap.size,args:= #[]}],W1,{target:= .fn (.func gf) #[.pointer (some ⟨p.1,p.2,none⟩)],args:= #[.func (.yield l) #[] #[]]},W1,gf,#[.func (.yield l) #[] #[]]++ #[.pointer (some ⟨p.1,p.2,none⟩)],W1,?_,?_,fun _ _=>trivial,?_,fun h=>(by cases h),?_⟩
 .rw[<-hW1,hrec];exact run_enterLoop_outer _ _ _ _ _
 .simp only[resolve,hev];simp [go_sem]
 .simp [invoke,go_sem,hit.1]
 .have inv1:=inv0.turn t1 hd1;refine(a0V (ro:=none) (n:=0-1) (hit.2 l p.1 p.2 xc cs g w J Jx hpre hRc (fun i W ⟨g1,x,_,h2,_⟩=>⟨h2.rng,fun b o hb=>(h2.sld b o hb).2⟩) hJd hJxd (fun i W ⟨g1,x,_,h2,_⟩=>h2.heap.tab.1) hround2 W1 ⟨_,x0,hy,inv1,hr1.nb,hL1⟩)).mono ?_;have hend: ∀{W:pQ}{r:Loop},W.heap[l]? =some (.loop r)->∀{ds0:List Deferred},y9 B W ds0->y9 B (W.putObj l (.loop {r with state:= .exhausted})) ds0:=by
   intro W r h1 ds0 h2;refine h2.same fun D hD=> ?_;rw[World.putObj_heap_other (fun e=>by subst e;rw[h1] at hD;cases hD)];exact hD
  rintro e W2 ⟨⟨v,rfl⟩,(⟨g1,x,h1,h2,h3,h4⟩ |⟨g1,Bl,e,cd,z,h1,h2,h3,h4,h5,h6,h7⟩)⟩
  .rw[aSh] at h1;have hyx:y= .inl x:=(aRi h1).symm;have hin:=h2.turn (uA.put (o':= .loop {rec .ready none with state:= .exhausted}) h4 (by show w0.heap.size<=w.heap.size+1;omega) (by show NG<=w.heap.size+1;omega) rfl rfl) (hend h4 h2.defs)
   refine⟨none,W2.putObj l (.loop {rec .ready none with state:= .exhausted}),by have:=run_endLoop (P:=P) h4 (by rw[hrec];simp);rw[hrec] at this|-;exact this,?_⟩
   refine⟨.normal,g1,_,rfl,hdone x hyx,⟨hin.env,hin.heap,hr.size,h3,?_,aSe hnp (hlen x)⟩,hin.good,hn⟩;have:=hin.defs;rw[<-hds] at this;exact this
  .have hin:=h4.turn (uA.put (o':= .loop {rec .done (some cd) with state:= .exhausted}) h7 (by show w0.heap.size<=w.heap.size+1;omega) (by show NG<=w.heap.size+1;omega) rfl rfl) (hend h7 h4.defs)
   refine⟨some cd,W2.putObj l (.loop {rec .done (some cd) with state:= .exhausted}),by have:=run_endLoop (P:=P) h7 (by rw[hrec];simp);rw[hrec] at this|-;exact this,?_⟩
   have hdef:=hin.defs;rw[<-hds] at hdef;have hrel:v8 B g1 (W2.putObj l (.loop {rec .done (some cd) with state:= .exhausted})) ⟨E0,qM 0 Bl,qY Bl,s.N,s.np⟩ {a with defers:=[{target:= .collected w.heap.size,args:= #[]}]++a.defers}:=⟨hin.env,hin.heap,hr.size,h5,hdef,h6⟩
   cases e with
   |normal=>cases h1
   |ret=>
    obtain rfl:=aRi h1;exact wpIn_ret ⟨.ret,g1,_,rfl,h3,hrel,hin.good,hn⟩
   |exit id=>
    obtain rfl:=aRi h1;exact wpIn_exit ⟨.exit id,g1,_,rfl,h3,hrel,hin.good,hn⟩
theorem aKX {P:Program}{gf:Nat}{ι:Type}{pre:pC->Prop}{items:pC->List ι}{vl:ι->pM}(hit:WB P gf .str pre items vl) {sl:ι->List qB}(hsl: ∀it g w,vL g w (sl it) (vl it))
  {fo:Operand}{ps:Array Tmp}{assign body:Code}{s:St}{Q:Ex->St->Prop}{c:Nat}{k0:pO}(hf:uF s.env fo=(.val .clo (some (gf,[(c,0)])),k0)) {xc:pC}{toks:pK}(hc:qD s.H c=some (.cells .str xc toks)) (hpre:pre xc)
  {σ ρ:Type}{f:ι->σ->Option (σ⊕ρ)}{x0:σ}{y:σ⊕ρ}(hy:zC f (items xc) x0=some y)
  (E0:List (Nat×qB)) (E1:ι->List (Nat×qB)) (encH:σ->List q9) (encA:ι->σ->List q9) (np':Nat) (k:wK) (hk:xQ s.np k.ids=true) (h0:s.keep k=⟨E0,qM 0 (encH x0),qY (encH x0),s.N,s.np⟩)
  (hcN:c<s.np) {toksK:pK}(hcK: ∀x,qD (qM 0 (encH x)) c=some (.cells .str xc toksK)) (hpin:KO np' E0=true) (hnp:s.np<=np') (hlen: ∀x,np'<=qY (encH x)) (hdead: ∀x,((encH x).take np').all (fun b=>match b with| .dead=>false|_=>true)=true)
  (hA: ∀it x,(encA it x).take np'=(encH x).take np') (hlenA: ∀it x,np'<=qY (encA it x))
  (hps: ∀it,ps.toList.length=(sl it).length) (hpN:(ps.toList.all fun p=>decide (p<s.N))=true)
  (hround: ∀it x w,f it x=some w->(∀z,w= .inr z->y= .inr z)->Ev true P assign ⟨IM E0 ps.toList (sl it),qM 0 (encH x),qY (encH x),s.N,np'⟩ (qA ⟨E1 it,qM 0 (encA it x),qY (encA it x),s.N,np'⟩)/\
   Ev true P body ⟨E1 it,qM 0 (encA it x),qY (encA it x),s.N,np'⟩ (qF encH E0 s.N s.np np' w Q))
  (hdone: ∀x,y= .inl x->Q .normal ⟨E0,qM 0 (encH x),qY (encH x),s.N,s.np⟩):Ev false P (.rangeFunc fo ps assign body) s Q:=by
 intro ro hro A L g0 w0 g a w B hB hr hg hn;have hN:ro=none:=by cases ro<;>first|rfl|cases hro
 subst hN;have hfv:=zR hr.env fo;rw[hf] at hfv;obtain⟨p,hpJ,hev⟩: ∃p,g.J c=some p/\a.eval fo= .func (.func gf) #[] #[.pointer (some ⟨p.1,p.2,none⟩)]:=by
  rcases hfv.1 with⟨h1,_⟩ |⟨_,vs,⟨p,vs',h4,h5,h6⟩,h3⟩
  .cases h1
  .rw[show vs'=[] from h6] at h5;subst h5;simp only[aSc,and_true] at h3;exact⟨p,h4,h3⟩
 obtain⟨p',cs,hp',hRc,hra,hth,hns,htk⟩:=hr.heap.blk c _ hc;rw[hpJ] at hp';obtain rfl:=aRi hp';obtain⟨hr1,hg1,hn1,_⟩:=VN hr hg hn k hk;rw[h0] at hr1 hg1;have inv0:BH B A L g0 w0 g w 0 0 0 [] E0 a.tmps a.defers (uT g s.np k.ids) w (qM 0 (encH x0)):=
  ⟨hr1.env,hr1.heap,hg1,fun b o h=>⟨h,rfl⟩,fun j v h=>by simp at h,rfl,fun h=>absurd h pF,fun o h1 h2=>by omega,hr1.def_⟩
 have hpJ1:(uT g s.np k.ids).J c=some p:=by
  show (if c<s.np then g.J c else _)=_;rw[aRf hcN];exact hpJ
 have hrng: ∀{g1:Gh}{W:pQ}{Hx:s7},sE g1 W Hx->qD Hx c=some (.cells .str xc toksK)->g1.J c=some p->W.rangeAt p.1 p.2 cs:=fun h h1 h2=>by
  obtain⟨p2,cs2,h3,h4,h5,_⟩:=h.blk c _ h1;rw[h2] at h3;obtain rfl:=aRi h3;rw[show cs=[.string ⟨List.toArray xc⟩] from hRc,<-show cs2=[.string ⟨List.toArray xc⟩] from h4];exact h5
 have hNG:NG<=w.heap.size:=hr.heap.tab.1.1;have hBw:w0.heap.size<=w.heap.size:=hg.fr.size;refine wpIn_rangeFunc fun fn _=> ?_;obtain⟨rec,hrec⟩: ∃rec:LoopState->Option Code->Loop,rec=fun st pe=>{state:=st,pending:=pe,fn,tmps:=a.tmps,params:=ps,assign,body,defers:=w.heap.size}:=⟨_,rfl⟩;obtain⟨W1,hW1⟩: ∃W1,(w.alloc (.deferred (some []))).alloc (.loop (rec .ready none))=W1:=⟨_,rfl⟩;have hL1:W1.heap[w.heap.size+1]? =some (.loop (rec .ready none)):=by
  rw[<-hW1];have:=World.alloc_heap_new (w.alloc (.deferred (some []))) (.loop (rec .ready none));rwa [World.size_alloc] at this
 have hK1:W1.heap[w.heap.size]? =some (.deferred (some [])):=by
  rw[<-hW1];exact(aRN _ _ _ pH).trans (World.alloc_heap_new w _)
 have t1:uA w0.heap.size w W1:=by rw[<-hW1];exact(uA.new _ _ _).trans (uA.new _ _ _)
 obtain⟨ds,hds⟩: ∃ds:List Deferred,{target:= .collected w.heap.size,args:= #[]}::a.defers=ds:=⟨_,rfl⟩;have hd1:y9 B W1 ds:=by
  rw[<-hds];refine⟨List.nodup_cons.2 ⟨fun hm=> ?_,hr.def_.1⟩,fun d hd=> ?_⟩
  .obtain⟨D,h1,_,_,h4⟩:=hr.def_.2 _ hm;have h5:w.heap.size=D:=by injection h1 with h1;injection h1
   have:=(aRC.1 h4).1;omega
  .rcases aRu.1 hd with rfl|hd
   .exact⟨_,rfl,pF,hNG,hK1⟩
   .obtain⟨D,h1,h2,h3,h4⟩:=hr.def_.2 _ hd;have hlt:=(aRC.1 h4).1;refine⟨D,h1,h2,h3,?_⟩;rw[<-hW1];exact(aRN _ _ D pI).trans ((aRN _ _ D hlt).trans h4)
 let l:=w.heap.size+1
 let J:Nat->pQ->Prop:=fun i W=> ∃g1 x,zC f ((items xc).drop i) x=some y/\BH B A L g0 w0 g w 0 0 0 [] E0 a.tmps ds g1 W (qM 0 (encH x))/\
  (∀j,qY (encH x)<=j->g1.J j=none/\∀n,g1.cur j n=none)/\W.heap[l]? =some (.loop (rec .ready none))/\g1.J c=some p
 let Jx:pQ->Prop:=fun W=> ∃g1 Bl e cd z,aCb e=some cd/\y= .inr z/\Q e ⟨E0,qM 0 Bl,qY Bl,s.N,s.np⟩/\BH B A L g0 w0 g w 0 0 0 [] E0 a.tmps ds g1 W (qM 0 Bl)/\
  (∀j,qY Bl<=j->g1.J j=none/\∀n,g1.cur j n=none)/\s.np<=qY Bl/\W.heap[l]? =some (.loop (rec .done (some cd)))
 have tbel: ∀{W W':pQ},Below W.heap.size W W'->uA w0.heap.size W W':=fun hb=>⟨hb.os,hb.tape,hb.output,hb.size,fun b h=> .inl (hb.block b h)⟩;have hob: ∀{W W':pQ}{D:Nat}{ob:Obj},Below W.heap.size W W'->W.heap[D]? =some ob->W'.heap[D]? =some ob:=fun hb h=>(hb.block _ (aRC.1 h).1).trans h;have hJd: ∀i W W',J i W->Below W.heap.size W W'->J i W':=fun i W W' ⟨g1,x,h1,h2,h3,h4,h5⟩ hb=>⟨g1,x,h1,h2.turn (tbel hb) (h2.defs.same fun _ h=>hob hb h),h3,hob hb h4,h5⟩;have hJxd: ∀W W',Jx W->Below W.heap.size W W'->Jx W':=fun W W' ⟨g1,Bl,e,cd,z,h1,h2,h3,h4,h5,h6,h7⟩ hb=>⟨g1,Bl,e,cd,z,h1,h2,h3,h4.turn (tbel hb) (h4.defs.same fun _ h=>hob hb h),h5,h6,hob hb h7⟩;have hround2: ∀i it V W,(items xc)[i]? =some it->J i V->Below V.heap.size V W->YieldAt Fence.wide 0 P l (vl it).toArray W fun e W'=>((e= .returned (.bool true)/\J (i+1) W')\/(e= .returned (.bool false)/\Jx W'))/\
   ∀D,V.heap.size<=D->D<W.heap.size->W'.heap[D]? =W.heap[D]? :=by
  rintro i it V W hi ⟨g1,x,hfold,invV,nb,hlV,hgc⟩ hbel;have inv:=invV.turn (tbel hbel) (invV.defs.same fun _ h=>hob hbel h);have hl:=hob hbel hlV;have hVl:l<V.heap.size:=(aRC.1 hlV).1;have hnoV: ∀D,V.heap.size<=D->∀o,¬y8 g1 (qM 0 (encH x)) D o:=fun D hD o ⟨i,blk,h1,h2⟩=>by
   have:=KC (invV.heap.blk i blk h1) h2;omega
  have hil:i<(items xc).length:=(aRs.1 hi).1;have hdrop:(items xc).drop i=it::(items xc).drop (i+1):=by
   rw[aRW hil];congr 1;exact(aRs.1 hi).2
  rw[hdrop] at hfold;obtain⟨wv,hw,hinl,hinr⟩:=aCa hfold;obtain⟨evA,evB⟩:=hround it x wv hw hinr;have hvl:(vl it).toArray.size=ps.size:=by
   rw[aR7,(QC (hsl it g1 W)).1,<-hps it,aRQ]
  have hyl:=run_yield (P:=P) (args:=(vl it).toArray) hl (by rw[hrec];exact hvl);rw[hrec] at hyl;refine⟨fn,_,assign,body,hyl,roundIn_of_wpIn trivial ?_⟩;have hz:(ps.zip (vl it).toArray).foldl (fun tmps (t,v)=>tmps.setIfInBounds t v) a.tmps=(ps.toList.zip (vl it)).foldl (fun t (q:Nat×pR)=>t.setIfInBounds q.1 q.2) a.tmps:=by
   rw[<-aS2,Array.toList_zip]
  rw[hz];obtain⟨henv,hsz⟩:=a1u inv.env (fun q hq=>by rw[hr.size];exact aRU (aRX.1 hpN q hq)) (hsl it g1 W) (hps it);have hL'len:((encH x).take np').length=np':=by
   rw[aRD];have:=hlen x;rw[QD] at this;omega
  have hLget: ∀i b,((encH x).take np')[i]? =some b->qD (qM 0 (encH x)) i=some b:=fun i b h=>by
   rw[x9];exact(aSj (by have:=(aRs.1 h).1;omega)).symm.trans h
  have hLget2: ∀i b,((encH x).take np')[i]? =some b->qD (qM 0 (encH x)) i=some b/\b≠.dead:=fun i b h=>⟨hLget i b h,fun e=>by
   have:=aRX.1 (hdead x) b (List.mem_of_getElem? h);subst e;cases this⟩
  have hLty: ∀i,i<((encH x).take np').length->∀b,qD (qM 0 (encH x)) i=some b->((encH x).take np')[i]? =some b:=fun i hi b h=>by
   rw[x9] at h;exact(aSj pF).trans h
  have gs:=tH.start inv.heap hLget2 hLty;have rA:v8 W.heap.size g1 W ⟨IM E0 ps.toList (sl it),qM 0 (encH x),qY (encH x),s.N,np'⟩ {tmps:=(ps.toList.zip (vl it)).foldl (fun t (q:Nat×pR)=>t.setIfInBounds q.1 q.2) a.tmps,defers:=[]}:=⟨henv,inv.heap,hsz.trans hr.size,nb,a0L _ _,hlen x⟩;have hlow:L.length<=((encH x).take np').length:=by rw[hL'len,<-hn];exact hnp
  refine aST (evA (some l) rfl _ _ g1 W g1 _ W _ (aRE _) rA gs hL'len.symm) fun e a1 wa hp=> ?_;obtain⟨e',g2,s2,e1,e2,e3,e4,e5⟩:=hp;rcases WD e1 with⟨rfl,rfl⟩ |⟨rfl,rfl⟩ |⟨id,rfl,rfl⟩
  .obtain⟨kA,hkA⟩:=e2;obtain⟨g3,k1,k2,k3,_⟩:=E5 e3 e4 e5 kA;rw[hkA] at k1 k2;have inva:=inv.inner k2 k1.heap hpin hL'len.symm hlow (fun i hi b h=>hLget i b h);have hla:=WC inv.heap k2 hl rfl;refine⟨_,run_beginRound hla (by rw[hrec]),?_⟩;obtain⟨Wb,hWb⟩: ∃Wb,wa.putObj l (.loop {rec .ready none with state:= .busy})=Wb:=⟨_,rfl⟩
   have tb:uA w0.heap.size wa Wb:=by rw[<-hWb];exact uA.put hla (by show w0.heap.size<=w.heap.size+1;omega) (by show NG<=w.heap.size+1;omega) rfl rfl
   have hlt:=(aRC.1 hla).1;have other: ∀{W:pQ}{o o':Obj}{D:Nat},W.heap[l]? =some (.loop (rec .ready none))\/W.heap[l]? =some (.loop {rec .ready none with state:= .busy})->W.heap[D]? =some (.deferred (some []))->(W.putObj l o').heap[D]? =some (.deferred (some [])):=by
    intro W o o' D h1 h2;rw[World.putObj_heap_other (fun e=>by subst e;rcases h1 with h1|h1<;>(rw[h1] at h2;cases h2))]
    exact h2
   have invb:=inva.turn tb (inva.defs.same fun D hD=>by rw[<-hWb];exact other (o:= .loop (rec .ready none)) (.inl hla) hD);have hlb:Wb.heap[l]? =some (.loop {rec .ready none with state:= .busy}):=by rw[<-hWb];exact World.putObj_heap_same hlt
   have hkA: ∀D,V.heap.size<=D->D<W.heap.size->Wb.heap[D]? =W.heap[D]? :=fun D h1 h2=>by
    rw[<-hWb,World.putObj_heap_other pF];exact k2.fr.blk D h2 (hnoV D h1)
   rw[hWb];have hAg: ∀i,i<np'->qD (qM 0 (encA it x)) i=qD (qM 0 (encH x)) i:=fun i hi=>by
    rw[x9,x9,<-aSj hi,hA it x,aSj hi]
   have hltL: ∀i b,((encH x).take np')[i]? =some b->i<np':=fun i b h=>by
    have:=(aRs.1 h).1;omega
   have gsb:=tH.start invb.heap (fun i b h=>by rw[hAg i (hltL i b h)];exact hLget2 i b h) (fun i hi b h=>hLty i hi b (by rw[<-hAg i pF];exact h));have rB:v8 W.heap.size g3 Wb ⟨E1 it,qM 0 (encA it x),qY (encA it x),s.N,np'⟩ a1:=⟨fun t=>BC (tb.le k1.heap.sl) (k1.env t),invb.heap,k1.size,k1.nb,k1.def_.same fun D hD=>by rw[<-hWb];exact other (o:= .loop (rec .ready none)) (.inl hla) hD,hlenA it x⟩;have hWW:W.heap.size<=Wb.heap.size:=aSe k2.fr.size tb.size;refine aST (evB (some l) rfl _ _ g3 Wb g3 a1 Wb _ hWW rB gsb hL'len.symm) fun e a2 wc hp=> ?_;obtain⟨e',g4,s4,e1,e2,e3,e4,e5⟩:=hp;have fin: ∀(kB:wK) (Bl:List q9),s4.keep kB=⟨[],qM 0 Bl,qY Bl,s.N,np'⟩->∀jump:Option Code,∃g5,BH B A L g0 w0 g w 0 0 0 [] E0 a.tmps ds g5 (wc.putObj l (.loop (rec (if jump.isNone then .ready else .done) jump))) (qM 0 Bl)/\
     (∀j,qY Bl<=j->g5.J j=none/\∀n,g5.cur j n=none)/\np'<=qY Bl/\(wc.putObj l (.loop (rec (if jump.isNone then .ready else .done) jump))).heap[l]? =some (.loop (rec (if jump.isNone then .ready else .done) jump))/\
     (Instr.endRound l jump).run P wc= .ok (.bool jump.isNone) (wc.putObj l (.loop (rec (if jump.isNone then .ready else .done) jump)))/\g5.J c=some p/\
     ∀D,V.heap.size<=D->D<W.heap.size->(wc.putObj l (.loop (rec (if jump.isNone then .ready else .done) jump))).heap[D]? =W.heap[D]? :=by
    intro kB Bl hkB jump;obtain⟨g5,j1,j2,j3,_⟩:=E5 e3 e4 e5 kB;rw[hkB] at j1 j2;have invc:=invb.inner j2 j1.heap hpin hL'len.symm hlow (fun i hi b h=>by rw[hAg i pF];exact hLget i b h);have hlc:=WC invb.heap j2 hlb rfl;have hltc:=(aRC.1 hlc).1;have tc:uA w0.heap.size wc (wc.putObj l (.loop (rec (if jump.isNone then .ready else .done) jump))):=uA.put hlc (by show w0.heap.size<=w.heap.size+1;omega) (by show NG<=w.heap.size+1;omega) rfl rfl;refine⟨g5,invc.turn tc (invc.defs.same fun D hD=>other (o:= .loop (rec .ready none)) (.inr hlc) hD),j1.nb,j1.np,World.putObj_heap_same hltc,?_,j2.J c p pF (k2.J c p pF hgc),fun D h1 h2=> ?_⟩
    .have:=run_endRound (P:=P) jump hlc;rw[this,hrec]
    .rw[World.putObj_heap_other pF,j2.fr.blk D pF (fun o ⟨i,blk,h3,h4⟩=>by
      rcases k2.perm i blk D o h3 h4 with h5|h5
      .omega
      .exact hnoV D h1 o h5),hkA D h1 h2]
   rcases WD e1 with⟨rfl,rfl⟩ |⟨rfl,rfl⟩ |⟨id,rfl,rfl⟩
   .obtain⟨kB,x',rfl,hkB⟩:=e2;obtain⟨g5,q1,q2,q3,q4,q5,q6,q7⟩:=fin kB _ hkB none;exact⟨_,_,q5,.inl ⟨rfl,g5,x',hinl x' rfl,q1,q2,q4,q6⟩,q7⟩
   .obtain⟨kB,Bl,hkB,⟨z,rfl⟩,hq⟩:=e2;obtain⟨g5,q1,q2,q3,q4,q5,q6,q7⟩:=fin kB _ hkB (some .ret);exact⟨_,_,q5,.inr ⟨rfl,g5,Bl,.ret,.ret,z,rfl,hinr z rfl,hq,q1,q2,aSe hnp q3,q4⟩,q7⟩
   .obtain⟨kB,Bl,hkB,⟨z,rfl⟩,hq⟩:=e2;obtain⟨g5,q1,q2,q3,q4,q5,q6,q7⟩:=fin kB _ hkB (some (.exit id));exact⟨_,_,q5,.inr ⟨rfl,g5,Bl,.exit id,.exit id,z,rfl,hinr z rfl,hq,q1,q2,aSe hnp q3,q4⟩,q7⟩
  .exact e2.elim
  .exact e2.elim
 refine⟨l,[{target:= .collected w.heap.size,args:= #[]}],W1,{target:= .fn (.func gf) #[.pointer (some ⟨p.1,p.2,none⟩)],args:= #[.func (.yield l) #[] #[]]},W1,gf,#[.func (.yield l) #[] #[]]++ #[.pointer (some ⟨p.1,p.2,none⟩)],W1,?_,?_,fun _ _=>trivial,?_,fun h=>(by cases h),?_⟩
 .rw[<-hW1,hrec];exact run_enterLoop_outer _ _ _ _ _
 .simp only[resolve,hev];simp [go_sem]
 .simp [invoke,go_sem,hit.1]
 .have inv1:=inv0.turn t1 hd1;refine(a0V (ro:=none) (n:=0-1) (hit.2 l p.1 p.2 xc cs g w J Jx hpre hRc (fun i W ⟨g1,x,_,h2,_,_,h5⟩=>⟨hrng h2.heap (hcK x) h5,fun b o hb=>(h2.sld b o hb).2⟩) hJd hJxd (fun i W ⟨g1,x,_,h2,_⟩=>h2.heap.tab.1) hround2 W1 ⟨_,x0,hy,inv1,hr1.nb,hL1,hpJ1⟩)).mono ?_;have hend: ∀{W:pQ}{r:Loop},W.heap[l]? =some (.loop r)->∀{ds0:List Deferred},y9 B W ds0->y9 B (W.putObj l (.loop {r with state:= .exhausted})) ds0:=by
   intro W r h1 ds0 h2;refine h2.same fun D hD=> ?_;rw[World.putObj_heap_other (fun e=>by subst e;rw[h1] at hD;cases hD)];exact hD
  rintro e W2 ⟨⟨v,rfl⟩,(⟨g1,x,h1,h2,h3,h4,_⟩ |⟨g1,Bl,e,cd,z,h1,h2,h3,h4,h5,h6,h7⟩)⟩
  .rw[aSh] at h1;have hyx:y= .inl x:=(aRi h1).symm;have hin:=h2.turn (uA.put (o':= .loop {rec .ready none with state:= .exhausted}) h4 (by show w0.heap.size<=w.heap.size+1;omega) (by show NG<=w.heap.size+1;omega) rfl rfl) (hend h4 h2.defs)
   refine⟨none,W2.putObj l (.loop {rec .ready none with state:= .exhausted}),by have:=run_endLoop (P:=P) h4 (by rw[hrec];simp);rw[hrec] at this|-;exact this,?_⟩
   refine⟨.normal,g1,_,rfl,hdone x hyx,⟨hin.env,hin.heap,hr.size,h3,?_,aSe hnp (hlen x)⟩,hin.good,hn⟩;have:=hin.defs;rw[<-hds] at this;exact this
  .have hin:=h4.turn (uA.put (o':= .loop {rec .done (some cd) with state:= .exhausted}) h7 (by show w0.heap.size<=w.heap.size+1;omega) (by show NG<=w.heap.size+1;omega) rfl rfl) (hend h7 h4.defs)
   refine⟨some cd,W2.putObj l (.loop {rec .done (some cd) with state:= .exhausted}),by have:=run_endLoop (P:=P) h7 (by rw[hrec];simp);rw[hrec] at this|-;exact this,?_⟩
   have hdef:=hin.defs;rw[<-hds] at hdef;have hrel:v8 B g1 (W2.putObj l (.loop {rec .done (some cd) with state:= .exhausted})) ⟨E0,qM 0 Bl,qY Bl,s.N,s.np⟩ {a with defers:=[{target:= .collected w.heap.size,args:= #[]}]++a.defers}:=⟨hin.env,hin.heap,hr.size,h5,hdef,h6⟩
   cases e with
   |normal=>cases h1
   |ret=>
    obtain rfl:=aRi h1;exact wpIn_ret ⟨.ret,g1,_,rfl,h3,hrel,hin.good,hn⟩
   |exit id=>
    obtain rfl:=aRi h1;exact wpIn_exit ⟨.exit id,g1,_,rfl,h3,hrel,hin.good,hn⟩
section
variable {σ ρ:Type}{encH:σ->List q9}{E0:List (Nat×qB)}{N np np':Nat}{w:σ⊕ρ}{Q:Ex->St->Prop}{st s:St}
theorem aCc (k:wK) (h:s.keep k=st):qA st .normal s:=⟨k,h⟩
theorem aCd (k:wK) (x:σ) (hw:w= .inl x) (h:s.keep k=⟨[],qM 0 (encH x),qY (encH x),N,np'⟩):qF encH E0 N np np' w Q .normal s:=⟨k,x,hw,h⟩
end
end Go.Proofs.YtkpflnijijccpaaGreatDoor.Vc
namespace Go.Proofs.YtkpflnijijccpaaGreatDoor
open Go.RowKit Go.Shelf Vc
section
attribute [local go_sem] Oper.semAt_some
def CH (d:(Ty.pair .str (.pair (.list .str) (.pair .str .unit))).den):List (Int×pC):=
 (0,d.1)::((List.range d.2.1.length).map fun j:Nat=>((j:Int)+1,d.2.1.getD j []))++[((d.2.1.length:Int)+1,d.2.2.1)]
def QO (it:Int×pC):pM:=[.int .i64 it.1,.string ⟨it.2.toArray⟩]
@[go_sem] def aCe (it:Int×pC):List qB:=[(.val (.int .i64) it.1,none),(.val .str it.2,none)]
theorem aKY (it:Int×pC) (g:Gh) (w:pQ):vL g w (aCe it) (QO it):=⟨_,_,rfl,⟨wN _ _ _ _,trivial⟩,_,_,rfl,⟨BD _ _ _,trivial⟩,rfl⟩
theorem aKZ (d:(Ty.pair .str (.pair (.list .str) (.pair .str .unit))).den):(CH d).length=d.2.1.length+2:=by simp [CH]
theorem aK0 (d:(Ty.pair .str (.pair (.list .str) (.pair .str .unit))).den):(CH d)[0]? =some (0,d.1):=by simp [CH]
theorem aK1 (d:(Ty.pair .str (.pair (.list .str) (.pair .str .unit))).den) {j:Nat}(h:j<d.2.1.length):(CH d)[j+1]? =some ((j:Int)+1,d.2.1.getD j []):=by
 simp [CH,aRz,h]
theorem aK2 (d:(Ty.pair .str (.pair (.list .str) (.pair .str .unit))).den):(CH d)[d.2.1.length+1]? =some ((d.2.1.length:Int)+1,d.2.2.1):=by
 simp [CH]
theorem aK3:WB Tryz.prog 57 (.pair .str (.pair (.list .str) (.pair .str .unit))) (fun d=>d.2.1.length<=4611686018427387904) CH QO:=by
 refine⟨fun _ _=>rfl,?_⟩;intro l b o d cs g W0 J Jx hpre hR hrd hJd hJxd hJt hY W h0;replace hY:=fun i it W h1 h2=>aKV (hY i it W W h1 h2 (Below.refl _ _)) (R':=fun e W'=>(e= .returned (.bool true)/\J (i+1) W')\/(e= .returned (.bool false)/\Jx W')) (fun _ _ h=>h.1);obtain⟨c1,c2,rfl,hh,c3,c4,rfl,hl,c5,c6,rfl,ht,hu⟩:=hR;rw[show c1=[.string ⟨d.1.toArray⟩] from hh] at hrd;rw[show c5=[.string ⟨d.2.2.1.toArray⟩] from ht,show c6=[] from hu] at hrd;obtain⟨a,cap,rfl,hcap,hel⟩:=hl;have r0: ∀i W,J i W->W.cell? ⟨b,o,none⟩=some (.string ⟨d.1.toArray⟩):=fun i W h=>by simpa using(hrd i W h).1 0 _ rfl
 have r1: ∀i W,J i W->W.cell? ⟨b,o+1,none⟩=some (.slice a d.2.1.length cap):=fun i W h=>(hrd i W h).1 1 _ rfl;have r2: ∀i W,J i W->W.cell? ⟨b,o+2,none⟩=some (.string ⟨d.2.2.1.toArray⟩):=fun i W h=>(hrd i W h).1 2 _ rfl;have re: ∀j,j<d.2.1.length->∃b' o',a=some ⟨b',o',none⟩/\∀i W,J i W->W.cell? ⟨b',o'+j,none⟩=some (.string ⟨(d.2.1.getD j []).toArray⟩):=by
  intro j hj;rcases hel with h|⟨b',o',h1,h2⟩
  .rw[h] at hj;cases hj
  .refine⟨b',o',h1,fun i W h=> ?_⟩;have hg:d.2.1[j]? =some (d.2.1.getD j []):=by rw[aRO,aRr hj];rfl
   obtain⟨cs,k1,k2,k3,k4⟩:=MR h2 hg;rw[show cs=[.string ⟨(d.2.1.getD j []).toArray⟩] from k4] at k2;have k5:=k2 0 _ rfl;have k6:=k3 0 pG;rw[aSg,show j*Ty.str.cells=j from aS3 j] at k5 k6;rw[(hrd i W h).2 _ _ k6];exact k5
 have q0:=aK0 d;have qm:=fun j=>aK1 d (j:=j);have ql:=aK2 d;have qn:=aKZ d;generalize hn:d.2.1.length=n at*;refine(callsIn_wide (n:=0)).1 (callsIn_of_wp Tryz.func57 rfl trivial ?_);simp only[Tryz.ntmps57,aR7,aRj,aRq,Nat.reduceAdd,Nat.reduceSub,Array.replicate_succ,Array.replicate_zero,List.push_toArray,List.append_toArray,List.nil_append,List.cons_append];have c0:=r0 0 W h0;obtain⟨fn,tmps,assign,body,hy,hQ⟩:=hY 0 _ W q0 h0;dsimp only[QO] at hy
 gi_wp2
 refine⟨rfl,hQ.mono ?_⟩;clear hQ hy;rintro e W1 (⟨rfl,hJ1⟩ |⟨rfl,hJx⟩)
 .have s1:=r1 _ W1 hJ1
  gi_wp2
  gi_loopw [13] (fun i wr=> ∃k:Nat,k<=n/\i= .int .i64 k/\J (k+1) wr) (fun i _=>n- (RowKit.intOf i).toNat)
  case atStart=>exact⟨0,aSo _,rfl,hJ1⟩
  case round=>
   obtain⟨k,hk,rfl,hJs⟩:=hrel;by_cases hlt:k<n
   .obtain⟨b',o',rfl,hce⟩:=re k hlt;have hc':=hce _ _ hJs;have hq:=qm k hlt;clear re qm ql q0 hce;generalize d.2.1.getD k []=x at hc' hq;obtain⟨fn,tmps,assign,body,hy,hQ⟩:=hY _ _ wr hq hJs;dsimp only[QO] at hy
    gi_wp2
    refine⟨rfl,hQ.mono ?_⟩;clear hQ hy;rintro e W2 (⟨rfl,hJ2⟩ |⟨rfl,hJx⟩)
    .gi_wp2
     go_roundw
     case rel=>exact⟨k+1,pF,by simp,hJ2⟩
     case measure=>
      show n- (k+1)<n-k;omega
    .gi_wp2
     refine bodyPost_ret (results_none rfl _ _ _) rfl ?_;exact⟨⟨_,rfl⟩,.inr hJx⟩
   .obtain rfl:k=n:=by omega
    have s1:=r1 _ _ hJs;have s2:=r2 _ _ hJs;obtain⟨fn,tmps,assign,body,hy,hQ⟩:=hY _ _ wr ql hJs;dsimp only[QO] at hy
    gi_wp2
    refine⟨rfl,hQ.mono ?_⟩;clear hQ hy;rintro e W2 (⟨rfl,hJ2⟩ |⟨rfl,hJx⟩)
    .gi_wp2
     go_end0
     exact⟨⟨_,rfl⟩,.inl (by rw[qn];exact hJ2)⟩
    .gi_wp2
     go_end0
     exact⟨⟨_,rfl⟩,.inr hJx⟩
 .gi_wp2
  refine bodyPost_ret (results_none rfl _ _ _) rfl ?_;exact⟨⟨_,rfl⟩,.inr hJx⟩
theorem WE: ∀(s:pC) (c:UInt8),Lib.indexByte s c<s.length/\ -1<=Lib.indexByte s c
 |[],_=>by simp [Lib.indexByte]
 |b::l,c=>by
  have:=WE l c;unfold Lib.indexByte;split
  .simp
  .split
   .simp;omega
   .simp only[aRj];omega
theorem aK4 (l:pC) (m n:Nat):(⟨l.toArray⟩:ByteArray).extract m n=⟨((l.drop m).take (n-m)).toArray⟩:=by
 apply ByteArray.ext;apply aSp.1;simp
end
end Go.Proofs.YtkpflnijijccpaaGreatDoor
namespace Go.Proofs.YtkpflnijijccpaaGreatDoor
open Vc Go.RowKit
def GM (g:Gh) (k n:Nat) (v:pR):Gh:={g with cur:=fun i m=>if i=k then(if m=n then some v else none) else g.cur i m}
theorem D9 (g:Gh) (k n:Nat) (v:pR):(GM g k n v).cur k n=some v:=by simp [GM]
theorem a1v (g:Gh) (k n:Nat) (v:pR) {m:Nat}(h:n<m):(GM g k n v).cur k m=none:=by
 simp only[GM,aSU];rw[aRk pF]
theorem aK5 {g:Gh}{w w':pQ}{e:TypeId}{l l':pD}{n m b cap:Nat}{cur':Array pR}{side:List Prop}
  (hH:sE g w (qM 0 [.row e .str l n])) (hcur:g.cur 0 n=some (.slice (some ⟨b,0,none⟩) n cap))
  (hcm:cap<=maxLen) (hmc:m<=cap) (hl':l'.length=m)
  (hnew:w'.heap[b]? =some (.cells cur' e (0,0))) (hcs':cur'.size=cap) (htk:cur'.toList.take m=l'.map Go.Proofs.encStr) (hgr:w.grownBy w' (some b)):
  ∃g',E4 g w [.row e .str l n] ⟨side,[(.own 1 m,none)],[.dead,.row e .str l' m]⟩ g' w' (.slice (some ⟨b,0,none⟩) m cap):=by
 have hg0:qD (qM 0 [q9.row e .str l n]) 0=some (.row e .str l n):=rfl;obtain⟨hl,v,xs,hc2,hown,hF,hnone,hseal⟩:=hH.blk 0 _ hg0;rw[hcur] at hc2;obtain rfl:=aRi hc2;have hb0: ∀o,y8 g (qM 0 [q9.row e .str l n]) b o:=fun o=>⟨0,_,hg0,_,hcur,rfl⟩;have hNG:NG<=b:=hH.tab.2 0 _ b 0 hg0 ⟨_,hcur,rfl⟩;have hS: ∀b' o,g.S b' o->b'≠b:=fun b' o h e1=>hseal b rfl o (e1▸h);have hcell: ∀b' o,g.S b' o->w'.cell? ⟨b',o,none⟩=w.cell? ⟨b',o,none⟩:=fun b' o h=>aRH (a:=⟨b',o,none⟩) (hgr.block b' (hH.sl b' o h) (fun e1=>hS b' o h (aRi e1)));refine⟨GM g 1 m (.slice (some ⟨b,0,none⟩) m cap),fun b' o h=>⟨h,hcell b' o h⟩,⟨fun i blk h=> ?_,fun i j bi bj b' o hij hi hj ho hp=> ?_,fun b' o h=>aRT (hH.sl b' o h) hgr.size,JS hH.tab.1 hgr.size fun b' h=>hgr.block b' (aRT h hH.tab.1.1) (fun e1=>by have:=aRi e1;omega),fun i blk b' o h ho=> ?_⟩,⟨⟨D9 ..,.inr ⟨b,cap,rfl,hmc⟩⟩,trivial⟩,⟨hgr.os,hgr.tape,hgr.output,hgr.size,fun b' hb hn=>hgr.block b' hb fun e1=>hn 0 (by rw[aRi e1];exact hb0 0),fun b' o hb hn=> ?_,fun b' o h=> .inl h,fun b' s h=> ?_⟩,fun i blk b' o h ho=> ?_,fun _ _ _ _ _=>rfl,fun i t x ts u y us h=> ?_,fun i p hi h=>h,fun i q u hi h=> ?_⟩
 .match i,h with
  |0,h=>cases h;trivial
  |1,h=>
   cases h;refine⟨hl',_,l'.map Go.Proofs.encStr,D9 ..,⟨by simp [hl',Ty.cells],.inr ⟨b,cap,cur',rfl,aSo _,hnew,hmc,hcm,by simpa[Ty.cells] using hcs',by simpa[Ty.cells] using htk⟩⟩,W8 _,fun q hq=>a1v g 1 m _ hq,fun b' hb o hs=> ?_⟩;cases hb;exact hseal b rfl o hs
  |i+2,h=>simp [qM,qD] at h
 .match i,j,hi,hj with
  |0,_,hi,_=>cases hi;exact ho
  |_,0,_,hj=>cases hj;exact hp
  |1,1,_,_=>exact hij rfl
  |i+2,_,hi,_=>simp [qM,qD] at hi
  |1,j+2,_,hj=>simp [qM,qD] at hj
 .match i,h with
  |0,h=>cases h;exact ho.elim
  |1,h=>
   cases h;obtain⟨v,h1,h2⟩:=ho;rw[D9] at h1;obtain rfl:=aRi h1;cases h2;exact hNG
  |i+2,h=>simp [qM,qD] at h
 .have hne:b'≠b:=fun e1=>hn (e1▸hb0 o);have:=hgr.block b' hb (fun e1=>hne (aRi e1));exact⟨aRH (a:=⟨b',o,none⟩) this,aSb (a:=⟨b',o,none⟩) this⟩
 .by_cases e1:b'=b
  .exact .inr fun o=>e1▸hb0 o
  .exact .inl ((CE (hgr.block b' (CD h) (fun e2=>e1 (aRi e2)))).trans h)
 .match i,h with
  |0,h=>cases h;exact ho.elim
  |1,h=>
   cases h;obtain⟨v,h1,h2⟩:=ho;rw[D9] at h1;obtain rfl:=aRi h1;cases h2;exact .inr (hb0 o)
  |i+2,h=>simp at h
 .match i,h with
  |0,h=>cases h
  |i+1,h=>simp at h
 .match i,hi with
  |0,_=>simpa[GM] using h
theorem aK6 {g:Gh}{w:pQ}{e:TypeId}{l:pD}{side:List Prop}
  (hH:sE g w (qM 0 [.row e .str l 0])) {v:pR}(hcur:g.cur 0 0=some v):
  ∃g',E4 g w [.row e .str l 0] ⟨side,[(.own 1 0,none)],[.dead,.row e .str [] 0]⟩ g' w v:=by
 have hg0:qD (qM 0 [q9.row e .str l 0]) 0=some (.row e .str l 0):=rfl;obtain⟨hl,v',xs,hc2,hown,hF,hnone,hseal⟩:=hH.blk 0 _ hg0;rw[hcur] at hc2;obtain rfl:=aRi hc2;have hb0: ∀b o,v.ownBlock=some b->y8 g (qM 0 [q9.row e .str l 0]) b o:=fun b o h=>⟨0,_,hg0,_,hcur,h⟩;have hv:(v= .slice none 0 0/\0=0)\/∃b cap,v= .slice (some ⟨b,0,none⟩) 0 cap/\0<=cap:=by
  rcases hown.2 with⟨h1,h2⟩ |⟨b,cap,cur,h1,_,_,h2,_⟩
  .exact .inl ⟨h1,rfl⟩
  .exact .inr ⟨b,cap,h1,h2⟩
 refine⟨GM g 1 0 v,fun b' o h=>⟨h,rfl⟩,⟨fun i blk h=> ?_,fun i j bi bj b' o hij hi hj ho hp=> ?_,hH.sl,hH.tab.1,fun i blk b' o h ho=> ?_⟩,⟨⟨D9 ..,hv⟩,trivial⟩,Fr.refl _ _ _,fun i blk b' o h ho=> ?_,fun _ _ _ _ _=>rfl,fun i t x ts u y us h=> ?_,fun i p hi h=>h,fun i q u hi h=> ?_⟩
 .match i,h with
  |0,h=>cases h;trivial
  |1,h=>
   cases h;have hx:xs=[]:=by
    have:=hown.1;simpa using this
   subst hx;exact⟨rfl,v,[],D9 ..,hown,rfl,fun q hq=>a1v g 1 0 _ hq,hseal⟩
  |i+2,h=>simp [qM,qD] at h
 .match i,j,hi,hj with
  |0,_,hi,_=>cases hi;exact ho
  |_,0,_,hj=>cases hj;exact hp
  |1,1,_,_=>exact hij rfl
  |i+2,_,hi,_=>simp [qM,qD] at hi
  |1,j+2,_,hj=>simp [qM,qD] at hj
 .match i,h with
  |0,h=>cases h;exact ho.elim
  |1,h=>
   cases h;obtain⟨v',h1,h2⟩:=ho;rw[D9] at h1;obtain rfl:=aRi h1;exact hH.tab.2 0 _ b' o hg0 ⟨_,hcur,h2⟩
  |i+2,h=>simp [qM,qD] at h
 .match i,h with
  |0,h=>cases h;exact ho.elim
  |1,h=>
   cases h;obtain⟨v',h1,h2⟩:=ho;rw[D9] at h1;obtain rfl:=aRi h1;exact .inr (hb0 b' o h2)
  |i+2,h=>simp at h
 .match i,h with
  |0,h=>cases h
  |i+1,h=>simp at h
 .match i,hi with
  |0,_=>simpa[GM] using h
theorem aCf {g:Gh}{w w':pQ}{e:TypeId}{l:pD}{n b:Nat}{side:List Prop}
  (hH:sE g w (qM 0 [])) (hb:Below w.heap.size w w') (hbb:w.heap.size<=b) (hl:l.length=n) (hnm:n<=maxLen)
  (hnew:w'.heap[b]? =some (.cells (l.map Go.Proofs.encStr).toArray e (0,0))):
  ∃g',E4 g w [] ⟨side,[(.own 0 n,none)],[.row e .str l n]⟩ g' w' (.slice (some ⟨b,0,none⟩) n n):=by
 have hlt: ∀b' o,g.S b' o->b'≠b:=fun b' o h e1=>by have:=hH.sl b' o h;omega
 refine⟨GM g 0 n (.slice (some ⟨b,0,none⟩) n n),fun b' o h=>⟨h,aRH (a:=⟨b',o,none⟩) (hb.block b' (hH.sl b' o h))⟩,⟨fun i blk h=> ?_,fun i j bi bj b' o hij hi hj ho hp=> ?_,fun b' o h=>aRT (hH.sl b' o h) hb.size,JS hH.tab.1 hb.size fun b' h=>hb.block b' (aRT h hH.tab.1.1),fun i blk b' o h ho=> ?_⟩,⟨⟨D9 ..,.inr ⟨b,n,rfl,aRE _⟩⟩,trivial⟩,⟨hb.os,hb.tape,hb.output,hb.size,fun b' hb' _=>hb.block b' hb',fun b' o hb' _=>⟨aRH (a:=⟨b',o,none⟩) (hb.block b' hb'),aSb (a:=⟨b',o,none⟩) (hb.block b' hb')⟩,fun b' o h=> .inl h,fun b' s h=> .inl ((CE (hb.block b' (CD h))).trans h)⟩,fun i blk b' o h ho=> ?_,fun _ _ _ _ h=>(by cases h),fun i t x ts u y us h=>(by cases h),fun i p hi h=>h,fun i q u hi h=>(by simp at hi)⟩
 .match i,h with
  |0,h=>
   cases h;refine⟨hl,_,l.map Go.Proofs.encStr,D9 ..,⟨by simp [hl,Ty.cells],.inr ⟨b,n,_,rfl,aSo _,hnew,aRE _,hnm,by simp [hl,Ty.cells],?_⟩⟩,W8 _,fun q hq=>a1v g 0 n _ hq,fun b' hb' o hs=> ?_⟩
   .exact List.take_of_length_le (by simp [hl,Ty.cells])
   .cases hb';exact hlt b o hs rfl
  |i+1,h=>simp [qM,qD] at h
 .match i,j,hi,hj with
  |0,0,_,_=>exact hij rfl
  |i+1,_,hi,_=>simp [qM,qD] at hi
  |0,j+1,_,hj=>simp [qM,qD] at hj
 .match i,h with
  |0,h=>
   cases h;obtain⟨v',h1,h2⟩:=ho;rw[D9] at h1;obtain rfl:=aRi h1;cases h2;exact aSe hH.tab.1.1 hbb
  |i+1,h=>simp [qM,qD] at h
 .match i,h with
  |0,h=>
   cases h;obtain⟨v',h1,h2⟩:=ho;rw[D9] at h1;obtain rfl:=aRi h1;cases h2;exact .inl hbb
  |i+1,h=>simp at h
end Go.Proofs.YtkpflnijijccpaaGreatDoor
namespace Go.Proofs
open Go.RowKit Go.Lib
def Tryz.lays160_ren:Go.Shelf.Ren:=⟨fun|160=>85|232=>118|231=>117|227=>119|234=>121|233=>120|236=>123|235=>122|228=>160|271=>163|151=>162|197=>161|120=>196|152=>195|260=>194|137=>108|119=>219|224=>187|225=>186|217=>149|266=>185|n=>n,fun|9=>9|4=>4|3=>3|5=>5|117=>162|116=>161|0=>0|124=>165|21=>21|105=>191|46=>175|119=>182|139=>230|138=>229|n=>n,fun|3=>3|4=>4|n=>n⟩
theorem Tryz.lays160:Go.Proofs.Lays.n160 Tryz.prog Tryz.lays160_ren:={
 mixed:=by kernel_rfl
 f119:=Tryz.func219.trans (aRx some pT)
 f120:=Tryz.func196.trans (aRx some pT)
 f137:=Tryz.func108.trans (aRx some pT)
 f151:=Tryz.func162.trans (aRx some pT)
 f152:=Tryz.func195.trans (aRx some pT)
 f160:=Tryz.func85.trans (aRx some pT)
 f197:=Tryz.func161.trans (aRx some pT)
 f217:=Tryz.func149.trans (aRx some pT)
 f224:=Tryz.func187.trans (aRx some pT)
 f225:=Tryz.func186.trans (aRx some pT)
 f227:=Tryz.func119.trans (aRx some pT)
 f228:=Tryz.func160.trans (aRx some pT)
 f231:=Tryz.func117.trans (aRx some pT)
 f232:=Tryz.func118.trans (aRx some pT)
 f233:=Tryz.func120.trans (aRx some pT)
 f234:=Tryz.func121.trans (aRx some pT)
 f235:=Tryz.func122.trans (aRx some pT)
 f236:=Tryz.func123.trans (aRx some pT)
 f260:=Tryz.func194.trans (aRx some pT)
 f266:=Tryz.func185.trans (aRx some pT)
 f271:=Tryz.func163.trans (aRx some pT)
 t0:=Tryz.underlying0
 a0:=Tryz.isAgg0
 z0:=Tryz.sizeOf0
 v0:=Tryz.zeroValue0
 t3:=Tryz.underlying3
 a3:=Tryz.isAgg3
 z3:=Tryz.sizeOf3
 v3:=Tryz.zeroValue3
 t4:=Tryz.underlying4
 a4:=Tryz.isAgg4
 z4:=Tryz.sizeOf4
 v4:=Tryz.zeroValue4
 t5:=Tryz.underlying5
 a5:=Tryz.isAgg5
 z5:=Tryz.sizeOf5
 v5:=Tryz.zeroValue5
 t9:=Tryz.underlying9
 a9:=Tryz.isAgg9
 z9:=Tryz.sizeOf9
 v9:=Tryz.zeroValue9
 t21:=Tryz.underlying21
 a21:=Tryz.isAgg21
 z21:=Tryz.sizeOf21
 v21:=Tryz.zeroValue21
 t46:=Tryz.underlying175
 a46:=Tryz.isAgg175
 z46:=Tryz.sizeOf175
 v46:=Tryz.zeroValue175
 t105:=Tryz.underlying191
 a105:=Tryz.isAgg191
 z105:=Tryz.sizeOf191
 v105:=Tryz.zeroValue191
 t116:=Tryz.underlying161
 a116:=Tryz.isAgg161
 z116:=Tryz.sizeOf161
 t117:=Tryz.underlying162
 a117:=Tryz.isAgg162
 z117:=Tryz.sizeOf162
 v117:=Tryz.zeroValue162
 t119:=Tryz.underlying182
 a119:=Tryz.isAgg182
 z119:=Tryz.sizeOf182
 t124:=Tryz.underlying165
 a124:=Tryz.isAgg165
 z124:=Tryz.sizeOf165
 v124:=Tryz.zeroValue165
 t138:=Tryz.underlying229
 a138:=Tryz.isAgg229
 z138:=Tryz.sizeOf229
 v138:=Tryz.zeroValue229
 t139:=Tryz.underlying230
 a139:=Tryz.isAgg230
 z139:=Tryz.sizeOf230
 v139:=Tryz.zeroValue230
 g3:=by kernel_rfl
 g4:=by kernel_rfl}
def Tryz.lays146_ren:Go.Shelf.Ren:=⟨fun|146=>131|221=>167|268=>199|138=>200|143=>110|195=>220|197=>161|218=>221|219=>151|260=>194|217=>149|225=>186|224=>187|267=>188|266=>185|314=>211|n=>n,fun|9=>9|31=>24|3=>3|4=>4|0=>0|105=>191|21=>21|5=>5|46=>175|119=>182|139=>230|138=>229|146=>233|51=>205|n=>n,fun|1=>1|3=>3|4=>4|n=>n⟩
theorem Tryz.lays146:Go.Proofs.Lays.n146 Tryz.prog Tryz.lays146_ren:={
 mixed:=by kernel_rfl
 f138:=Tryz.func200.trans (aRx some pT)
 f143:=Tryz.func110.trans (aRx some pT)
 f146:=Tryz.func131.trans (aRx some pT)
 f195:=Tryz.func220.trans (aRx some pT)
 f197:=Tryz.func161.trans (aRx some pT)
 f217:=Tryz.func149.trans (aRx some pT)
 f218:=Tryz.func221.trans (aRx some pT)
 f219:=Tryz.func151.trans (aRx some pT)
 f221:=Tryz.func167.trans (aRx some pT)
 f224:=Tryz.func187.trans (aRx some pT)
 f225:=Tryz.func186.trans (aRx some pT)
 f260:=Tryz.func194.trans (aRx some pT)
 f266:=Tryz.func185.trans (aRx some pT)
 f267:=Tryz.func188.trans (aRx some pT)
 f268:=Tryz.func199.trans (aRx some pT)
 f314:=Tryz.func211.trans (aRx some pT)
 t0:=Tryz.underlying0
 a0:=Tryz.isAgg0
 z0:=Tryz.sizeOf0
 v0:=Tryz.zeroValue0
 t3:=Tryz.underlying3
 a3:=Tryz.isAgg3
 z3:=Tryz.sizeOf3
 v3:=Tryz.zeroValue3
 t4:=Tryz.underlying4
 a4:=Tryz.isAgg4
 z4:=Tryz.sizeOf4
 v4:=Tryz.zeroValue4
 t5:=Tryz.underlying5
 a5:=Tryz.isAgg5
 z5:=Tryz.sizeOf5
 v5:=Tryz.zeroValue5
 t9:=Tryz.underlying9
 a9:=Tryz.isAgg9
 z9:=Tryz.sizeOf9
 v9:=Tryz.zeroValue9
 t21:=Tryz.underlying21
 a21:=Tryz.isAgg21
 z21:=Tryz.sizeOf21
 v21:=Tryz.zeroValue21
 t31:=Tryz.underlying24
 a31:=Tryz.isAgg24
 z31:=Tryz.sizeOf24
 v31:=Tryz.zeroValue24
 t46:=Tryz.underlying175
 a46:=Tryz.isAgg175
 z46:=Tryz.sizeOf175
 v46:=Tryz.zeroValue175
 t51:=Tryz.underlying205
 a51:=Tryz.isAgg205
 z51:=Tryz.sizeOf205
 v51:=Tryz.zeroValue205
 t105:=Tryz.underlying191
 a105:=Tryz.isAgg191
 z105:=Tryz.sizeOf191
 v105:=Tryz.zeroValue191
 t119:=Tryz.underlying182
 a119:=Tryz.isAgg182
 z119:=Tryz.sizeOf182
 t138:=Tryz.underlying229
 a138:=Tryz.isAgg229
 z138:=Tryz.sizeOf229
 v138:=Tryz.zeroValue229
 t139:=Tryz.underlying230
 a139:=Tryz.isAgg230
 z139:=Tryz.sizeOf230
 v139:=Tryz.zeroValue230
 t146:=Tryz.underlying233
 a146:=Tryz.isAgg233
 z146:=Tryz.sizeOf233
 v146:=Tryz.zeroValue233
 g1:=by kernel_rfl
 g3:=by kernel_rfl
 g4:=by kernel_rfl}
def Tryz.lays157_ren:Go.Shelf.Ren:=⟨fun|157=>113|229=>152|199=>153|261=>189|311=>212|312=>213|n=>n,fun|9=>9|31=>24|3=>3|5=>5|4=>4|119=>182|0=>0|40=>184|152=>211|21=>21|154=>213|51=>205|141=>215|196=>238|193=>235|198=>241|49=>239|194=>236|201=>244|226=>254|46=>175|227=>255|n=>n,fun|0=>0|6=>2|n=>n⟩
theorem Tryz.lays157:Go.Proofs.Lays.n157 Tryz.prog Tryz.lays157_ren:={
 mixed:=by kernel_rfl
 f157:=Tryz.func113.trans (aRx some pT)
 f199:=Tryz.func153.trans (aRx some pT)
 f229:=Tryz.func152.trans (aRx some pT)
 f261:=Tryz.func189.trans (aRx some pT)
 f311:=Tryz.func212.trans (aRx some pT)
 f312:=Tryz.func213.trans (aRx some pT)
 t0:=Tryz.underlying0
 a0:=Tryz.isAgg0
 z0:=Tryz.sizeOf0
 v0:=Tryz.zeroValue0
 t3:=Tryz.underlying3
 a3:=Tryz.isAgg3
 z3:=Tryz.sizeOf3
 v3:=Tryz.zeroValue3
 t4:=Tryz.underlying4
 a4:=Tryz.isAgg4
 z4:=Tryz.sizeOf4
 v4:=Tryz.zeroValue4
 t5:=Tryz.underlying5
 a5:=Tryz.isAgg5
 z5:=Tryz.sizeOf5
 v5:=Tryz.zeroValue5
 t9:=Tryz.underlying9
 a9:=Tryz.isAgg9
 z9:=Tryz.sizeOf9
 v9:=Tryz.zeroValue9
 t21:=Tryz.underlying21
 a21:=Tryz.isAgg21
 z21:=Tryz.sizeOf21
 v21:=Tryz.zeroValue21
 t31:=Tryz.underlying24
 a31:=Tryz.isAgg24
 z31:=Tryz.sizeOf24
 v31:=Tryz.zeroValue24
 t40:=Tryz.underlying184
 a40:=Tryz.isAgg184
 z40:=Tryz.sizeOf184
 v40:=Tryz.zeroValue184
 t46:=Tryz.underlying175
 a46:=Tryz.isAgg175
 z46:=Tryz.sizeOf175
 v46:=Tryz.zeroValue175
 t49:=Tryz.underlying239
 a49:=Tryz.isAgg239
 z49:=Tryz.sizeOf239
 v49:=Tryz.zeroValue239
 t51:=Tryz.underlying205
 a51:=Tryz.isAgg205
 z51:=Tryz.sizeOf205
 v51:=Tryz.zeroValue205
 t119:=Tryz.underlying182
 a119:=Tryz.isAgg182
 z119:=Tryz.sizeOf182
 t141:=Tryz.underlying215
 a141:=Tryz.isAgg215
 z141:=Tryz.sizeOf215
 v141:=Tryz.zeroValue215
 t152:=Tryz.underlying211
 a152:=Tryz.isAgg211
 z152:=Tryz.sizeOf211
 v152:=Tryz.zeroValue211
 t154:=Tryz.underlying213
 a154:=Tryz.isAgg213
 z154:=Tryz.sizeOf213
 v154:=Tryz.zeroValue213
 t193:=Tryz.underlying235
 a193:=Tryz.isAgg235
 z193:=Tryz.sizeOf235
 v193:=Tryz.zeroValue235
 t194:=Tryz.underlying236
 a194:=Tryz.isAgg236
 z194:=Tryz.sizeOf236
 v194:=Tryz.zeroValue236
 t196:=Tryz.underlying238
 a196:=Tryz.isAgg238
 z196:=Tryz.sizeOf238
 v196:=Tryz.zeroValue238
 t198:=Tryz.underlying241
 a198:=Tryz.isAgg241
 z198:=Tryz.sizeOf241
 v198:=Tryz.zeroValue241
 t201:=Tryz.underlying244
 a201:=Tryz.isAgg244
 z201:=Tryz.sizeOf244
 v201:=Tryz.zeroValue244
 t226:=Tryz.underlying254
 a226:=Tryz.isAgg254
 z226:=Tryz.sizeOf254
 v226:=Tryz.zeroValue254
 t227:=Tryz.underlying255
 a227:=Tryz.isAgg255
 z227:=Tryz.sizeOf255
 v227:=Tryz.zeroValue255
 g0:=by kernel_rfl
 g6:=by kernel_rfl}
def Tryz.lays194_ren:Go.Shelf.Ren:=⟨fun|194=>91|n=>n,fun|31=>24|9=>9|3=>3|4=>4|0=>0|n=>n,fun|n=>n⟩
theorem Tryz.lays194:Go.Proofs.Lays.n194 Tryz.prog Tryz.lays194_ren:={
 mixed:=by kernel_rfl
 f194:=Tryz.func91.trans (aRx some pT)
 t0:=Tryz.underlying0
 a0:=Tryz.isAgg0
 z0:=Tryz.sizeOf0
 v0:=Tryz.zeroValue0
 t3:=Tryz.underlying3
 a3:=Tryz.isAgg3
 z3:=Tryz.sizeOf3
 v3:=Tryz.zeroValue3
 t4:=Tryz.underlying4
 a4:=Tryz.isAgg4
 z4:=Tryz.sizeOf4
 v4:=Tryz.zeroValue4
 t9:=Tryz.underlying9
 a9:=Tryz.isAgg9
 z9:=Tryz.sizeOf9
 v9:=Tryz.zeroValue9
 t31:=Tryz.underlying24
 a31:=Tryz.isAgg24
 z31:=Tryz.sizeOf24
 v31:=Tryz.zeroValue24}
def Tryz.lays171M_ren:Go.Shelf.Ren:=⟨fun|171=>181|243=>208|246=>223|283=>229|284=>230|285=>231|286=>232|129=>178|317=>236|318=>237|319=>238|320=>239|337=>242|338=>243|n=>n,fun|3=>3|9=>9|2=>2|4=>4|171=>259|0=>0|53=>207|37=>22|5=>5|173=>261|212=>267|51=>205|20=>20|213=>268|46=>175|232=>271|233=>272|n=>n,fun|17=>5|18=>6|19=>7|n=>n⟩
theorem Tryz.lays171M:Go.Proofs.LaysM.n171 Tryz.prog Tryz.lays171M_ren:={
 mixed:=by kernel_rfl
 f129:=Tryz.func178.trans (aRx some pT)
 f171:=Tryz.func181.trans (aRx some pT)
 f243:=Tryz.func208.trans (aRx some pT)
 f246:=Tryz.func223.trans (aRx some pT)
 f283:=Tryz.func229.trans (aRx some pT)
 f284:=Tryz.func230.trans (aRx some pT)
 f285:=Tryz.func231.trans (aRx some pT)
 f286:=Tryz.func232.trans (aRx some pT)
 f317:=Tryz.func236.trans (aRx some pT)
 f318:=Tryz.func237.trans (aRx some pT)
 f319:=Tryz.func238.trans (aRx some pT)
 f320:=Tryz.func239.trans (aRx some pT)
 f337:=Tryz.func242.trans (aRx some pT)
 f338:=Tryz.func243.trans (aRx some pT)
 t0:=Tryz.underlying0
 a0:=Tryz.isAgg0
 z0:=Tryz.sizeOf0
 v0:=Tryz.zeroValue0
 t2:=Tryz.underlying2
 a2:=Tryz.isAgg2
 z2:=Tryz.sizeOf2
 v2:=Tryz.zeroValue2
 t3:=Tryz.underlying3
 a3:=Tryz.isAgg3
 z3:=Tryz.sizeOf3
 v3:=Tryz.zeroValue3
 t4:=Tryz.underlying4
 a4:=Tryz.isAgg4
 z4:=Tryz.sizeOf4
 v4:=Tryz.zeroValue4
 t5:=Tryz.underlying5
 a5:=Tryz.isAgg5
 z5:=Tryz.sizeOf5
 v5:=Tryz.zeroValue5
 t9:=Tryz.underlying9
 a9:=Tryz.isAgg9
 z9:=Tryz.sizeOf9
 v9:=Tryz.zeroValue9
 t20:=Tryz.underlying20
 a20:=Tryz.isAgg20
 z20:=Tryz.sizeOf20
 v20:=Tryz.zeroValue20
 t37:=Tryz.underlying22
 a37:=Tryz.isAgg22
 z37:=Tryz.sizeOf22
 v37:=Tryz.zeroValue22
 t46:=Tryz.underlying175
 a46:=Tryz.isAgg175
 z46:=Tryz.sizeOf175
 v46:=Tryz.zeroValue175
 t51:=Tryz.underlying205
 a51:=Tryz.isAgg205
 z51:=Tryz.sizeOf205
 v51:=Tryz.zeroValue205
 t53:=Tryz.underlying207
 a53:=Tryz.isAgg207
 z53:=Tryz.sizeOf207
 v53:=Tryz.zeroValue207
 t171:=Tryz.underlying259
 a171:=Tryz.isAgg259
 z171:=Tryz.sizeOf259
 v171:=Tryz.zeroValue259
 t173:=Tryz.underlying261
 a173:=Tryz.isAgg261
 z173:=Tryz.sizeOf261
 v173:=Tryz.zeroValue261
 t212:=Tryz.underlying267
 a212:=Tryz.isAgg267
 z212:=Tryz.sizeOf267
 v212:=Tryz.zeroValue267
 t213:=Tryz.underlying268
 a213:=Tryz.isAgg268
 z213:=Tryz.sizeOf268
 t232:=Tryz.underlying271
 a232:=Tryz.isAgg271
 z232:=Tryz.sizeOf271
 v232:=Tryz.zeroValue271
 t233:=Tryz.underlying272
 a233:=Tryz.isAgg272
 z233:=Tryz.sizeOf272
 v233:=Tryz.zeroValue272
 g17:=by kernel_rfl
 g18:=by kernel_rfl
 g19:=by kernel_rfl
 i0:=by kernel_rfl
 i2:=by kernel_rfl
 i3:=by kernel_rfl
 i4:=by kernel_rfl
 i5:=by kernel_rfl
 i9:=by kernel_rfl
 i20:=by kernel_rfl
 i37:=by kernel_rfl
 i46:=by kernel_rfl
 i51:=by kernel_rfl
 i53:=by kernel_rfl
 i171:=by kernel_rfl
 i173:=by kernel_rfl
 i212:=by kernel_rfl
 i232:=by kernel_rfl
 i233:=by kernel_rfl
 m17:=by kernel_rfl
 m18:=by kernel_rfl
 m19:=by kernel_rfl}
def Tryz.laysDf_ren:Go.Shelf.Ren:=⟨fun|10=>130|6=>137|n=>n,fun|22=>24|23=>9|25=>58|3=>3|4=>4|0=>0|n=>n,fun|n=>n⟩
theorem Tryz.laysDf:Go.Proofs.SlLaysH.n10 Tryz.prog Tryz.laysDf_ren:={
 mixed:=by kernel_rfl
 f6:=⟨Tryz.f137.name,pG,Tryz.func137.trans (aRx some pT)⟩
 f10:=⟨Tryz.f130.name,pG,Tryz.func130.trans (aRx some pT)⟩
 t0:=Tryz.underlying0
 a0:=Tryz.isAgg0
 z0:=Tryz.sizeOf0
 v0:=Tryz.zeroValue0
 t3:=Tryz.underlying3
 a3:=Tryz.isAgg3
 z3:=Tryz.sizeOf3
 v3:=Tryz.zeroValue3
 t4:=Tryz.underlying4
 a4:=Tryz.isAgg4
 z4:=Tryz.sizeOf4
 v4:=Tryz.zeroValue4
 t22:=Tryz.underlying24
 a22:=Tryz.isAgg24
 z22:=Tryz.sizeOf24
 v22:=Tryz.zeroValue24
 a23:=Tryz.isAgg9
 z23:=Tryz.sizeOf9
 t25:=Tryz.underlying58
 a25:=Tryz.isAgg58
 z25:=Tryz.sizeOf58
 v25:=Tryz.zeroValue58}
def Tryz.lays156_ren:Go.Shelf.Ren:=⟨fun|156=>70|165=>101|166=>30|169=>31|240=>58|241=>142|276=>94|277=>183|n=>n,fun|31=>24|9=>9|3=>3|4=>4|0=>0|20=>20|72=>73|76=>76|70=>71|37=>22|75=>75|127=>106|164=>142|5=>5|80=>78|n=>n,fun|n=>n⟩
theorem Tryz.lays156:Go.Proofs.Lays.n156 Tryz.prog Tryz.lays156_ren:={
 mixed:=by kernel_rfl
 f156:=Tryz.func70.trans (aRx some pT)
 f165:=Tryz.func101.trans (aRx some pT)
 f166:=Tryz.func30.trans (aRx some pT)
 f169:=Tryz.func31.trans (aRx some pT)
 f240:=Tryz.func58.trans (aRx some pT)
 f241:=Tryz.func142.trans (aRx some pT)
 f276:=Tryz.func94.trans (aRx some pT)
 f277:=Tryz.func183.trans (aRx some pT)
 t0:=Tryz.underlying0
 a0:=Tryz.isAgg0
 z0:=Tryz.sizeOf0
 v0:=Tryz.zeroValue0
 t3:=Tryz.underlying3
 a3:=Tryz.isAgg3
 z3:=Tryz.sizeOf3
 v3:=Tryz.zeroValue3
 t4:=Tryz.underlying4
 a4:=Tryz.isAgg4
 z4:=Tryz.sizeOf4
 v4:=Tryz.zeroValue4
 t9:=Tryz.underlying9
 a9:=Tryz.isAgg9
 z9:=Tryz.sizeOf9
 v9:=Tryz.zeroValue9
 t20:=Tryz.underlying20
 a20:=Tryz.isAgg20
 z20:=Tryz.sizeOf20
 v20:=Tryz.zeroValue20
 t31:=Tryz.underlying24
 a31:=Tryz.isAgg24
 z31:=Tryz.sizeOf24
 v31:=Tryz.zeroValue24
 t37:=Tryz.underlying22
 a37:=Tryz.isAgg22
 z37:=Tryz.sizeOf22
 v37:=Tryz.zeroValue22
 t70:=Tryz.underlying71
 a70:=Tryz.isAgg71
 z70:=Tryz.sizeOf71
 v70:=Tryz.zeroValue71
 t72:=Tryz.underlying73
 a72:=Tryz.isAgg73
 z72:=Tryz.sizeOf73
 v72:=Tryz.zeroValue73
 t75:=Tryz.underlying75
 a75:=Tryz.isAgg75
 z75:=Tryz.sizeOf75
 v75:=Tryz.zeroValue75
 t76:=Tryz.underlying76
 a76:=Tryz.isAgg76
 z76:=Tryz.sizeOf76
 v76:=Tryz.zeroValue76
 t127:=Tryz.underlying106
 a127:=Tryz.isAgg106
 z127:=Tryz.sizeOf106
 v127:=Tryz.zeroValue106
 t164:=Tryz.underlying142
 a164:=Tryz.isAgg142
 z164:=Tryz.sizeOf142
 v164:=Tryz.zeroValue142}
def Tryz.lays219_ren:Go.Shelf.Ren:=⟨fun|219=>151|217=>149|225=>186|224=>187|267=>188|266=>185|314=>211|n=>n,fun|9=>9|3=>3|4=>4|5=>5|46=>175|146=>233|51=>205|n=>n,fun|1=>1|n=>n⟩
theorem Tryz.lays219:Go.Proofs.Lays.n219 Tryz.prog Tryz.lays219_ren:={
 mixed:=by kernel_rfl
 f217:=Tryz.func149.trans (aRx some pT)
 f219:=Tryz.func151.trans (aRx some pT)
 f224:=Tryz.func187.trans (aRx some pT)
 f225:=Tryz.func186.trans (aRx some pT)
 f266:=Tryz.func185.trans (aRx some pT)
 f267:=Tryz.func188.trans (aRx some pT)
 f314:=Tryz.func211.trans (aRx some pT)
 t3:=Tryz.underlying3
 a3:=Tryz.isAgg3
 z3:=Tryz.sizeOf3
 v3:=Tryz.zeroValue3
 t4:=Tryz.underlying4
 a4:=Tryz.isAgg4
 z4:=Tryz.sizeOf4
 v4:=Tryz.zeroValue4
 t5:=Tryz.underlying5
 a5:=Tryz.isAgg5
 z5:=Tryz.sizeOf5
 v5:=Tryz.zeroValue5
 t9:=Tryz.underlying9
 a9:=Tryz.isAgg9
 z9:=Tryz.sizeOf9
 v9:=Tryz.zeroValue9
 t46:=Tryz.underlying175
 a46:=Tryz.isAgg175
 z46:=Tryz.sizeOf175
 v46:=Tryz.zeroValue175
 t51:=Tryz.underlying205
 a51:=Tryz.isAgg205
 z51:=Tryz.sizeOf205
 v51:=Tryz.zeroValue205
 t146:=Tryz.underlying233
 a146:=Tryz.isAgg233
 z146:=Tryz.sizeOf233
 v146:=Tryz.zeroValue233
 g1:=by kernel_rfl}
theorem Tryz.builderExtraJ:Builder.Extra Tryz.prog Tryz.lays156_ren:={
 sizeBuilder:=by kernel_rfl
 liesBuilder:=by kernel_rfl
 t5:=Tryz.underlying5
 a5:=Tryz.isAgg5
 z5:=Tryz.sizeOf5
 v5:=Tryz.zeroValue5
 infoByte:=by kernel_rfl
 cellsByte:=by kernel_rfl
 sizeByte:=by kernel_rfl
 neB5:=by decide}
end Go.Proofs
namespace Go.Proofs.YtkpflnijijccpaaGreatDoor
open Vc Go.RowKit
theorem aCg {g:Gh}{w:pQ}{e:TypeId}{l:pD}{n:Nat}{v:pR}(hH:sE g w (qM 0 [.row e .str l n])) (hv:rH g w (.own 0 n,none) v):
  l.length=n/\g.cur 0 n=some v/\((v= .slice none 0 0/\n=0)\/∃b cap cur,v= .slice (some ⟨b,0,none⟩) n cap/\w.heap[b]? =some (.cells cur e (0,0))/\n<=cap/\cap<=maxLen/\cur.size=cap/\Go.Sort.Holds Go.Proofs.encStr w b 0 l.toArray/\b<w.heap.size):=by
 have hg0:qD (qM 0 [q9.row e .str l n]) 0=some (.row e .str l n):=rfl;obtain⟨hl,v',xs,hcur,hown,hF,hnone,hseal⟩:=hH.blk 0 _ hg0;have hva:v=v':=by
  have:=hv.1.1;rw[hcur] at this;exact(aRi this).symm
 subst hva;subst hl;refine⟨rfl,hcur,?_⟩;obtain⟨hx,⟨rfl,h0⟩ |⟨b,cap,cur,rfl,hb0,hbk,hnc,hcm,hcs,htk⟩⟩:=hown
 .exact .inl ⟨rfl,h0⟩
 .have hxs:=a1m hF;subst hxs;have hc1:(Ty.str).cells=1:=rfl;rw[hc1,aS3] at hcs htk;refine .inr ⟨b,cap,cur,rfl,hbk,hnc,hcm,hcs,?_,?_⟩
  .intro j hj;have hj':j<l.length:=by simpa using hj
   refine⟨?_,Lib.frozen_of_heap hbk _⟩;rw[Lib.cell_of_heap hbk,aRP];have h2:(cur.toList.take l.length)[j]? =(l.map Go.Proofs.encStr)[j]? :=by rw[htk]
   rw[aSj hj',aSn] at h2;rw[h2];simp [hj']
  .rcases aSr b w.heap.size with h|h
   .exact h
   .rw[Array.getElem?_eq_none h] at hbk;cases hbk
theorem aCh {g:Gh}{w:pQ}{e:TypeId}{l l':pD}{n q b cap:Nat}{cur:Array pR}{side:List Prop}{pad:pD}
  (hH:sE g w (qM 0 [.row e .str l n])) (hcur:g.cur 0 n=some (.slice (some ⟨b,0,none⟩) n cap)) (hbk:w.heap[b]? =some (.cells cur e (0,0))) (hcs:cur.size=cap)
  (hcm:cap<=maxLen) (hp:l'.length+pad.length<=cap):
  ∃g',E4 g w [.row e .str l n] ⟨side,[(.own 1 l'.length,none)],[.dead,.row e .str l' l'.length]⟩ g' (Go.Sort.putRow Go.Proofs.encStr (Go.Sort.ahead w q) b 0 (l'++pad).toArray) (.slice (some ⟨b,0,none⟩) l'.length cap):=by
 refine aK5 (cur':=Go.Sort.putCells Go.Proofs.encStr 0 (l'++pad).toArray cur) hH hcur hcm pF rfl ?_ (by simpa[Go.Sort.putCells] using hcs) ?_ ⟨rfl,rfl,rfl,by simp,fun k hk hne=> ?_⟩
 .simp [Go.Sort.putRow,Go.Sort.mapBlock,aSs,hbk,Go.Sort.onCells]
 .have h1:=aB2 (l'++pad) cur (by rw[aRg];omega);have h2:=aRx (List.take l'.length) h1;rw[List.take_take,aRg,Nat.min_eq_left (Nat.le_add_right _ _),List.map_append,aSa pH] at h2;exact h2.trans (List.take_of_length_le pH)
 .have hkb:b≠k:=fun h=>hne (by rw[h]);simp [Go.Sort.putRow,Go.Sort.mapBlock,aSs,hkb]
@[go_sem] def QP:List qB->List q9->Option qH
 |[(.own 0 n,none)],[.row 9 .str l n2]=>some ⟨[n=n2,n2<=9223372036854775807],[(.own 1 (List.length (Lib.compact l)),none)],[.dead,.row 9 .str (Lib.compact l) (List.length (Lib.compact l))]⟩
 |_,_=>none
theorem a1w:xI Tryz.prog 91 QP:=by
 refine⟨fun _ _=>rfl,fun g w args vals L r hH ha hC hs=> ?_⟩;unfold QP at hC;split at hC
 .rename_i n l n2;cases hC;obtain rfl:n=n2:=hs _ pH;have hn:=hs (n<=9223372036854775807) pH;clear hs;obtain⟨va,_,rfl,ra,hv⟩:=ha;cases hv;obtain⟨hl,hcur,⟨rfl,rfl⟩ |⟨b,cap,cur,rfl,hbk,hnc,hcm,hcs,hho,hb⟩⟩:=aCg hH ra
  .obtain rfl:l=[]:=aSM.1 hl;refine(Any.slices_Compact_string_empty Tryz.lays194 none 0 w).mono ?_;rintro en w' ⟨rfl,rfl⟩;obtain⟨g',hg⟩:=aK6 (side:=[]) hH hcur;exact⟨_,g',rfl,hg.shut,hg.heap,hg.ret,hg.fr,hg.perm,hg.J,hg.ty,hg.Jt,hg.cur⟩
  .subst hl;refine(Any.slices_Compact_string Tryz.lays194 b 0 cap l w hho hn hnc).mono ?_;rintro en w' ⟨rfl,q,rfl⟩;obtain⟨g',hg⟩:=aCh (side:=[]) (q:=q) (l':=Lib.compact l) (pad:=List.replicate (l.length- (Lib.compact l).length) []) hH hcur hbk hcs hcm (by have:=Lib.compact_length_le l;simp;omega);exact⟨_,g',rfl,hg.shut,hg.heap,hg.ret,hg.fr,hg.perm,hg.J,hg.ty,hg.Jt,hg.cur⟩
 .cases hC
def u7 (l:pD):pD:=l.filter fun x=> !decide (x=[])
@[go_sem] def QQ:List qB->List q9->Option qH
 |[(.own 0 n,none),(.val .clo (some (132,[])),none)],[.row 9 .str l n2]=>some ⟨[n=n2,0<n2/\n2<=9223372036854775807],[(.own 1 (List.length (u7 l)),none)],[.dead,.row 9 .str (u7 l) (List.length (u7 l))]⟩
 |_,_=>none
theorem aCi (x:pC) (W:pQ):FnGives Tryz.prog 132 #[] #[Go.Proofs.encStr x] (.bool (decide (x=[]))) W:=by
 show Calls Tryz.prog 132 #[.string ⟨x.toArray⟩] W _
 go_enter Tryz.func132,Tryz.ntmps132
 go_wp2
 all_goals (go_ret;refine⟨?_,0,rfl⟩;cases x<;>simp_all)
theorem a1x:xI Tryz.prog 130 QQ:=by
 refine⟨fun _ _=>rfl,fun g w args vals L r hH ha hC hs=> ?_⟩;unfold QQ at hC;split at hC
 .rename_i n l n2;cases hC;obtain rfl:n=n2:=hs _ pH;obtain⟨hn0,hn⟩:=hs (0<n/\n<=9223372036854775807) pH;clear hs;obtain⟨va,_,rfl,ra,vb,_,rfl,rb,hv⟩:=ha;cases hv;obtain rfl:vb= .func (.func 132) #[] #[]:=by
   rcases rb.1 with⟨h1,_⟩ |⟨_,vs,h2,h3⟩
   .cases h1
   .rw[show vs=[] from h2] at h3;simpa using h3
  obtain⟨hl,hcur,⟨rfl,rfl⟩ |⟨b,cap,cur,rfl,hbk,hnc,hcm,hcs,hho,hb⟩⟩:=aCg hH ra
  .omega
  .subst hl;refine(AnyE.slices_DeleteFunc Tryz.laysDf Go.Proofs.encStr (fun _=>rfl) (fun x=>decide (x=[])) 132 #[] (fun _ _=>rfl) [] Tryz.zeroValue9 b 0 cap l.toArray w (fun W x _=>aCi x W) (fun n os dk x _=>aCi x _) hho (by simpa using hn) (by simpa using hnc)).mono ?_;rintro en w' ⟨rfl,q,rfl⟩;obtain⟨g',hg⟩:=aCh (side:=[]) (q:=q) (l':=u7 l) (pad:=List.replicate (l.length- (u7 l).length) []) hH hcur hbk hcs hcm (by have:(u7 l).length<=l.length:=List.length_filter_le _ _;simp;omega);exact⟨_,g',rfl,hg.shut,hg.heap,hg.ret,hg.fr,hg.perm,hg.J,hg.ty,hg.Jt,hg.cur⟩
 .cases hC
theorem aK7 {w:pQ}(h:D0 w):Lib.TabIs Tryz.prog w "internal/strconv.uint64pow10" .u64 Lib.pow10Tab:=by
 obtain⟨_,e,fz,h1⟩:=h.2.2.2 _ (aRm);unfold Lib.TabIs World.var?;rw[show Tryz.prog.globalNamed "internal/strconv.uint64pow10" =some 5 from by kernel_rfl]
 simp only[aRe];rw[h1]
theorem aK8 {w:pQ}(h:D0 w):Lib.TabIs Tryz.prog w "strings.asciiSpace" .u8 Lib.asciiSpaceTab:=by
 obtain⟨_,e,fz,h1⟩:=h.2.2.2 _ (aRo _ aRm);unfold Lib.TabIs World.var?;rw[show Tryz.prog.globalNamed "strings.asciiSpace" =some 0 from by kernel_rfl]
 simp only[aRe];rw[h1]
@[go_sem] def QR:List qB->List q9->Option qH
 |[(.val .str O,none),(.val .str Z,none)],[]=>some ⟨[(List.all Z fun b=>decide (b.toNat<128))=true/\List.length Z<4294967281,List.length O<=9223372036854775807],[(.val .str (Lib.trimS O Z),none)],[]⟩
 |_,_=>none
theorem a1y:xI Tryz.prog 85 QR:=by
 refine IL (fun _ _=>rfl) fun g w args vals L r hT ha hC hs=> ?_;unfold QR at hC;split at hC
 .rename_i s c;cases hC;obtain⟨h1,h2⟩:=hs _ aRm;have h3:=hs (List.length s<=9223372036854775807) pH;obtain⟨va,_,rfl,ra,vb,_,rfl,rb,hv⟩:=ha;obtain rfl:=wU ra.1;obtain rfl:=wU rb.1;cases hv;exact⟨rfl,rfl,(Any.strings_Trim_laid Tryz.lays160 pT ⟨List.toArray s⟩ ⟨List.toArray c⟩ w h3 h2 (ascii_of_all h1)).mono fun e w' ⟨he,hb⟩=>⟨_,he,hb,BD _ _ _,trivial⟩⟩
 .cases hC
@[go_sem] def QS:List qB->List q9->Option qH
 |[(.val (.int .i64) n,none)],[]=>some ⟨[-9223372036854775808<=n/\n<=9223372036854775807],[(.val .str (Lib.itoa n),none)],[]⟩
 |_,_=>none
theorem a1z:xI Tryz.prog 181 QS:=by
 refine IL (fun _ _=>rfl) fun g w args vals L r hT ha hC hs=> ?_;unfold QS at hC;split at hC
 .rename_i n;cases hC;obtain⟨h1,h2⟩:=hs _ aRm;obtain⟨va,_,rfl,ra,hv⟩:=ha;obtain rfl:=wM ra.1;cases hv;refine⟨rfl,rfl,(Any.strconv_Itoa Tryz.lays171M n h1 h2 w (aK7 hT)).mono fun e w' ⟨he,k,os,hw⟩=>⟨_,he,?_,BD _ _ _,trivial⟩⟩;subst hw;exact⟨rfl,rfl,rfl,by show w.heap.size<=(w.heap++os).size;rw[aS6];omega,fun _ hj=>Sort.heap_grow_old (w.drewN k) os hj⟩
 .cases hC
@[go_sem] def QT:List qB->List q9->Option qH
 |[(.val .str s,none)],[]=>some ⟨[(List.all s fun b=>decide (b.toNat<128))=true/\List.length s<4294967281],[(.own 0 (List.length (Lib.fields s)),none)],[.row 9 .str (Lib.fields s) (List.length (Lib.fields s))]⟩
 |_,_=>none
theorem aCj: ∀(ws:Bool) (s:pC),Lib.cntF ws s<=s.length
 |_,[]=>aRE _
 |ws,b::l=>by
  have:=aCj (Lib.isSp b) l;simp only[Lib.cntF,aRj];split<;>omega
theorem a1A:xI Tryz.prog 113 QT:=by
 refine⟨fun _ _=>rfl,fun g w args vals L r hH ha hC hs=> ?_⟩;unfold QT at hC;split at hC
 .rename_i s;cases hC;obtain⟨h1,h2⟩:=hs _ aRm;obtain⟨va,_,rfl,ra,hv⟩:=ha;obtain rfl:=wU ra.1;cases hv;refine(Any.strings_Fields Tryz.lays157 pT pT ⟨List.toArray s⟩ w h2 (ascii_of_all h1) (aK8 hH.tab.1)).mono fun e w' ⟨he,hw⟩=> ?_;subst hw;obtain⟨g',hg⟩:=aCf (side:=[]) (w':=w.alloc (.cells ((Lib.fields s).map fun l=>Value.string ⟨l.toArray⟩).toArray 9)) (e:=9) (l:=Lib.fields s) (b:=w.heap.size) hH ((Below.refl _ _).alloc (aRE _) _) (aRE _) rfl (by rw[Lib.fields_length];have:=aCj true s;have:maxLen=9223372036854775807:=rfl;omega) (World.alloc_heap_new _ _);exact⟨_,g',he,hg.shut,hg.heap,hg.ret,hg.fr,hg.perm,hg.J,hg.ty,hg.Jt,hg.cur⟩
 .cases hC
def sZ (s c:pC):pD:=(Lib.splitB ⟨List.toArray c⟩ 0 (Lib.countB ⟨List.toArray s⟩ ⟨List.toArray c⟩) ⟨List.toArray s⟩).map (·.data.toList)
@[go_sem] def QU:List qB->List q9->Option qH
 |[(.val .str s,none),(.val .str c,none)],[]=>some ⟨[0<List.length c/\List.length s<4294967281],[(.own 0 (List.length (sZ s c)),none)],[.row 9 .str (sZ s c) (List.length (sZ s c))]⟩
 |_,_=>none
theorem a1B:xI Tryz.prog 131 QU:=by
 refine⟨fun _ _=>rfl,fun g w args vals L r hH ha hC hs=> ?_⟩;unfold QU at hC;split at hC
 .rename_i s c;cases hC;obtain⟨h1,h2⟩:=hs _ aRm;obtain⟨va,_,rfl,ra,vb,_,rfl,rb,hv⟩:=ha;obtain rfl:=wU ra.1;obtain rfl:=wU rb.1;cases hv;obtain⟨m,hm⟩:=hH.tab.1.2.2.1;refine(Any.strings_Split Tryz.lays146 pT ⟨List.toArray s⟩ ⟨List.toArray c⟩ m w h2 hm h1).mono fun e w' ⟨he,hw⟩=> ?_;subst hw;have hlen:=Lib.splitB_all ⟨List.toArray c⟩ h1 0 _ ⟨List.toArray s⟩ rfl;have hle:=Lib.countB_le ⟨List.toArray c⟩ h1 (List.length s) ⟨List.toArray s⟩ (aRE _);have hls:(sZ s c).length=Lib.countB ⟨List.toArray s⟩ ⟨List.toArray c⟩+1:=by unfold sZ;rw[aR6,hlen]
  obtain⟨g',hg⟩:=aCf (side:=[]) (w':=w.alloc (.cells ((Lib.splitB ⟨List.toArray c⟩ 0 (Lib.countB ⟨List.toArray s⟩ ⟨List.toArray c⟩) ⟨List.toArray s⟩).map Value.string).toArray 9)) (e:=9) (l:=sZ s c) (b:=w.heap.size) hH ((Below.refl _ _).alloc (aRE _) _) (aRE _) rfl (by rw[hls];have:(⟨List.toArray s⟩:ByteArray).size=List.length s:=rfl;have:maxLen=9223372036854775807:=rfl;omega) (by
   rw[World.alloc_heap_new];unfold sZ;rw[List.map_map];rfl)
  exact⟨_,g',he,hg.shut,hg.heap,by rw[<-hls];exact hg.ret,hg.fr,hg.perm,hg.J,hg.ty,hg.Jt,hg.cur⟩
 .cases hC
@[go_sem] def QV:List qB->List q9->Option qH
 |[(.val .str O,none),(.val .str Z,none)],[]=>some ⟨[List.length O<4294967281],[(.val (.int .i64) (yK O Z),none)],[]⟩
 |_,_=>none
theorem a1C:xI Tryz.prog 151 QV:=by
 refine IL (fun _ _=>rfl) fun g w args vals L r hT ha hC hs=> ?_;unfold QV at hC;split at hC
 .rename_i s c;cases hC;have h1:=hs _ aRm;obtain⟨va,_,rfl,ra,vb,_,rfl,rb,hv⟩:=ha;obtain rfl:=wU ra.1;obtain rfl:=wU rb.1;cases hv;obtain⟨m,hm⟩:=hT.2.2.1;exact⟨rfl,rfl,(W5 (Any.stringslite_Index Tryz.lays219 ⟨List.toArray s⟩ ⟨List.toArray c⟩ m w h1 hm)).mono fun e w' ⟨he,hb⟩=>⟨_,he,hb,wN _ _ _ _,trivial⟩⟩
 .cases hC
def vN (l:pD) (sep:pC):pC:=Lib.join l sep
@[go_sem] def QW:List qB->List q9->Option qH
 |[(.val (.list .str) l,none),(.val .str c,none)],[]=>some ⟨[List.length l<=140737488355328/\List.length (vN l c)<=140737488355328],[(.val .str (vN l c),none)],[]⟩
 |_,_=>none
theorem a1D:xI Tryz.prog 70 QW:=by
 refine IL (fun _ _=>rfl) fun g w args vals L r hT ha hC hs=> ?_;unfold QW at hC;split at hC
 .rename_i l c;cases hC;obtain⟨h1,h2⟩:=hs _ aRm;obtain⟨va,_,rfl,ra,vb,_,rfl,rb,hv⟩:=ha;obtain⟨a,cap,rfl,hcap,hlist⟩:=D5 ra.1;obtain rfl:=wU rb.1;cases hv;refine⟨rfl,rfl,?_⟩;unfold vN at h2;have hxm:(l.map fun x=>(⟨x.toArray⟩:ByteArray)).map (·.data.toList)=l:=by
   rw[List.map_map];exact(List.map_congr_left fun x _=>rfl).trans (List.map_id l)
  rcases l with _|⟨x,_|⟨y,r⟩⟩
  .exact(W5 (Any.strings_Join_none Tryz.lays156 Tryz.builderExtraJ a cap ⟨List.toArray c⟩ w)).mono fun e w' ⟨he,hb⟩=>⟨_,he,hb,BD _ _ _,trivial⟩
  .rcases hlist with h|⟨b,o,rfl,hL⟩
   .cases h
   .obtain⟨cs,k1,k2,k3,k4⟩:=MR hL (i:=0) (x:=x) rfl;rw[show cs=[.string ⟨List.toArray x⟩] from k4] at k2;have k5:=k2 0 _ rfl;rw[Nat.zero_mul,aSg] at k5;exact(W5 (Any.strings_Join_one Tryz.lays156 Tryz.builderExtraJ b o cap ⟨List.toArray x⟩ ⟨List.toArray c⟩ w k5)).mono fun e w' ⟨he,hb⟩=>⟨_,he,hb,(by rw[show vN [x] c=x from Lib.join_one x c];exact BD _ _ _),trivial⟩
  .rcases hlist with h|⟨b,o,rfl,hL⟩
   .cases h
   .have hc: ∀(j:Nat) z,((x::y::r).map fun x=>(⟨List.toArray x⟩:ByteArray))[j]? =some z->w.cell? ⟨b,o+j,none⟩=some (.string z):=by
     intro j z hz;rw[List.getElem?_map] at hz;obtain⟨u,hu,rfl⟩:=aRn.1 hz;obtain⟨cs,k1,k2,k3,k4⟩:=MR hL hu;rw[show cs=[.string ⟨List.toArray u⟩] from k4] at k2;have k5:=k2 0 _ rfl;rw[aSg,show j*Ty.str.cells=j from aS3 j] at k5;exact k5
    have h0:=hc 0 _ rfl;have:=Any.strings_Join_many Tryz.lays156 Tryz.builderExtraJ b o cap ((x::y::r).map fun x=>(⟨List.toArray x⟩:ByteArray)) ⟨List.toArray c⟩ w hc (World.block_lt_of_cell? _ _ h0) pH (by simpa using h1) (by simpa using hcap) (by rw[hxm];exact h2);rw[hxm] at this;rw[aR6] at this;exact this.mono fun e w' ⟨he,hb⟩=>⟨_,he,hb,BD _ _ _,trivial⟩
 .cases hC
def QX (_a _b:Int):pC:=[]
def IN (_a:Int):pC:=[]
@[go_sem] def QY:List qB->List q9->Option qH
 |[(.val (.int .u8) a,none),(.val (.int .i64) b,none)],[]=>some ⟨[False],[(.val .str (QX a b),none)],[]⟩
 |_,_=>none
theorem a1E:xI Tryz.prog 182 QY:=by
 refine IL (fun _ _=>rfl) fun g w args vals L r hT ha hC hs=> ?_;unfold QY at hC;split at hC
 .cases hC;exact(hs _ aRm).elim
 .cases hC
@[go_sem] abbrev a1F:Nat×TI:=(3,⟨(.int .i64),0,0,true,[]⟩)
theorem aK9:tQ Tryz.prog a1F.1 a1F.2:=⟨pT,(show Tryz.prog.underlying _=_ from by kernel_rfl)⟩
end Go.Proofs.YtkpflnijijccpaaGreatDoor
namespace Go.Proofs.YtkpflnijijccpaaGreatDoor
open Vc
namespace Gf
noncomputable section
@[go_sem] abbrev tU:Ty:=(.pair .str (.pair .str (.pair .str (.pair (.list .str) (.pair (.list .str) (.pair (.int .i64) (.pair (.list (.pair .str (.pair .str .unit))) .unit)))))))
@[go_sem] abbrev IP:Ty:=(.pair .str (.pair (.list .str) (.pair (.list (.pair .str (.pair .str .unit))) (.pair (.list tU) .unit))))
@[go_sem] abbrev xA:Ty:=(.pair .str (.pair (.list .str) (.pair .str .unit)))
@[go_sem] abbrev wD:Ty:=(.pair .mref (.pair (.list (.int .u8)) .unit))
@[go_sem] abbrev KP:Ty:=(.pair (.int .i64) (.pair .str .unit))
abbrev r6:Type:=(pC×(pC×Unit))
abbrev sF:Type:=(pC×(pC×(pC×(pD×(pD×(Int×((List r6)×Unit)))))))
abbrev vI:Type:=(pC×(pD×(pC×Unit)))
abbrev sV:Type:=(pC×(pD×((List r6)×((List sF)×Unit))))
@[go_sem] abbrev sM:Ty:=(.pair (.int .i64) (.pair .str (.pair (.int .i64) .unit)))
@[go_sem] abbrev sL:Nat×TI:=(9,⟨.str,0,0,false,[]⟩)
theorem sO:tQ Tryz.prog sL.1 sL.2:=⟨pT,(show Tryz.prog.underlying _=_ from by kernel_rfl)⟩
@[go_sem] abbrev AC:Nat×TI:=(94,⟨sM,0,1,false,[]⟩)
theorem FF:tQ Tryz.prog AC.1 AC.2:=⟨pT,(show ((_/\∃_,_/\_)\/_)/\_ from⟨.inl ⟨rfl,_,Tryz.underlying94,(show _/\_/\_/\_ from⟨rfl,pT,pT,(show _/\_/\_/\_ from⟨rfl,pT,pT,(show _/\_/\_/\_ from⟨rfl,pT,pT,trivial⟩)⟩)⟩)⟩,(fun _=>⟨pT,1,pG,(.struct rfl Tryz.underlying94 pT (.cons pG rfl pT pT (.int Tryz.underlying3) (.cons pG rfl pT pT (.str Tryz.underlying9) (.cons pG rfl pT pT (.int Tryz.underlying3) .nil))))⟩)⟩)⟩
theorem rL:Tryz.prog.follows .mixedOrders=true:=by kernel_rfl
@[go_sem] abbrev FG:Nat×qW:=(108,⟨[.v,.v],QI,[],[],none⟩)
theorem KQ:r5 Tryz.prog FG:=⟨a1j,fun _ h=>by cases h⟩
@[go_sem] abbrev N6:Nat×qW:=(127,⟨[.v,.v],QJ,[],[],none⟩)
theorem a1G:r5 Tryz.prog N6:=⟨a1k,fun _ h=>by cases h⟩
@[go_sem] abbrev KR:Nat×qW:=(85,⟨[.v,.v],QR,[],[],none⟩)
theorem WF:r5 Tryz.prog KR:=⟨a1y,fun _ h=>by cases h⟩
@[go_sem] abbrev N7:Nat×qW:=(179,⟨[.v],QK,[],[],none⟩)
theorem a1H:r5 Tryz.prog N7:=⟨a1l,fun _ h=>by cases h⟩
@[go_sem] abbrev N8:Nat×qW:=(181,⟨[.v],QS,[],[],none⟩)
theorem a1I:r5 Tryz.prog N8:=⟨a1z,fun _ h=>by cases h⟩
@[go_sem] abbrev N9:Nat×qW:=(182,⟨[.v,.v],QY,[],[],none⟩)
theorem a1J:r5 Tryz.prog N9:=⟨a1E,fun _ h=>by cases h⟩
@[go_sem] abbrev IQ:Nat×qW:=(58,⟨[.p wD [1]],QL,[],[],none⟩)
theorem QZ:r5 Tryz.prog IQ:=⟨a1o,fun _ h=>by cases h⟩
@[go_sem] abbrev GN:Nat×qW:=(31,⟨[.p wD [1]],QM,[],[],none⟩)
theorem NA:r5 Tryz.prog GN:=⟨a1r,fun _ h=>by cases h⟩
@[go_sem] abbrev KS:Nat×qW:=(113,⟨[.v],QT,[],[],none⟩)
theorem WG:r5 Tryz.prog KS:=⟨a1A,fun _ h=>by cases h⟩
@[go_sem] abbrev NB:Nat×qW:=(131,⟨[.v,.v],QU,[],[],none⟩)
theorem a1K:r5 Tryz.prog NB:=⟨a1B,fun _ h=>by cases h⟩
@[go_sem] abbrev KT:Nat×qW:=(91,⟨[.r],QP,[],[],none⟩)
theorem WH:r5 Tryz.prog KT:=⟨a1w,fun _ h=>by cases h⟩
@[go_sem] abbrev NC:Nat×qW:=(130,⟨[.r,.v],QQ,[],[],none⟩)
theorem a1L:r5 Tryz.prog NC:=⟨a1x,fun _ h=>by cases h⟩
@[go_sem] abbrev ND:Nat×qW:=(159,⟨[.r,.v,.v],QN,[],[],none⟩)
theorem a1M:r5 Tryz.prog ND:=⟨a1s,fun _ h=>by cases h⟩
@[go_sem] abbrev KU:Nat×qW:=(151,⟨[.v,.v],QV,[],[],none⟩)
theorem WI:r5 Tryz.prog KU:=⟨a1C,fun _ h=>by cases h⟩
@[go_sem] abbrev NE:Nat×qW:=(70,⟨[.v,.v],QW,[],[],none⟩)
theorem a1N:r5 Tryz.prog NE:=⟨a1D,fun _ h=>by cases h⟩
@[go_sem] abbrev KV:Nat×qW:=(88,⟨[.v],W6,[],[],some W7⟩)
theorem WJ:r5 Tryz.prog KV:=a1n
end
end Gf
namespace Gf
noncomputable section
def elements_closing_step1 (O:pC):(Bool×Int)→Option ((Bool×Int)⊕(Unit⊕Int)):=fun(Z,aA)=>
 if (decide (aA<(List.length O:Int)))=true then
  if 0≤aA∧aA<(List.length O:Int) then
   if (decide ((tM O aA)=(34:Int)))=true then
    if qC (aA+(1:Int)) then
     some (.inl ((!Z),(aA+(1:Int))))
    else none
   else
    if 0≤aA∧aA<(List.length O:Int) then
     if ((decide ((tM O aA)=(62:Int)))&&(!Z))=true then
      some (.inr (.inr (aA)))
     else
      if qC (aA+(1:Int)) then
       some (.inl (Z,(aA+(1:Int))))
      else none
    else none
  else none
 else
  some (.inr (.inl ()))
def elements_closing (O:pC):Option Int:=
 vA (rU (elements_closing_step1 O) (false,(0:Int))) fun _=>
 some ((-1:Int))
section
variable (O:pC)
abbrev a1O:List qB:=[(.val .str O,none)]
abbrev a1P:List q9:=[]
@[go_sem] def a1Q:qH:=⟨[((elements_closing O)).isSome=true],[(.val (.int .i64) (val (elements_closing O)),none)],[]⟩
def aCk:List qB→List q9→Option qH:=rP (V:=pC) (fun x=>a1O x) (fun x=>a1P) fun x=>a1Q x
@[go_sem] theorem aPC:aCk (no_index (a1O O)) (no_index a1P)=some (a1Q O):=rR (fun a0 b0 h1 h2=>by cases h1;cases h2;rfl) O
end
@[go_sem] abbrev aCl:Nat×qW:=(111,⟨[.v],aCk,[],[],none⟩)
theorem CI:rI Tryz.prog [sL] (rJ []):=⟨⟨sO,trivial⟩,rN,rL⟩
theorem aLa:r5 Tryz.prog aCl:=by
 refine rS CI Tryz.func111 (c:=_) rfl (N:=28) pT (ts:=[(2,none)]) rfl (fun _ _=>rfl) ?_;intro O hs hrow;dsimp only[a1O,a1P,a1Q,rM,qM,qY,r7,rO,Nat.reduceAdd] at hs hrow|-;have hz:=hs;obtain⟨z0,hC0⟩:=aRh.1 hz
 try rw[rY hC0]
 clear hz hs;unfold elements_closing at hC0;refine q8 CI ?_;refine q8 CI ?_;refine qS ?_;refine q8 CI ?_;refine rW ?_;obtain⟨y1,hy1,hC0⟩:=wX hC0;refine uV 0 (fun s=> ∃v,y1= .inl v∧s=(fun _=>⟨[],[],0,28,0⟩) v) ?_ ?_
 .refine uP hy1 (fun x=>⟨[(0,(.val .str O,none)),(3,(.val .bool x.1,none)),(6,(.val (.int .i64) (List.length O:Int),none)),(7,(.val (.int .i64) x.2,none))],[],0,28,0⟩) ⟨[0,3,6,7],[]⟩ pU ?_;intro x1 w1 n1 hC1 hN1;obtain⟨Z,aA⟩:=x1;unfold elements_closing_step1 at hC1;dsimp only at hC1|-;refine q8 CI ?_;refine qS ?_;refine qV hC1 (fun hC1 hc1=> ?_) (fun hC1 hc1=> ?_)
  .refine r8 (qO (qS (rW ?_)));refine q8 CI ?_;refine rW ?_;obtain⟨hg1,hC1⟩:=qG hC1;refine q8 CI ?_ (hp:=by exact hg1);refine qV hC1 (fun hC1 hc2=> ?_) (fun hC1 hc2=> ?_)
   .refine rF CI ?_;refine rT (rT (qO ?_));obtain⟨hg2,hC1⟩:=qG hC1;refine rF CI ?_ (hp:=by exact hg2);cases hC1;exact tC ⟨⟨[0,3,6,7],[]⟩,_,by rfl,hN1⟩
   .obtain⟨hg3,hC1⟩:=qG hC1;refine q8 CI ?_ (hp:=by exact⟨hg3,fun hh=>hh,(fun hh=>sY hh)⟩);refine qV hC1 (fun hC1 hc3=> ?_) (fun hC1 hc3=> ?_)
    .refine q8 CI ?_;refine qR (s8 (s8 (rQ (wP (wW (s8 (rQ ?_)))))));cases hC1;cases hN1;dsimp only at hC0;cases hC0;exact pE []
    .refine r8 (rT (rT (qO ?_)));obtain⟨hg4,hC1⟩:=qG hC1;refine rF CI ?_ (hp:=by exact hg4);cases hC1;exact tC ⟨⟨[0,3,6,7],[]⟩,_,by rfl,hN1⟩
  .refine uJ (uI (uL ?_));cases hC1;cases hN1;exact uK ⟨⟨[],[]⟩,_,rfl,by rfl⟩
 .rintro _ ⟨v,rfl,rfl⟩;dsimp only at hC0|-;refine uU (qO ?_);refine q8 CI ?_;refine qR ?_;cases hC0;exact pE []
attribute [irreducible] elements_closing
def strings_Index (O:pC) (Z:pC):Option Unit:=
 if List.length O<4294967281 then
  some (())
 else none
section
variable (O:pC) (Z:pC)
abbrev a1R:List qB:=[(.val .str O,none),(.val .str Z,none)]
abbrev a1S:List q9:=[]
@[go_sem] def a1T:qH:=⟨[((strings_Index O Z)).isSome=true],[(.val (.int .i64) (yK O Z),none)],[]⟩
def aCm:List qB→List q9→Option qH:=rP (V:=(pC×pC)) (fun x=>a1R x.1 x.2) (fun x=>a1S) fun x=>a1T x.1 x.2
@[go_sem] theorem aPD:aCm (no_index (a1R O Z)) (no_index a1S)=some (a1T O Z):=rR (fun⟨a0,a1⟩ ⟨b0,b1⟩ h1 h2=>by cases h1;cases h2;rfl) (O,Z)
end
@[go_sem] abbrev aCn:Nat×qW:=(110,⟨[.v,.v],aCm,[],[],none⟩)
theorem a1U:rI Tryz.prog [] (rJ [KU]):=⟨trivial,qK WI rN,rL⟩
theorem aLb:r5 Tryz.prog aCn:=by
 refine rS a1U Tryz.func110 (c:=_) rfl (N:=8) pT (ts:=[(4,none)]) rfl (fun _ _=>rfl) ?_;intro⟨O,Z⟩ hs hrow;dsimp only[a1R,a1S,a1T,rM,qM,qY,r7,rO,Nat.reduceAdd] at hs hrow|-;have hz:=hs;obtain⟨z0,hC0⟩:=aRh.1 hz
 try rw[rY hC0]
 clear hz hs;unfold strings_Index at hC0;refine q8 a1U ?_;obtain⟨hg1,hC0⟩:=qG hC0;refine q8 a1U ?_ (hp:=by exact hg1);refine qR ?_;cases hC0;exact pE []
attribute [irreducible] strings_Index
def internal_stringslite_HasPrefix (O:pC) (Z:pC):Option Unit:=
 if (((decide ((List.length Z:Int)≤(List.length O:Int)))==true)=true→0≤(0:Int)∧(0:Int)≤(List.length Z:Int)∧(List.length Z:Int)≤(List.length O:Int)) then
  some (())
 else none
section
variable (O:pC) (Z:pC)
abbrev KW:List qB:=[(.val .str O,none),(.val .str Z,none)]
abbrev KX:List q9:=[]
@[go_sem] def KY:qH:=⟨[((internal_stringslite_HasPrefix O Z)).isSome=true],[(.val .bool ((decide ((List.length Z:Int)≤(List.length O:Int)))&&(decide ((sC O (0:Int) (List.length Z:Int))=Z))),none)],[]⟩
def R0:List qB→List q9→Option qH:=rP (V:=(pC×pC)) (fun x=>KW x.1 x.2) (fun x=>KX) fun x=>KY x.1 x.2
@[go_sem] theorem aLc:R0 (no_index (KW O Z)) (no_index KX)=some (KY O Z):=rR (fun⟨a0,a1⟩ ⟨b0,b1⟩ h1 h2=>by cases h1;cases h2;rfl) (O,Z)
end
@[go_sem] abbrev R1:Nat×qW:=(150,⟨[.v,.v],R0,[],[],none⟩)
theorem KZ:rI Tryz.prog [sL] (rJ []):=⟨⟨sO,trivial⟩,rN,rL⟩
theorem a1V:r5 Tryz.prog R1:=by
 refine rS KZ Tryz.func150 (c:=_) rfl (N:=18) pT (ts:=[(4,none)]) rfl (fun _ _=>rfl) ?_;intro⟨O,Z⟩ hs hrow;dsimp only[KW,KX,KY,rM,qM,qY,r7,rO,Nat.reduceAdd] at hs hrow|-;have hz:=hs;obtain⟨z0,hC0⟩:=aRh.1 hz
 try rw[rY hC0]
 clear hz hs;unfold internal_stringslite_HasPrefix at hC0;refine q8 KZ ?_;obtain⟨hg1,hC0⟩:=qG hC0;refine q8 KZ ?_ (hp:=by exact⟨fun hh=>hh,fun hh=>hh,fun hh=>hh,hg1,fun hh=>hh,fun hh=>hh,(fun hh=>sY hh)⟩);refine qR ?_;cases hC0;exact pE []
attribute [irreducible] internal_stringslite_HasPrefix
def strings_HasPrefix (O:pC) (Z:pC):Option Unit:=
 (internal_stringslite_HasPrefix O Z).bind fun aA=>
 some (())
section
variable (O:pC) (Z:pC)
abbrev a1W:List qB:=[(.val .str O,none),(.val .str Z,none)]
abbrev a1X:List q9:=[]
@[go_sem] def a1Y:qH:=⟨[((strings_HasPrefix O Z)).isSome=true],[(.val .bool ((decide ((List.length Z:Int)≤(List.length O:Int)))&&(decide ((sC O (0:Int) (List.length Z:Int))=Z))),none)],[]⟩
def aCo:List qB→List q9→Option qH:=rP (V:=(pC×pC)) (fun x=>a1W x.1 x.2) (fun x=>a1X) fun x=>a1Y x.1 x.2
@[go_sem] theorem aPE:aCo (no_index (a1W O Z)) (no_index a1X)=some (a1Y O Z):=rR (fun⟨a0,a1⟩ ⟨b0,b1⟩ h1 h2=>by cases h1;cases h2;rfl) (O,Z)
end
@[go_sem] abbrev aCp:Nat×qW:=(109,⟨[.v,.v],aCo,[],[],none⟩)
theorem a1Z:rI Tryz.prog [] (rJ [R1]):=⟨trivial,qK a1V rN,rL⟩
theorem aLd:r5 Tryz.prog aCp:=by
 refine rS a1Z Tryz.func109 (c:=_) rfl (N:=8) pT (ts:=[(4,none)]) rfl (fun _ _=>rfl) ?_;intro⟨O,Z⟩ hs hrow;dsimp only[a1W,a1X,a1Y,rM,qM,qY,r7,rO,Nat.reduceAdd] at hs hrow|-;have hz:=hs;obtain⟨z0,hC0⟩:=aRh.1 hz
 try rw[rY hC0]
 clear hz hs;unfold strings_HasPrefix at hC0;refine q8 a1Z ?_;obtain⟨aA,hv1,hw1,hC0⟩:=qQ hC0
 try simp only[go_sem] at hw1
 refine q8 a1Z ?_ (hp:=by exact(qP hv1)) (h:=by simp only[go_sem,hw1];rfl);refine qR ?_;cases hC0;exact pE []
attribute [irreducible] strings_HasPrefix
def elements_first (O:pC) (Z:Int):Option (Int×pC):=
 sJ (σ:=(Int×Int)) (
   (strings_HasPrefix O ([60,33,45,45]:pC)).bind fun aA=>
   if ((decide ((List.length ([60,33,45,45]:pC):Int)≤(List.length O:Int)))&&(decide ((sC O (0:Int) (List.length ([60,33,45,45]:pC):Int))=([60,33,45,45]:pC))))=true then
    if 0≤(4:Int)∧(4:Int)≤(List.length O:Int)∧(List.length O:Int)≤(List.length O:Int) then
     (strings_Index (sC O (4:Int) (List.length O:Int)) ([45,45,62]:pC)).bind fun aB=>
     if (decide ((0:Int)≤(yK (sC O (4:Int) (List.length O:Int)) ([45,45,62]:pC))))=true then
      if qC ((yK (sC O (4:Int) (List.length O:Int)) ([45,45,62]:pC))+(7:Int)) then
       some (((1:Int),((yK (sC O (4:Int) (List.length O:Int)) ([45,45,62]:pC))+(7:Int))))
      else none
     else
      some (((1:Int),(yK (sC O (4:Int) (List.length O:Int)) ([45,45,62]:pC))))
    else none
   else
    if 0≤(0:Int)∧(0:Int)<(List.length O:Int) then
     if (decide ((tM O (0:Int))=(60:Int)))=true then
      (elements_closing O).bind fun aC=>
      if qC (aC+(1:Int)) then
       if (decide ((aC+(1:Int))=(0:Int)))=true then
        some (((2:Int),(-1:Int)))
       else
        some (((2:Int),(aC+(1:Int))))
      else none
     else
      if (decide ((v7 O (60:Int))<(0:Int)))=true then
       some (((3:Int),(List.length O:Int)))
      else
       some (((3:Int),(v7 O (60:Int))))
    else none
  ) fun(aD,aE)=>
 if (decide (aE<(0:Int)))=true then
  some (((0:Int),([]:pC)))
 else
  if 0≤(0:Int)∧(0:Int)≤aE∧aE≤(List.length O:Int) then
   some ((aD,(sC O (0:Int) aE)))
  else none
section
variable (O:pC) (Z:Int)
abbrev a11:List qB:=[(.val .str O,none),(.val (.int .i64) Z,none)]
abbrev a13:List q9:=[]
@[go_sem] def elements_firstR:qH:=⟨[((elements_first O Z)).isSome=true],[(.val sM ((val (elements_first O Z)).1,((val (elements_first O Z)).2,(Z,()))),none)],[]⟩
def aCq:List qB→List q9→Option qH:=rP (V:=(pC×Int)) (fun x=>a11 x.1 x.2) (fun x=>a13) fun x=>elements_firstR x.1 x.2
@[go_sem] theorem elements_firstC_eq:aCq (no_index (a11 O Z)) (no_index a13)=some (elements_firstR O Z):=rR (fun⟨a0,a1⟩ ⟨b0,b1⟩ h1 h2=>by cases h1;cases h2;rfl) (O,Z)
end
@[go_sem] abbrev aLe:Nat×qW:=(79,⟨[.v,.v],aCq,[],[],none⟩)
theorem AD:rI Tryz.prog [sL,AC] (rJ [FG,aCp,aCn,aCl]):=⟨⟨sO,⟨FF,trivial⟩⟩,qK KQ (qK aLd (qK aLb (qK aLa rN))),rL⟩
theorem elements_first_con:r5 Tryz.prog aLe:=by
 refine rS AD Tryz.func79 (c:=_) rfl (N:=43) pT (ts:=[(4,some 94)]) rfl (fun _ _=>rfl) ?_;intro⟨O,Z⟩ hs hrow;dsimp only[a11,a13,elements_firstR,rM,qM,qY,r7,rO,Nat.reduceAdd] at hs hrow|-;have hz:=hs;obtain⟨z0,hC0⟩:=aRh.1 hz
 try rw[rY hC0]
 clear hz hs;unfold elements_first at hC0;refine q8 AD ?_;refine q8 AD ?_;refine qS ?_;obtain⟨y1,hC1,hC0⟩:=qI hC0;refine yY (fun s=>s=(fun x=>⟨[(0,(.val .str O,none)),(1,(.val (.int .i64) Z,none)),(4,(.val .ref (some (0,0)),none)),(5,(.val (.int .i64) x.1,none)),(6,(.val (.int .i64) x.2,none))],[(0,.cells sM ((0:Int),(([]:pC),((0:Int),()))) [])],1,43,0⟩) y1) ?_ ?_
 .refine rW ?_;obtain⟨aA,hv1,hw1,hC1⟩:=qQ hC1
  try simp only[go_sem] at hw1
  refine q8 AD ?_ (hp:=by exact(qP hv1)) (h:=by simp only[go_sem,hw1];rfl);refine qV hC1 (fun hC1 hc1=> ?_) (fun hC1 hc1=> ?_)
  .obtain⟨hg2,hC1⟩:=qG hC1;obtain⟨aB,hv3,hw3,hC1⟩:=qQ hC1
   try simp only[go_sem] at hw3
   refine q8 AD ?_ (hp:=by exact⟨hg2,(qP hv3)⟩) (h:=by simp only[go_sem,hw3];rfl);refine q8 AD ?_;refine qV hC1 (fun hC1 hc2=> ?_) (fun hC1 hc2=> ?_)
   .obtain⟨hg4,hC1⟩:=qG hC1;refine rF AD ?_ (hp:=by exact hg4);refine rT ?_;cases hC1;exact tY ⟨⟨[0,1,4,5,6],[(0,0)]⟩,by rfl⟩
   .refine r8 (rT ?_);cases hC1;exact tY ⟨⟨[0,1,4,5,6],[(0,0)]⟩,by rfl⟩
  .obtain⟨hg5,hC1⟩:=qG hC1;refine q8 AD ?_ (hp:=by exact hg5);refine qV hC1 (fun hC1 hc3=> ?_) (fun hC1 hc3=> ?_)
   .obtain⟨aC,hv6,hw6,hC1⟩:=qQ hC1
    try simp only[go_sem] at hw6
    obtain⟨hg7,hC1⟩:=qG hC1;refine q8 AD ?_ (hp:=by exact⟨qP hv6,hg7⟩) (h:=by simp only[go_sem,hw6];rfl);refine q8 AD ?_;refine qV hC1 (fun hC1 hc4=> ?_) (fun hC1 hc4=> ?_)
    .refine rF AD ?_;refine rT ?_;cases hC1;exact tY ⟨⟨[0,1,4,5,6],[(0,0)]⟩,by rfl⟩
    .refine r8 (rT ?_);cases hC1;exact tY ⟨⟨[0,1,4,5,6],[(0,0)]⟩,by rfl⟩
   .refine q8 AD ?_;refine qV hC1 (fun hC1 hc5=> ?_) (fun hC1 hc5=> ?_)
    .refine rF AD ?_;refine rT ?_;cases hC1;exact tY ⟨⟨[0,1,4,5,6],[(0,0)]⟩,by rfl⟩
    .refine r8 (rT ?_);cases hC1;exact tY ⟨⟨[0,1,4,5,6],[(0,0)]⟩,by rfl⟩
 .rintro _ rfl;obtain⟨aD,aE⟩:=y1;dsimp only at hC0|-;refine qO (qS ?_);refine q8 AD ?_;refine qV hC0 (fun hC0 hc6=> ?_) (fun hC0 hc6=> ?_)
  .refine q8 AD ?_;refine qR (rQ ?_);cases hC0;exact pE []
  .refine r8 (qO ?_);obtain⟨hg8,hC0⟩:=qG hC0;refine q8 AD ?_ (hp:=by exact hg8);refine qR ?_;cases hC0;exact pE []
attribute [irreducible] elements_first
end
end Gf
end Go.Proofs.YtkpflnijijccpaaGreatDoor
section
end
namespace Go.Proofs.YtkpflnijijccpaaGreatDoor
open Go.RowKit Go.Shelf Vc
theorem aLf {f:FuncId}{C:List qB→List q9→Option qH}{args:List qB}{vals:pM}{r:qH}{t:Ty}{x:t.den}{w:pQ}(h:xI Tryz.prog f C) (hT:D0 w)
    (ha: ∀g,vL g w args vals) (hC:C args []=some r) (hs: ∀p∈r.side,p) (hr:r.ret=[(.val t x,none)]):
    Calls Tryz.prog f vals.toArray w fun e w'=> ∃v,e= .returned v∧Below w.heap.size w w'∧∃g',tO g' w' t x v:=by
  have hH:sE ⟨fun _ _=>False,fun _=>none,fun _ _=>none⟩ w (qM 0 []):=⟨fun _ _ h=>(by cases h),fun _ _ _ _ _ _ _ h=>(by cases h),fun _ _ h=>h.elim,⟨hT,fun _ _ _ _ h=>(by cases h)⟩⟩;refine(h.2 _ w args vals [] r hH (ha _) hC hs).mono ?_;rintro e w' ⟨v,g',he,ho⟩;refine⟨v,he,⟨ho.fr.os,ho.fr.tape,ho.fr.output,ho.fr.size,fun b hb=>ho.fr.blk b hb fun o ⟨i,blk,h1,_⟩=>(by cases h1)⟩,g',?_⟩;have:=ho.ret;rw[hr] at this;exact this.1
def clo:Bool→pC→pO
  |_,[]=>none
  |q,b::r=>if b=34 then(clo (!q) r).map (· +1) else if b=62∧q=false then some 0 else(clo q r).map (· +1)
def AX (s:pC):Int:=match clo false s with
  |some k=>k
  |none=> -1
theorem WK: ∀{s:pC}{q:Bool}{k:Nat},clo q s=some k→k<s.length
  |[],_,_,h=>by cases h
  | b::r,q,k,h=>by
    unfold clo at h;split at h
    · obtain⟨j,h1,rfl⟩:=aRn.1 h
      have:=WK h1;simp only[aRj];omega
    · split at h
      .cases h;simp
      · obtain⟨j,h1,rfl⟩:=aRn.1 h
        have:=WK h1;simp only[aRj];omega
theorem WL {l:pC}{i:Nat}(h:i<l.length):tM l (i:Int)=(l[i].toNat:Int):=by
  unfold tM;rw[aR0,aRO,aRr h];rfl
theorem a14 (b:UInt8) (n:Nat) (hn:n<256):decide ((b.toNat:Int)=(n:Int))=decide (b=n.toUInt8):=by
  rw[aSJ];constructor
  · intro h
    have:b.toNat=n:=by omega
    rw[←this];simp
  · rintro rfl
    simp only[Nat.toUInt8,UInt8.toNat_ofNat'];omega
theorem a15 (s:pC) (hs:s.length≤4294967281): ∀(n i:Nat) (q:Bool),i+n=s.length→rU (Gf.elements_closing_step1 s) (q,(i:Int))=some (match clo q (s.drop i) with
    |some k=> .inr ((i+k:Nat):Int)
    |none=> .inl ())
  | 0,i,q,hi=>by
    have:i=s.length:=by omega
    subst this;rw[aSh];refine vM ?_;unfold Gf.elements_closing_step1;dsimp only;rw[aRk pH];rfl
  | n+1,i,q,hi=>by
    have h:i<s.length:=by omega
    rw[aRW h];have h34:decide ((s[i].toNat:Int)=34)=decide (s[i]=34):=a14 s[i] 34 pG;have h62:decide ((s[i].toNat:Int)=62)=decide (s[i]=62):=a14 s[i] 62 pG;have hr:0≤(i:Int)∧(i:Int)<(s.length:Int):=⟨pF,pF⟩;have hi64:qC ((i:Int)+1):=by unfold qC;omega
    unfold clo;by_cases e34:s[i]=34
    · have hst:Gf.elements_closing_step1 s (q,(i:Int))=some (.inl (!q,((i+1:Nat):Int))):=by
        unfold Gf.elements_closing_step1;dsimp only;rw[aRf (by simpa using h),aRf hr,WL h,h34,aRf (by simpa using e34),aRf hi64];rfl
      rw[w4 hst,a15 s hs n (i+1) (!q) pF,aRf e34];cases clo (!q) (s.drop (i+1)) with
      |none=>rfl
      |some k=>simp only[Option.map_some];rw[show i+1+k=i+(k+1) by omega]
    · by_cases e62:s[i]=62∧q=false
      · obtain⟨e1,rfl⟩:=e62
        have hst:Gf.elements_closing_step1 s (false,(i:Int))=some (.inr (.inr (i:Int))):=by
          unfold Gf.elements_closing_step1;dsimp only;rw[aRf (by simpa using h),aRf hr,WL h,h34,aRk (by simpa using e34),aRf hr,h62,aRf (by simpa using e1)]
        rw[vM hst,aRk e34,aRf ⟨e1,rfl⟩];rfl
      · have hst:Gf.elements_closing_step1 s (q,(i:Int))=some (.inl (q,((i+1:Nat):Int))):=by
          unfold Gf.elements_closing_step1;dsimp only;rw[aRf (by simpa using h),aRf hr,WL h,h34,aRk (by simpa using e34),aRf hr,h62,aRk (by simpa using e62),aRf hi64];rfl
        rw[w4 hst,a15 s hs n (i+1) q pF,aRk e34,aRk e62];cases clo q (s.drop (i+1)) with
        |none=>rfl
        |some k=>simp only[Option.map_some];rw[show i+1+k=i+(k+1) by omega]
theorem aLg (s:pC) (hs:s.length≤4294967281):Gf.elements_closing s=some (AX s):=by
  have h:=a15 s hs s.length 0 false pF;rw[aSH] at h;have h':rU (Gf.elements_closing_step1 s) (false,(0:Int))=_:=h;unfold Gf.elements_closing AX;rw[h'];cases clo false s with
  |none=>rfl
  |some k=>simp only[aRP];rfl
theorem a16 (s:pC): -1≤AX s∧AX s<s.length:=by
  unfold AX;cases h:clo false s with
  |none=>exact⟨pG,by show (-1:Int)<_;omega⟩
  |some k=>have:=WK h;exact⟨by show (-1:Int)≤(k:Int);omega,by show (k:Int)<_;omega⟩
abbrev L1:pC:=[60,33,45,45]
def xB (s:pC):Bool:=decide (s.take 4=L1)
def vR (s:pC):Int×Int:=
  if xB s=true then(1,if 0≤Lib.index (s.drop 4) [45,45,62] then Lib.index (s.drop 4) [45,45,62]+7 else Lib.index (s.drop 4) [45,45,62])
  else if s.head? =some 60 then(2,if AX s+1=0 then-1 else AX s+1)
  else(3,if Lib.indexByte s 60<0 then s.length else Lib.indexByte s 60)
def rX (s:pC):Int×pC:=if (vR s).2<0 then(0,[]) else((vR s).1,s.take (vR s).2.toNat)
theorem a17 (s:pC) (hs:s≠[]):(vR s).2≤s.length∧((vR s).2<0∨0<(vR s).2):=by
  unfold vR;split
  · rename_i hn
    have h4:4≤s.length:=by
      have:=aRx List.length (aRU hn);rw[aRD] at this;simp only[aRj,aRq] at this;omega
    dsimp only;split
    · rename_i h0
      have:=Lib.index_room (s.drop 4) [45,45,62] h0;rw[aRA] at this;simp only[aRj,aRq] at this;omega
    .omega
  · split
    · have:=a16 s
      dsimp only;split<;>omega
    · rename_i h60
      have:=WE s 60;dsimp only;split
      · have:s.length≠0:=by simpa using hs
        omega
      · cases s with
        |nil=>exact absurd rfl hs
        | cons b r=>
          have hb:b≠60:=fun e=>h60 (by rw[e];rfl);rename_i h0
          have hne:Lib.indexByte (b::r) 60≠0:=by
            unfold Lib.indexByte;rw[aRk (by simpa using hb)];have h2:=WE r 60;split
            .simp
            · rename_i h5
              have h6:Lib.indexByte r 60≠ -1:=by simpa using h5
              omega
          rcases Int.lt_or_gt_of_ne hne with h9|h9
          .exact absurd h9 h0
          .exact⟨pF,.inr h9⟩
theorem aCr {α:Type}(s:List α) (n:Int):sC s 0 n=s.take n.toNat:=by unfold sC;simp
theorem aLh (s:pC) (hs:s≠[]) (hl:s.length<4294967281) (fr:Int):Gf.elements_first s fr=some (rX s):=by
  have hpos:0<s.length:=aRL.2 hs;have h0:tM s 0=(s[0].toNat:Int):=WL (i:=0) hpos;have hhd:s.head? =some s[0]:=by rw[List.head?_eq_getElem?,aRr hpos]
  have h60:decide ((s[0].toNat:Int)=60)=decide (s[0]=60):=a14 s[0] 60 pG;have hle:=a17 s hs
  have hp:Gf.strings_HasPrefix s ([60,33,45,45]:pC)=some ():=by
    unfold Gf.strings_HasPrefix Gf.internal_stringslite_HasPrefix;rw[aRf (fun h=>⟨aSz _,pG,by simpa using h⟩)];rfl
  have hpre:((decide ((List.length ([60,33,45,45]:pC):Int)≤(List.length s:Int)))&&(decide ((sC s (0:Int) (List.length ([60,33,45,45]:pC):Int))=([60,33,45,45]:pC))))=xB s:=by
    rw[aCr];unfold xB;show (_&&decide (s.take 4=L1))=decide (s.take 4=L1);by_cases h:s.take 4=L1
    · have:=aRx List.length h
      rw[aRD] at this;simp only[aRj,aRq] at this;simp [h];omega
    .simp [h]
  have hsi:v7 s (60:Int)=Lib.indexByte s 60:=rfl
  have key:((Gf.strings_HasPrefix s ([60,33,45,45]:pC)).bind fun O=>
   if ((decide ((List.length ([60,33,45,45]:pC):Int)≤(List.length s:Int)))&&(decide ((sC s (0:Int) (List.length ([60,33,45,45]:pC):Int))=([60,33,45,45]:pC))))=true then
    if 0≤(4:Int)∧(4:Int)≤(List.length s:Int)∧(List.length s:Int)≤(List.length s:Int) then
     (Gf.strings_Index (sC s (4:Int) (List.length s:Int)) ([45,45,62]:pC)).bind fun Z=>
     if (decide ((0:Int)≤(yK (sC s (4:Int) (List.length s:Int)) ([45,45,62]:pC))))=true then
      if qC ((yK (sC s (4:Int) (List.length s:Int)) ([45,45,62]:pC))+(7:Int)) then
       some (((1:Int),((yK (sC s (4:Int) (List.length s:Int)) ([45,45,62]:pC))+(7:Int))))
      else none
     else
      some (((1:Int),(yK (sC s (4:Int) (List.length s:Int)) ([45,45,62]:pC))))
    else none
   else
    if 0≤(0:Int)∧(0:Int)<(List.length s:Int) then
     if (decide ((tM s (0:Int))=(60:Int)))=true then
      (Gf.elements_closing s).bind fun aA=>
      if qC (aA+(1:Int)) then
       if (decide ((aA+(1:Int))=(0:Int)))=true then
        some (((2:Int),(-1:Int)))
       else
        some (((2:Int),(aA+(1:Int))))
      else none
     else
      if (decide ((v7 s (60:Int))<(0:Int)))=true then
       some (((3:Int),(List.length s:Int)))
      else
       some (((3:Int),(v7 s (60:Int))))
    else none)=some (vR s):=by
    rw[hp,aRe,hpre]
    have hcut:sC s (4:Int) (List.length s:Int)=s.drop 4:=by
      unfold sC;rw[aR0,show (4:Int).toNat=4 from rfl];exact List.take_of_length_le (by rw[aRA];omega)
    by_cases hn:xB s=true
    · have h4:4≤s.length:=by
        have:=aRx List.length (aRU hn);rw[aRD] at this;simp only[aRj,aRq] at this;omega
      rw[aRf hn,aRf ⟨pG,pF,aSz _⟩,hcut]
      have hix:Gf.strings_Index (s.drop 4) ([45,45,62]:pC)=some ():=by
        unfold Gf.strings_Index;rw[aRf (by rw[aRA];omega)]
      have hge:=Lib.index_ge (s.drop 4) [45,45,62];have hrm:=Lib.index_room (s.drop 4) [45,45,62];rw[aRA] at hrm;rw[hix,aRe];unfold vR yK;rw[aRf hn];by_cases hq:0≤Lib.index (s.drop 4) [45,45,62]
      .rw[aRf (aRF hq),aRf (by have:=hrm hq;simp only[aRj,aRq] at this;unfold qC;omega),aRf hq]
      .rw[aRk (by simpa using hq),aRk hq]
    · unfold vR
      rw[aRk hn,aRk hn,aRf ⟨aSz _,pF⟩,h0,h60,hhd];by_cases h6:s[0]=60
      · have hc:=a16 s
        have h6':some s[0]=some (60:UInt8):=by rw[h6]
        rw[aRf (aRF h6),aLg s pF,aRe,aRf (by unfold qC;omega),aRf h6'];by_cases hz:AX s+1=0
        .rw[aRf (aRF hz),aRf hz]
        .rw[aRk (by simpa using hz),aRk hz]
      · rw[aRk (by simpa using h6),aRk (fun h=>h6 (aRi h)),hsi]
        by_cases hz:Lib.indexByte s 60<0
        .rw[aRf (aRF hz),aRf hz]
        .rw[aRk (by simpa using hz),aRk hz]
  unfold Gf.elements_first;rw[key];unfold sJ rX;rw[aRe];clear key;generalize vR s=N at hle;obtain⟨k,n⟩:=N;dsimp only at hle|-;by_cases hz:n<0
  .rw[aRf hz,aRf (aRF hz)]
  .rw[aRk hz,aRk (by simpa using hz),aRf ⟨aSz _,pF,hle.1⟩,aCr]
abbrev NF:=Int×pC×Int×Unit
def wY (s:pC):Nat→Nat→List NF
  |0,_=>[]
  | n +1,i=>if i<s.length then
      ((rX (s.drop i)).1,(rX (s.drop i)).2,(i:Int),())::(if (rX (s.drop i)).1=0 then[] else wY s n (i+(rX (s.drop i)).2.length))
    else[(4,[],(s.length:Int),())]
def vS (s:Ty.str.den):List NF:=wY s (List.length s+1) 0
def WM (it:NF):pM:=[.agg #[.int .i64 it.1,.string ⟨it.2.1.toArray⟩,.int .i64 it.2.2.1]]
@[go_sem] def aCs (it:NF):List qB:=[(.val (.pair (.int .i64) (.pair .str (.pair (.int .i64) .unit))) it,none)]
theorem aLi (it:NF) (g:Gh) (w:pQ):vL g w (aCs it) (WM it):=
  ⟨_,_,rfl,⟨.inl ⟨rfl,[_,_,_],rfl,[_],[_,_],rfl,rfl,[_],[_],rfl,rfl,[_],[],rfl,rfl,rfl⟩,trivial⟩,rfl⟩
theorem aLj {g:Gh}{w:pQ}{it:NF}{v:pR}(h:tO g w (.pair (.int .i64) (.pair .str (.pair (.int .i64) .unit))) it v):v= .agg #[.int .i64 it.1,.string ⟨it.2.1.toArray⟩,.int .i64 it.2.2.1]:=by
  rcases h with⟨_,cs,rfl,c1,c2,rfl,h1,c3,c4,rfl,h2,c5,c6,rfl,h3,h4⟩ |⟨h,_⟩
  .rw[show c1=[.int .i64 it.1] from h1,show c3=[.string ⟨it.2.1.toArray⟩] from h2,show c5=[.int .i64 it.2.2.1] from h3,show c6=[] from h4];rfl
  .cases h
theorem aLk (s:pC) (hs:s≠[]) (hl:s.length<4294967281) (i:Int) (w:pQ) (hT:D0 w):
    Calls Tryz.prog 79 #[.string ⟨s.toArray⟩,.int .i64 i] w fun e w'=>e= .returned (.agg #[.int .i64 (rX s).1,.string ⟨(rX s).2.toArray⟩,.int .i64 i])∧Below w.heap.size w w':=by
  have he:=aLh s hs hl i;refine(aLf (args:=[(.val .str s,none),(.val (.int .i64) i,none)]) (vals:=[.string ⟨s.toArray⟩,.int .i64 i]) (t:= .pair (.int .i64) (.pair .str (.pair (.int .i64) .unit))) (x:=((rX s).1,(rX s).2,i,())) Gf.elements_first_con.1 hT (fun g=>⟨_,_,rfl,⟨BD _ _ _,trivial⟩,_,_,rfl,⟨wN _ _ _ _,trivial⟩,rfl⟩) (Gf.elements_firstC_eq s i) ?_ ?_).mono ?_
  · intro p hp
    rcases aRu.1 hp with rfl|hp
    .rw[he];rfl
    .cases hp
  · unfold Gf.elements_firstR
    rw[rY he]
  · rintro e w' ⟨v,rfl,hb,g',hv⟩
    exact⟨by rw[aLj hv],hb⟩
section
attribute [local go_sem] Oper.semAt_some
theorem aLl:WB Tryz.prog 78 .str (fun s=>List.length s<4294967281) vS WM:=by
  refine⟨fun _ _=>rfl,?_⟩;intro l b o (d:pC) cs g W0 J Jx hpre hR hrd hJd hJxd hJt hY W h0;rw[show cs=[.string ⟨d.toArray⟩] from hR] at hrd;have hl4:d.length<4294967281:=hpre;have r0: ∀i W,J i W→W.cell? ⟨b,o,none⟩=some (.string ⟨d.toArray⟩):=fun i W h=>by simpa using(hrd i W h).1 0 _ rfl
  refine(callsIn_wide (n:=0)).1 (callsIn_of_wp Tryz.func78 rfl trivial ?_);simp only[Tryz.ntmps78,aR7,aRj,aRq,Nat.reduceAdd,Nat.reduceSub,Array.replicate_succ,Array.replicate_zero,List.push_toArray,List.append_toArray,List.nil_append,List.cons_append]
  gi_wp2
  gi_loopw [3] (fun p wr=> ∃i k n:Nat,i≤d.length∧p= .int .i64 i∧d.length<n+i∧(vS d).drop k=wY d n i∧k≤(vS d).length∧J k wr) (fun p _=>d.length- (RowKit.intOf p).toNat)
  case atStart=>exact⟨0,0,d.length+1,aSo _,rfl,pF,rfl,aSo _,h0⟩
  case round=>
    obtain⟨i,k,n,hi,rfl,hn,hdrop,hk,hJs⟩:=hrel;have s1:=r0 _ _ hJs;obtain⟨n',rfl⟩: ∃n',n=n'+1:=⟨n-1,pF⟩;by_cases hlt:i<d.length
    · have hu:wY d (n'+1) i=((rX (d.drop i)).1,(rX (d.drop i)).2,(i:Int),())::(if (rX (d.drop i)).1=0 then[] else wY d n' (i+(rX (d.drop i)).2.length)):=by rw[wY,aRf hlt]
      rw[hu] at hdrop
      have hq:(vS d)[k]? =some ((rX (d.drop i)).1,(rX (d.drop i)).2,(i:Int),()):=by
        have:=aRx (·[0]?) hdrop;simpa using this
      have hd2:(vS d).drop (k+1)=(if (rX (d.drop i)).1=0 then[] else wY d n' (i+(rX (d.drop i)).2.length)):=by
        have:=aRx (List.drop 1) hdrop;simpa[aSX,Nat.add_comm] using this
      have hk2:k+1≤(vS d).length:=(aRs.1 hq).1
      have hne:d.drop i≠[]:=by
        intro e;have:=aRx List.length e;rw[aRA,aRq] at this;omega
      have hcall:=aLk (d.drop i) hne (by rw[aRA];omega) (i:Int);have hle:=a17 (d.drop i) hne;rw[aRA] at hle
      have hlen:(rX (d.drop i)).2.length≤d.length-i∧((rX (d.drop i)).1≠0→0<(rX (d.drop i)).2.length):=by
        unfold rX;split
        .exact⟨by simp,fun h=>absurd rfl h⟩
        · rw[aRD,aRA]
          exact⟨pF,fun _=>by omega⟩
      generalize rX (d.drop i)=T at hcall hlen hq hd2;obtain⟨kd,tx⟩:=T
      have hext:((⟨d.toArray⟩:ByteArray).extract i d.length)=⟨(d.drop i).toArray⟩:=by
        rw[aK4];congr 2;exact List.take_of_length_le pH
      clear hu hdrop hle
      gi_wp2
      refine⟨trivial,rfl,(callsIn_wide.2 (hcall wr (hJt _ _ hJs))).mono ?_⟩;rintro e w' ⟨rfl,hbl⟩;have hJ1:=hJd _ _ _ hJs hbl;have s2:=r0 _ _ hJ1;have hb2:Below w'.heap.size w' (w'.alloc (.cells #[.int .i64 kd,.string ⟨tx.toArray⟩,.int .i64 i] 94)):=(Below.refl _ _).alloc (aRE _) _;obtain⟨fn,tmps,assign,body,hy,hQ⟩:=hY _ _ _ _ hq hJ1 hb2;dsimp only[WM] at hy
      gi_wp2
      refine⟨rfl,hQ.mono ?_⟩;clear hQ hy;rintro e W2 ⟨h12,hkeep⟩;have hblk:=(hkeep w'.heap.size (aRE _) pH).trans (World.alloc_heap_new w' _);have hc1:W2.cell? ⟨w'.heap.size,0,none⟩=some (.int .i64 kd):=Lib.cell_of_heap hblk 0;have hc2:W2.cell? ⟨w'.heap.size,1,none⟩=some (.string ⟨tx.toArray⟩):=Lib.cell_of_heap hblk 1;clear hkeep hblk hb2 hcall;rcases h12 with⟨rfl,hJ2⟩ |⟨rfl,hJx⟩
      · by_cases hk0:kd=0
        · subst hk0
          rw[aRf rfl] at hd2
          have hkk:k+1=(vS d).length:=by
            have h1:=aRx List.length hd2;rw[aRA,aRq] at h1;omega
          gi_wp2
          refine bodyPost_ret (results_none rfl _ _ _) rfl ?_;exact⟨⟨_,rfl⟩,.inl (hkk▸hJ2)⟩
        · rw[aRk hk0] at hd2
          have hpos:=hlen.2 hk0;have hle:=hlen.1;have hkd:decide (kd=0)=false:=decide_eq_false hk0
          gi_wp2
          go_roundw
          case rel=>exact⟨i+tx.length,k+1,n',pF,by simp,pF,hd2,hk2,hJ2⟩
          case measure=>
            show d.length- (i+tx.length)<d.length-i;omega
      · gi_wp2
        refine bodyPost_ret (results_none rfl _ _ _) rfl ?_;exact⟨⟨_,rfl⟩,.inr hJx⟩
    · obtain rfl:i=d.length:=by omega
      have hu:wY d (n'+1) d.length=[(4,[],(d.length:Int),())]:=by rw[wY,aRk (aSV _)]
      rw[hu] at hdrop
      have hq:(vS d)[k]? =some (4,[],(d.length:Int),()):=by
        have:=aRx (·[0]?) hdrop;simpa using this
      have hkk:k+1=(vS d).length:=by
        have h1:=aRx List.length hdrop;rw[aRA] at h1;simp only[aRj,aRq] at h1;omega
      obtain⟨fn,tmps,assign,body,hy,hQ⟩:=hY _ _ _ _ hq hJs (Below.refl _ _);dsimp only[WM] at hy
      gi_wp2
      refine⟨rfl,hQ.mono ?_⟩;clear hQ hy;rintro e W2 ⟨⟨rfl,hJ2⟩ |⟨rfl,hJx⟩,-⟩
      · gi_wp2
        go_end0
        exact⟨⟨_,rfl⟩,.inl (hkk▸hJ2)⟩
      · gi_wp2
        go_end0
        exact⟨⟨_,rfl⟩,.inr hJx⟩
end
end Go.Proofs.YtkpflnijijccpaaGreatDoor
namespace Go.Proofs.YtkpflnijijccpaaGreatDoor
open Vc
namespace Gs
noncomputable section
@[go_sem] abbrev tU:Ty:=(.pair .str (.pair .str (.pair .str (.pair (.list .str) (.pair (.list .str) (.pair (.int .i64) (.pair (.list (.pair .str (.pair .str .unit))) .unit)))))))
@[go_sem] abbrev IP:Ty:=(.pair .str (.pair (.list .str) (.pair (.list (.pair .str (.pair .str .unit))) (.pair (.list tU) .unit))))
@[go_sem] abbrev xA:Ty:=(.pair .str (.pair (.list .str) (.pair .str .unit)))
@[go_sem] abbrev wD:Ty:=(.pair .mref (.pair (.list (.int .u8)) .unit))
@[go_sem] abbrev KP:Ty:=(.pair (.int .i64) (.pair .str .unit))
abbrev r6:Type:=(pC×(pC×Unit))
abbrev sF:Type:=(pC×(pC×(pC×(pD×(pD×(Int×((List r6)×Unit)))))))
abbrev vI:Type:=(pC×(pD×(pC×Unit)))
abbrev sV:Type:=(pC×(pD×((List r6)×((List sF)×Unit))))
abbrev s9:Type:=(Int×(pC×(Int×Unit)))
@[go_sem] abbrev sM:Ty:=(.pair (.int .i64) (.pair .str (.pair (.int .i64) .unit)))
@[go_sem] abbrev CJ:Nat×TI:=(61,⟨(.list sM),94,32,false,[]⟩)
theorem GO:tQ Tryz.prog CJ.1 CJ.2:=⟨pT,(show _/\_/\_ from⟨pT,pT,pT⟩)⟩
@[go_sem] abbrev AC:Nat×TI:=(94,⟨sM,0,1,false,[]⟩)
theorem FF:tQ Tryz.prog AC.1 AC.2:=⟨pT,(show ((_/\∃_,_/\_)\/_)/\_ from⟨.inl ⟨rfl,_,Tryz.underlying94,(show _/\_/\_/\_ from⟨rfl,pT,pT,(show _/\_/\_/\_ from⟨rfl,pT,pT,(show _/\_/\_/\_ from⟨rfl,pT,pT,trivial⟩)⟩)⟩)⟩,(fun _=>⟨pT,1,pG,(.struct rfl Tryz.underlying94 pT (.cons pG rfl pT pT (.int Tryz.underlying3) (.cons pG rfl pT pT (.str Tryz.underlying9) (.cons pG rfl pT pT (.int Tryz.underlying3) .nil))))⟩)⟩)⟩
theorem rL:Tryz.prog.follows .mixedOrders=true:=by kernel_rfl
@[go_sem] abbrev FG:Nat×qW:=(108,⟨[.v,.v],QI,[],[],none⟩)
theorem KQ:r5 Tryz.prog FG:=⟨a1j,fun _ h=>by cases h⟩
@[go_sem] abbrev N6:Nat×qW:=(127,⟨[.v,.v],QJ,[],[],none⟩)
theorem a1G:r5 Tryz.prog N6:=⟨a1k,fun _ h=>by cases h⟩
@[go_sem] abbrev KR:Nat×qW:=(85,⟨[.v,.v],QR,[],[],none⟩)
theorem WF:r5 Tryz.prog KR:=⟨a1y,fun _ h=>by cases h⟩
@[go_sem] abbrev N7:Nat×qW:=(179,⟨[.v],QK,[],[],none⟩)
theorem a1H:r5 Tryz.prog N7:=⟨a1l,fun _ h=>by cases h⟩
@[go_sem] abbrev N8:Nat×qW:=(181,⟨[.v],QS,[],[],none⟩)
theorem a1I:r5 Tryz.prog N8:=⟨a1z,fun _ h=>by cases h⟩
@[go_sem] abbrev N9:Nat×qW:=(182,⟨[.v,.v],QY,[],[],none⟩)
theorem a1J:r5 Tryz.prog N9:=⟨a1E,fun _ h=>by cases h⟩
@[go_sem] abbrev IQ:Nat×qW:=(58,⟨[.p wD [1]],QL,[],[],none⟩)
theorem QZ:r5 Tryz.prog IQ:=⟨a1o,fun _ h=>by cases h⟩
@[go_sem] abbrev GN:Nat×qW:=(31,⟨[.p wD [1]],QM,[],[],none⟩)
theorem NA:r5 Tryz.prog GN:=⟨a1r,fun _ h=>by cases h⟩
@[go_sem] abbrev KS:Nat×qW:=(113,⟨[.v],QT,[],[],none⟩)
theorem WG:r5 Tryz.prog KS:=⟨a1A,fun _ h=>by cases h⟩
@[go_sem] abbrev NB:Nat×qW:=(131,⟨[.v,.v],QU,[],[],none⟩)
theorem a1K:r5 Tryz.prog NB:=⟨a1B,fun _ h=>by cases h⟩
@[go_sem] abbrev KT:Nat×qW:=(91,⟨[.r],QP,[],[],none⟩)
theorem WH:r5 Tryz.prog KT:=⟨a1w,fun _ h=>by cases h⟩
@[go_sem] abbrev NC:Nat×qW:=(130,⟨[.r,.v],QQ,[],[],none⟩)
theorem a1L:r5 Tryz.prog NC:=⟨a1x,fun _ h=>by cases h⟩
@[go_sem] abbrev ND:Nat×qW:=(159,⟨[.r,.v,.v],QN,[],[],none⟩)
theorem a1M:r5 Tryz.prog ND:=⟨a1s,fun _ h=>by cases h⟩
@[go_sem] abbrev KU:Nat×qW:=(151,⟨[.v,.v],QV,[],[],none⟩)
theorem WI:r5 Tryz.prog KU:=⟨a1C,fun _ h=>by cases h⟩
@[go_sem] abbrev NE:Nat×qW:=(70,⟨[.v,.v],QW,[],[],none⟩)
theorem a1N:r5 Tryz.prog NE:=⟨a1D,fun _ h=>by cases h⟩
@[go_sem] abbrev KV:Nat×qW:=(88,⟨[.v],W6,[],[],some W7⟩)
theorem WJ:r5 Tryz.prog KV:=a1n
end
end Gs
namespace Gs
noncomputable section
def slices_AppendSeq_elements_token_elements_tokensF1_step1:(Int×pC×Int×Unit)→(List s9)→Option ((List s9)⊕(List s9)):=fun O Z=>
 if (List.length Z+List.length ([O]:List s9))*32≤140737488355328 then
  some (.inl (Z++([O]:List s9)))
 else none
def slices_AppendSeq_elements_token_elements_tokensF1 (O:pC):Option (List s9):=
 if List.length O<4294967281 then
  vA (zC (slices_AppendSeq_elements_token_elements_tokensF1_step1) (vS O) ([]:List s9)) fun Z=>
  some (Z)
 else none
section
variable (O:pC)
abbrev a18:List qB:=[(.nilS,none),(.val .clo (some (78,[(0,0)])),none)]
abbrev a19:List q9:=[.cells .str O []]
@[go_sem] def a2a:qH:=⟨[((slices_AppendSeq_elements_token_elements_tokensF1 O)).isSome=true],[(.val (.list sM) (val (slices_AppendSeq_elements_token_elements_tokensF1 O)),none)],[.cells .str O []]⟩
def aCt:List qB→List q9→Option qH:=rP (V:=pC) (fun x=>a18) (fun x=>a19 x) fun x=>a2a x
@[go_sem] theorem aPF:aCt (no_index a18) (no_index (a19 O))=some (a2a O):=rR (fun a0 b0 h1 h2=>by cases h1;cases h2;rfl) O
end
@[go_sem] abbrev a2b:Nat×qW:=(77,⟨[.v,.f [(.str,[])]],aCt,[],[0],none⟩)
theorem NH:rI Tryz.prog [CJ,AC] (rJ []):=⟨⟨GO,⟨FF,trivial⟩⟩,rN,rL⟩
theorem aCu:r5 Tryz.prog a2b:=by
 refine rS NH Tryz.func77 (c:=_) rfl (N:=13) pT (ts:=[(4,none)]) rfl (fun _ _=>rfl) ?_;intro O hs hrow;dsimp only[a18,a19,a2a,rM,qM,qY,r7,rO,Nat.reduceAdd] at hs hrow|-;have hz:=hs;obtain⟨z0,hC0⟩:=aRh.1 hz
 try rw[rY hC0]
 clear hz hs;unfold slices_AppendSeq_elements_token_elements_tokensF1 at hC0;refine q8 NH ?_;refine qS ?_;refine q8 NH ?_;refine rW ?_;obtain⟨hgF2,hC0⟩:=qG hC0;obtain⟨y1,hy1,hC0⟩:=wX hC0;refine aKX aLl aLi pU pU hgF2 hy1 [(2,(.val .ref (some (1,0)),none))] (fun Z=>[(2,(.val .ref (some (1,0)),none)),(5,(.val .ref (some (3,0)),none))]) (fun x=>[.cells .str O [],.cells (.list sM) x [(0,2)],.grow 94 3 (List.length x)]) (fun Z x=>[.cells .str O [],.cells (.list sM) x [(0,2)],.grow 94 3 (List.length x),.cells sM Z []]) 2 ⟨[2],[(0,0),(1,1),(2,2)]⟩ pU pU (aSA pU) (fun _=>by rfl) pU (aSA pU) (fun _=>aSA rfl) (fun _=>by rfl) (fun _ _=>by rfl) (fun _ _=>aSA rfl) (fun _=>rfl) pU ?_ ?_
 .intro Z aA w1 hC1 hN1;refine⟨?_,?_⟩
  .dsimp only[IM,aCs,tN,qM,qY,Nat.reduceAdd,List.toList_toArray];refine rF NH ?_;exact aCc ⟨[2,5],[(0,0),(1,1),(2,2),(3,3)]⟩ pU
  .unfold slices_AppendSeq_elements_token_elements_tokensF1_step1 at hC1;dsimp only[qM,qY,Nat.reduceAdd] at hC1|-;refine rW ?_;obtain⟨hg1,hC1⟩:=qG hC1;refine rF NH ?_ (hp:=by exact⟨pS,hg1⟩)
   refine rT ?_;cases hC1;exact aCd ⟨[],[(0,0),(1,1),(2,2)]⟩ _ rfl pU
 .rintro aA rfl;dsimp only[qM,qY,Nat.reduceAdd] at hC0|-;refine rT (qO ?_);refine q8 NH ?_;refine qR ?_;cases hC0;exact pE [(0,0)]
attribute [irreducible] slices_AppendSeq_elements_token_elements_tokensF1
def slices_Collect_elements_token_elements_tokensF1 (O:pC):Option (List s9):=
 (slices_AppendSeq_elements_token_elements_tokensF1 O).bind fun Z=>
 some (Z)
section
variable (O:pC)
abbrev a2c:List qB:=[(.val .clo (some (78,[(0,0)])),none)]
abbrev a2d:List q9:=[.cells .str O []]
@[go_sem] def a2e:qH:=⟨[((slices_Collect_elements_token_elements_tokensF1 O)).isSome=true],[(.val (.list sM) (val (slices_Collect_elements_token_elements_tokensF1 O)),none)],[.cells .str O []]⟩
def aCv:List qB→List q9→Option qH:=rP (V:=pC) (fun x=>a2c) (fun x=>a2d x) fun x=>a2e x
@[go_sem] theorem aPG:aCv (no_index a2c) (no_index (a2d O))=some (a2e O):=rR (fun a0 b0 h1 h2=>by cases h1;cases h2;rfl) O
end
@[go_sem] abbrev slices_Collect_elements_token_elements_tokensF1E:Nat×qW:=(49,⟨[.f [(.str,[])]],aCv,[],[0],none⟩)
theorem aCw:rI Tryz.prog [CJ] (rJ [a2b]):=⟨⟨GO,trivial⟩,qK aCu rN,rL⟩
theorem aLm:rI Tryz.prog [] (rJ [a2b]):=⟨trivial,qK aCu rN,rL⟩
theorem slices_Collect_elements_token_elements_tokensF1_con:r5 Tryz.prog slices_Collect_elements_token_elements_tokensF1E:=by
 refine rS aCw Tryz.func49 (c:=_) rfl (N:=5) pT (ts:=[(2,none)]) rfl (fun _ _=>rfl) ?_;intro O hs hrow;dsimp only[a2c,a2d,a2e,rM,qM,qY,r7,rO,Nat.reduceAdd] at hs hrow|-;have hz:=hs;obtain⟨z0,hC0⟩:=aRh.1 hz
 try rw[rY hC0]
 clear hz hs;unfold slices_Collect_elements_token_elements_tokensF1 at hC0;refine q8 aCw ?_;obtain⟨Z,hv1,hw1,hC0⟩:=qQ hC0
 try simp only[go_sem] at hw1
 refine q8 aLm ?_ (hp:=by exact⟨pS,(qP hv1)⟩) (h:=by simp only[go_sem,hw1];rfl)
 refine qR ?_;cases hC0;exact pE [(0,0)]
attribute [irreducible] slices_Collect_elements_token_elements_tokensF1
end
end Gs
end Go.Proofs.YtkpflnijijccpaaGreatDoor
section
end
namespace Go.Proofs.YtkpflnijijccpaaGreatDoor
open Vc
@[reducible,go_sem] noncomputable def a2f:Nat×qW:=Gs.slices_Collect_elements_token_elements_tokensF1E
theorem aLn:r5 Tryz.prog a2f:=Gs.slices_Collect_elements_token_elements_tokensF1_con
theorem aLo:r5 Tryz.prog a2f:=aLn
noncomputable section
@[go_sem] abbrev tU:Ty:=(.pair .str (.pair .str (.pair .str (.pair (.list .str) (.pair (.list .str) (.pair (.int .i64) (.pair (.list (.pair .str (.pair .str .unit))) .unit)))))))
@[go_sem] abbrev IP:Ty:=(.pair .str (.pair (.list .str) (.pair (.list (.pair .str (.pair .str .unit))) (.pair (.list tU) .unit))))
@[go_sem] abbrev xA:Ty:=(.pair .str (.pair (.list .str) (.pair .str .unit)))
@[go_sem] abbrev wD:Ty:=(.pair .mref (.pair (.list (.int .u8)) .unit))
@[go_sem] abbrev KP:Ty:=(.pair (.int .i64) (.pair .str .unit))
abbrev r6:Type:=(pC×(pC×Unit))
abbrev sF:Type:=(pC×(pC×(pC×(pD×(pD×(Int×((List r6)×Unit)))))))
abbrev vI:Type:=(pC×(pD×(pC×Unit)))
abbrev sV:Type:=(pC×(pD×((List r6)×((List sF)×Unit))))
abbrev s9:Type:=(Int×(pC×(Int×Unit)))
@[go_sem] abbrev sM:Ty:=(.pair (.int .i64) (.pair .str (.pair (.int .i64) .unit)))
@[go_sem] abbrev sN:Ty:=(.pair (.list sM) (.pair (.int .i64) (.pair (.int .i64) (.pair IP (.pair .mp (.pair (.list (.int .i64)) .unit))))))
@[go_sem] abbrev wZ:Ty:=(.pair (.int .i64) (.pair .str (.pair (.list (.pair .str (.pair .str .unit))) (.pair .bool .unit))))
abbrev yM:Type:=(Int×(pC×((List r6)×(Bool×Unit))))
@[go_sem] abbrev xK:Nat×TI:=(3,⟨(.int .i64),0,0,false,[]⟩)
theorem yA:tQ Tryz.prog xK.1 xK.2:=⟨pT,(show Tryz.prog.underlying _=_ from by kernel_rfl)⟩
@[go_sem] abbrev IR:Nat×TI:=(5,⟨(.int .u8),0,0,false,[]⟩)
theorem NI:tQ Tryz.prog IR.1 IR.2:=⟨pT,(show Tryz.prog.underlying _=_ from by kernel_rfl)⟩
@[go_sem] abbrev sL:Nat×TI:=(9,⟨.str,0,0,false,[]⟩)
theorem sO:tQ Tryz.prog sL.1 sL.2:=⟨pT,(show Tryz.prog.underlying _=_ from by kernel_rfl)⟩
@[go_sem] abbrev FH:Nat×TI:=(22,⟨(.list (.int .u8)),5,1,false,[]⟩)
theorem IS:tQ Tryz.prog FH.1 FH.2:=⟨pT,(show _/\_/\_ from⟨pT,pT,pT⟩)⟩
@[go_sem] abbrev wE:Nat×TI:=(24,⟨(.list .str),9,16,false,[]⟩)
theorem x4:tQ Tryz.prog wE.1 wE.2:=⟨pT,(show _/\_/\_ from⟨pT,pT,pT⟩)⟩
@[go_sem] abbrev GP:Nat×TI:=(26,⟨xA,0,0,false,[(1,9,1)]⟩)
theorem L2:tQ Tryz.prog GP.1 GP.2:=⟨pT,(show ((_/\∃_,_/\_)\/_)/\_ from⟨.inl ⟨rfl,_,Tryz.underlying26,(show _/\_/\_/\_ from⟨rfl,pT,pT,(show _/\_/\_/\_ from⟨rfl,pT,pT,(show _/\_/\_/\_ from⟨rfl,pT,pT,trivial⟩)⟩)⟩)⟩,(fun h=>absurd h pG)⟩)⟩
@[go_sem] abbrev NJ:Nat×TI:=(46,⟨xA,0,0,false,[(1,9,1)]⟩)
theorem WN:tQ Tryz.prog NJ.1 NJ.2:=⟨pT,(show ((_/\∃_,_/\_)\/_)/\_ from⟨.inl ⟨rfl,_,Tryz.underlying46,(show _/\_/\_/\_ from⟨rfl,pT,pT,(show _/\_/\_/\_ from⟨rfl,pT,pT,(show _/\_/\_/\_ from⟨rfl,pT,pT,trivial⟩)⟩)⟩)⟩,(fun h=>absurd h pG)⟩)⟩
@[go_sem] abbrev IT:Nat×TI:=(34,⟨(.list tU),53,128,false,[]⟩)
theorem NK:tQ Tryz.prog IT.1 IT.2:=⟨pT,(show _/\_/\_ from⟨pT,pT,pT⟩)⟩
@[go_sem] abbrev DA:Nat×TI:=(36,⟨IP,0,0,false,[(1,9,1),(2,111,2),(3,53,7)]⟩)
theorem FI:tQ Tryz.prog DA.1 DA.2:=⟨pT,(show ((_/\∃_,_/\_)\/_)/\_ from⟨.inl ⟨rfl,_,Tryz.underlying36,(show _/\_/\_/\_ from⟨rfl,pT,pT,(show _/\_/\_/\_ from⟨rfl,pT,pT,(show _/\_/\_/\_ from⟨rfl,pT,pT,(show _/\_/\_/\_ from⟨rfl,pT,pT,trivial⟩)⟩)⟩)⟩)⟩,(fun h=>absurd h pG)⟩)⟩
@[go_sem] abbrev zT:Nat×TI:=(53,⟨tU,0,0,false,[(3,9,1),(4,9,1),(6,111,2)]⟩)
theorem AY:tQ Tryz.prog zT.1 zT.2:=⟨pT,(show ((_/\∃_,_/\_)\/_)/\_ from⟨.inl ⟨rfl,_,Tryz.underlying53,(show _/\_/\_/\_ from⟨rfl,pT,pT,(show _/\_/\_/\_ from⟨rfl,pT,pT,(show _/\_/\_/\_ from⟨rfl,pT,pT,(show _/\_/\_/\_ from⟨rfl,pT,pT,(show _/\_/\_/\_ from⟨rfl,pT,pT,(show _/\_/\_/\_ from⟨rfl,pT,pT,(show _/\_/\_/\_ from⟨rfl,pT,pT,trivial⟩)⟩)⟩)⟩)⟩)⟩)⟩)⟩,(fun h=>absurd h pG)⟩)⟩
@[go_sem] abbrev GQ:Nat×TI:=(73,⟨wD,0,0,false,[(1,5,1)]⟩)
theorem L3:tQ Tryz.prog GQ.1 GQ.2:=⟨pT,(show ((_/\∃_,_/\_)\/_)/\_ from⟨.inl ⟨rfl,_,Tryz.underlying73,(show _/\_/\_/\_ from⟨rfl,pT,pT,(show _/\_/\_/\_ from⟨rfl,pT,pT,trivial⟩)⟩)⟩,(fun h=>absurd h pG)⟩)⟩
@[go_sem] abbrev AZ:Nat×TI:=(33,⟨(.list (.pair .str (.pair .str .unit))),111,32,false,[]⟩)
theorem CK:tQ Tryz.prog AZ.1 AZ.2:=⟨pT,(show _/\_/\_ from⟨pT,pT,pT⟩)⟩
@[go_sem] abbrev FJ:Nat×TI:=(111,⟨(.pair .str (.pair .str .unit)),0,1,false,[]⟩)
theorem IU:tQ Tryz.prog FJ.1 FJ.2:=⟨pT,(show ((_/\∃_,_/\_)\/_)/\_ from⟨.inl ⟨rfl,_,Tryz.underlying111,(show _/\_/\_/\_ from⟨rfl,pT,pT,(show _/\_/\_/\_ from⟨rfl,pT,pT,trivial⟩)⟩)⟩,(fun _=>⟨pT,1,pG,(.struct rfl Tryz.underlying111 pT (.cons pG rfl pT pT (.str Tryz.underlying9) (.cons pG rfl pT pT (.str Tryz.underlying9) .nil)))⟩)⟩)⟩
@[go_sem] abbrev CL:Nat×TI:=(27,⟨(.int .i64),0,0,false,[]⟩)
theorem E8:tQ Tryz.prog CL.1 CL.2:=⟨pT,(show Tryz.prog.underlying _=_ from by kernel_rfl)⟩
@[go_sem] abbrev CJ:Nat×TI:=(61,⟨(.list sM),94,32,false,[]⟩)
theorem GO:tQ Tryz.prog CJ.1 CJ.2:=⟨pT,(show _/\_/\_ from⟨pT,pT,pT⟩)⟩
@[go_sem] abbrev BI:Nat×TI:=(65,⟨sN,0,0,false,[(0,94,3),(4,9,1),(5,111,2),(6,53,7),(8,3,1)]⟩)
theorem DB:tQ Tryz.prog BI.1 BI.2:=⟨pT,(show ((_/\∃_,_/\_)\/_)/\_ from⟨.inl ⟨rfl,_,Tryz.underlying65,(show _/\_/\_/\_ from⟨rfl,pT,pT,(show _/\_/\_/\_ from⟨rfl,pT,pT,(show _/\_/\_/\_ from⟨rfl,pT,pT,(show _/\_/\_/\_ from⟨rfl,pT,pT,(show _/\_/\_/\_ from⟨rfl,pT,pT,(show _/\_/\_/\_ from⟨rfl,pT,pT,trivial⟩)⟩)⟩)⟩)⟩)⟩)⟩,(fun h=>absurd h pG)⟩)⟩
@[go_sem] abbrev AC:Nat×TI:=(94,⟨sM,0,1,false,[]⟩)
theorem FF:tQ Tryz.prog AC.1 AC.2:=⟨pT,(show ((_/\∃_,_/\_)\/_)/\_ from⟨.inl ⟨rfl,_,Tryz.underlying94,(show _/\_/\_/\_ from⟨rfl,pT,pT,(show _/\_/\_/\_ from⟨rfl,pT,pT,(show _/\_/\_/\_ from⟨rfl,pT,pT,trivial⟩)⟩)⟩)⟩,(fun _=>⟨pT,1,pG,(.struct rfl Tryz.underlying94 pT (.cons pG rfl pT pT (.int Tryz.underlying3) (.cons pG rfl pT pT (.str Tryz.underlying9) (.cons pG rfl pT pT (.int Tryz.underlying3) .nil))))⟩)⟩)⟩
@[go_sem] abbrev BJ:Nat×TI:=(127,⟨(.pair .str (.pair .str .unit)),0,1,false,[]⟩)
theorem DC:tQ Tryz.prog BJ.1 BJ.2:=⟨pT,(show ((_/\∃_,_/\_)\/_)/\_ from⟨.inl ⟨rfl,_,Tryz.underlying127,(show _/\_/\_/\_ from⟨rfl,pT,pT,(show _/\_/\_/\_ from⟨rfl,pT,pT,trivial⟩)⟩)⟩,(fun _=>⟨pT,1,pG,(.struct rfl Tryz.underlying127 pT (.cons pG rfl pT pT (.str Tryz.underlying9) (.cons pG rfl pT pT (.str Tryz.underlying9) .nil)))⟩)⟩)⟩
@[go_sem] abbrev R2:Nat×TI:=(21,⟨(.int .i32),0,0,false,[]⟩)
theorem a2g:tQ Tryz.prog R2.1 R2.2:=⟨pT,(show Tryz.prog.underlying _=_ from by kernel_rfl)⟩
@[go_sem] abbrev WO:Nat×TI:=(205,⟨(.int .u32),0,0,false,[]⟩)
theorem aCx:tQ Tryz.prog WO.1 WO.2:=⟨pT,(show Tryz.prog.underlying _=_ from by kernel_rfl)⟩
@[go_sem] abbrev WP:Nat×TI:=(33,⟨(.list (.pair .str (.pair .str .unit))),111,32,true,[]⟩)
theorem aCy:tQ Tryz.prog WP.1 WP.2:=⟨pT,(show _/\_/\_ from⟨pT,pT,pT⟩)⟩
@[go_sem] abbrev CM:Nat×TI:=(98,⟨(.list (.pair .str (.pair .str .unit))),127,32,false,[]⟩)
theorem E9:tQ Tryz.prog CM.1 CM.2:=⟨pT,(show _/\_/\_ from⟨pT,pT,pT⟩)⟩
@[go_sem] abbrev a2h:Nat×TI:=(24,⟨(.list .str),9,16,true,[]⟩)
theorem aLp:tQ Tryz.prog a2h.1 a2h.2:=⟨pT,(show _/\_/\_ from⟨pT,pT,pT⟩)⟩
@[go_sem] abbrev yZ:Nat×TI:=(100,⟨wZ,0,0,false,[(2,127,2)]⟩)
theorem zU:tQ Tryz.prog yZ.1 yZ.2:=⟨pT,(show ((_/\∃_,_/\_)\/_)/\_ from⟨.inl ⟨rfl,_,Tryz.underlying100,(show _/\_/\_/\_ from⟨rfl,pT,pT,(show _/\_/\_/\_ from⟨rfl,pT,pT,(show _/\_/\_/\_ from⟨rfl,pT,pT,(show _/\_/\_/\_ from⟨rfl,pT,pT,trivial⟩)⟩)⟩)⟩)⟩,(fun h=>absurd h pG)⟩)⟩
@[go_sem] abbrev FK:Nat×TI:=(123,⟨.mp,9,9,false,[]⟩)
theorem IV:tQ Tryz.prog FK.1 FK.2:=⟨pT,(show Tryz.prog.underlying _=_ from by kernel_rfl)⟩
@[go_sem] abbrev B0:Nat×TI:=(4,⟨.bool,0,0,false,[]⟩)
theorem CN:tQ Tryz.prog B0.1 B0.2:=⟨pT,(show Tryz.prog.underlying _=_ from by kernel_rfl)⟩
@[go_sem] abbrev WQ:Nat×TI:=(87,⟨(.list KP),119,24,false,[]⟩)
theorem aCz:tQ Tryz.prog WQ.1 WQ.2:=⟨pT,(show _/\_/\_ from⟨pT,pT,pT⟩)⟩
@[go_sem] abbrev a2i:Nat×TI:=(119,⟨KP,0,1,false,[]⟩)
theorem aLq:tQ Tryz.prog a2i.1 a2i.2:=⟨pT,(show ((_/\∃_,_/\_)\/_)/\_ from⟨.inl ⟨rfl,_,Tryz.underlying119,(show _/\_/\_/\_ from⟨rfl,pT,pT,(show _/\_/\_/\_ from⟨rfl,pT,pT,trivial⟩)⟩)⟩,(fun _=>⟨pT,1,pG,(.struct rfl Tryz.underlying119 pT (.cons pG rfl pT pT (.int Tryz.underlying3) (.cons pG rfl pT pT (.str Tryz.underlying9) .nil)))⟩)⟩)⟩
@[go_sem] abbrev GR:Nat×TI:=(63,⟨(.list (.int .i64)),3,8,false,[]⟩)
theorem L4:tQ Tryz.prog GR.1 GR.2:=⟨pT,(show _/\_/\_ from⟨pT,pT,pT⟩)⟩
@[go_sem] abbrev IW:Nat×TI:=(62,⟨.mp,9,4,false,[]⟩)
theorem NL:tQ Tryz.prog IW.1 IW.2:=⟨pT,(show Tryz.prog.underlying _=_ from by kernel_rfl)⟩
theorem rL:Tryz.prog.follows .mixedOrders=true:=by kernel_rfl
@[go_sem] abbrev FG:Nat×qW:=(108,⟨[.v,.v],QI,[],[],none⟩)
theorem KQ:r5 Tryz.prog FG:=⟨a1j,fun _ h=>by cases h⟩
@[go_sem] abbrev N6:Nat×qW:=(127,⟨[.v,.v],QJ,[],[],none⟩)
theorem a1G:r5 Tryz.prog N6:=⟨a1k,fun _ h=>by cases h⟩
@[go_sem] abbrev KR:Nat×qW:=(85,⟨[.v,.v],QR,[],[],none⟩)
theorem WF:r5 Tryz.prog KR:=⟨a1y,fun _ h=>by cases h⟩
@[go_sem] abbrev N7:Nat×qW:=(179,⟨[.v],QK,[],[],none⟩)
theorem a1H:r5 Tryz.prog N7:=⟨a1l,fun _ h=>by cases h⟩
@[go_sem] abbrev N8:Nat×qW:=(181,⟨[.v],QS,[],[],none⟩)
theorem a1I:r5 Tryz.prog N8:=⟨a1z,fun _ h=>by cases h⟩
@[go_sem] abbrev N9:Nat×qW:=(182,⟨[.v,.v],QY,[],[],none⟩)
theorem a1J:r5 Tryz.prog N9:=⟨a1E,fun _ h=>by cases h⟩
@[go_sem] abbrev IQ:Nat×qW:=(58,⟨[.p wD [1]],QL,[],[],none⟩)
theorem QZ:r5 Tryz.prog IQ:=⟨a1o,fun _ h=>by cases h⟩
@[go_sem] abbrev GN:Nat×qW:=(31,⟨[.p wD [1]],QM,[],[],none⟩)
theorem NA:r5 Tryz.prog GN:=⟨a1r,fun _ h=>by cases h⟩
@[go_sem] abbrev KS:Nat×qW:=(113,⟨[.v],QT,[],[],none⟩)
theorem WG:r5 Tryz.prog KS:=⟨a1A,fun _ h=>by cases h⟩
@[go_sem] abbrev NB:Nat×qW:=(131,⟨[.v,.v],QU,[],[],none⟩)
theorem a1K:r5 Tryz.prog NB:=⟨a1B,fun _ h=>by cases h⟩
@[go_sem] abbrev KT:Nat×qW:=(91,⟨[.r],QP,[],[],none⟩)
theorem WH:r5 Tryz.prog KT:=⟨a1w,fun _ h=>by cases h⟩
@[go_sem] abbrev NC:Nat×qW:=(130,⟨[.r,.v],QQ,[],[],none⟩)
theorem a1L:r5 Tryz.prog NC:=⟨a1x,fun _ h=>by cases h⟩
@[go_sem] abbrev ND:Nat×qW:=(159,⟨[.r,.v,.v],QN,[],[],none⟩)
theorem a1M:r5 Tryz.prog ND:=⟨a1s,fun _ h=>by cases h⟩
@[go_sem] abbrev KU:Nat×qW:=(151,⟨[.v,.v],QV,[],[],none⟩)
theorem WI:r5 Tryz.prog KU:=⟨a1C,fun _ h=>by cases h⟩
@[go_sem] abbrev NE:Nat×qW:=(70,⟨[.v,.v],QW,[],[],none⟩)
theorem a1N:r5 Tryz.prog NE:=⟨a1D,fun _ h=>by cases h⟩
@[go_sem] abbrev KV:Nat×qW:=(88,⟨[.v],W6,[],[],some W7⟩)
theorem WJ:r5 Tryz.prog KV:=a1n
end
noncomputable section
def a2j (O:Int):Option pC:=if (decide ((10:Int)≤O))=true then if False then if False then if (((IN (IntKind.wrap .i64 (Int.tdiv O (10:Int))))++(IN (Int.tmod O (10:Int)))).length:Int)≤9223372036854775807 then some (((IN (IntKind.wrap .i64 (Int.tdiv O (10:Int))))++(IN (Int.tmod O (10:Int))))) else none else none else none else if qC ((48:Int)+O) then some ((vG ([(IntKind.wrap .u8 ((48:Int)+O))]:pL))) else none
def a2k (O:Int):Option pC:=if (decide ((10:Int)≤O))=true then (a2j (IntKind.wrap .i64 (Int.tdiv O (10:Int)))).bind fun Z=>(a2j (Int.tmod O (10:Int))).bind fun aA=>if ((Z++aA).length:Int)≤9223372036854775807 then some ((Z++aA)) else none else if qC ((48:Int)+O) then some ((vG ([(IntKind.wrap .u8 ((48:Int)+O))]:pL))) else none
def aCA (O:Int):Option pC:=if (decide ((10:Int)≤O))=true then (a2k (IntKind.wrap .i64 (Int.tdiv O (10:Int)))).bind fun Z=>(a2k (Int.tmod O (10:Int))).bind fun aA=>if ((Z++aA).length:Int)≤9223372036854775807 then some ((Z++aA)) else none else if qC ((48:Int)+O) then some ((vG ([(IntKind.wrap .u8 ((48:Int)+O))]:pL))) else none
def aCB (O:vI):Unit:=()
section
variable (O:vI)
abbrev a2l:List qB:=[(.val xA O,none)]
abbrev a2m:List q9:=[]
@[go_sem] def a2n:qH:=⟨[],[(.val xA (O.1,(O.2.1,(O.2.2.1,()))),none)],[]⟩
def aCC:List qB→List q9→Option qH:=rP (V:=vI) (a2l) (fun x=>a2m) fun x=>a2n x
@[go_sem] def aPH:aCC (no_index (a2l O)) (no_index a2m)=some (a2n O):=rR (fun a0 b0 h1 h2=>by cases h1;cases h2;rfl) O
end
@[go_sem] abbrev aCD:Nat×qW:=(21,⟨[.v],aCC,[],[],none⟩)
def a2o:rI Tryz.prog [sL,wE,GP,NJ] (rJ []):=⟨⟨sO,⟨x4,⟨L2,⟨WN,trivial⟩⟩⟩⟩,rN,rL⟩
def aLr:r5 Tryz.prog aCD:=by
 refine rS a2o Tryz.func21 (c:=_) rfl (N:=10) pT (ts:=[(2,some 46)]) rfl (fun _ _=>rfl) ?_;intro O hs hrow;dsimp only[a2l,a2m,a2n,rM,qM,qY,r7,rO,Nat.reduceAdd] at hs hrow|-;obtain⟨z0,d⟩: ∃z,(aCB O)=z:=⟨_,rfl⟩
 try rw[d]
 unfold aCB at d;refine q8 a2o ?_;refine q8 a2o ?_;refine qR ?_;cases d;exact pE []
def aCE (O:vI):Unit:=()
section
variable (O:vI)
abbrev a2p:List qB:=[(.val xA O,none)]
abbrev a2q:List q9:=[]
@[go_sem] def a2r:qH:=⟨[],[(.val .clo (some (57,[(0,0)])),none)],[.cells xA O []]⟩
def aCF:List qB→List q9→Option qH:=rP (V:=vI) (a2p) (fun x=>a2q) fun x=>a2r x
@[go_sem] def aPI:aCF (no_index (a2p O)) (no_index a2q)=some (a2r O):=rR (fun a0 b0 h1 h2=>by cases h1;cases h2;rfl) O
end
@[go_sem] abbrev aCG:Nat×qW:=(27,⟨[.v],aCF,[],[],none⟩)
def a2s:rI Tryz.prog [GP] (rJ []):=⟨⟨L2,trivial⟩,rN,rL⟩
def aLs:r5 Tryz.prog aCG:=by
 refine rS a2s Tryz.func27 (c:=_) rfl (N:=4) pT (ts:=[(2,none)]) rfl (fun _ _=>rfl) ?_;intro O hs hrow;dsimp only[a2p,a2q,a2r,rM,qM,qY,r7,rO,Nat.reduceAdd] at hs hrow|-;obtain⟨z0,d⟩: ∃z,(aCE O)=z:=⟨_,rfl⟩
 try rw[d]
 unfold aCE at d;refine q8 a2s ?_;refine q8 a2s ?_;refine qR ?_;cases d;exact pE [(0,0)]
def DD (O:(pL×Unit)) (Z:pC):Option Unit:=if List.length O.1+Z.length≤140737488355328 then some (()) else none
section
variable (O:pC) (Z:(pL×Unit)) (aA:Nat)
abbrev a2t:List qB:=[(.val .ref (some (0,0)),none),(.val .str O,none)]
abbrev a2u:List q9:=[.cells wD ((some (0,0)),Z) [(1,1)],.grow 5 1 aA]
@[go_sem] def a2v:qH:=⟨[aA=(Z.1.length),((DD Z O)).isSome=true],[(.val (.int .i64) (O.length:Int),none),(.any,none)],[.cells wD ((some (0,0)),((Z.1++uR O),())) [(1,1)],.grow 5 1 ((Z.1++uR O).length)]⟩
def aCH:List qB→List q9→Option qH:=rP (V:=(pC×(pL×Unit)×Nat)) (fun x=>a2t x.1) (fun x=>a2u x.2.1 x.2.2) fun x=>a2v x.1 x.2.1 x.2.2
@[go_sem] def aPJ:aCH (no_index (a2t O)) (no_index (a2u Z aA))=some (a2v O Z aA):=rR (fun⟨a0,a1,a2⟩ ⟨b0,b1,b2⟩ h1 h2=>by cases h1;cases h2;rfl) (O,Z,aA)
end
@[go_sem] abbrev WR:Nat×qW:=(30,⟨[.p wD [1],.v],aCH,[],[],none⟩)
def R3:rI Tryz.prog [sL,FH,GQ] (rJ [IQ]):=⟨⟨sO,⟨IS,⟨L3,trivial⟩⟩⟩,qK QZ rN,rL⟩
def a2w:r5 Tryz.prog WR:=by
 refine rS R3 Tryz.func30 (c:=_) rfl (N:=19) pT (ts:=[(4,none),(5,none)]) rfl (fun _ _=>rfl) ?_;intro⟨O,Z,aA⟩ hs hrow;dsimp only[a2t,a2u,a2v,rM,qM,qY,r7,rO,Nat.reduceAdd] at hs hrow|-;obtain⟨rfl,hz⟩:=hs;obtain⟨z0,d⟩:=aRh.1 hz
 try rw[rY d]
 clear hz;unfold DD at d;refine q8 R3 ?_;refine q8 R3 ?_ (hp:=by first|rfl|trivial)
 obtain⟨hg1,d⟩:=qG d;refine q8 R3 ?_ (hp:=by exact⟨pS,hg1⟩)
 refine q8 R3 ?_;refine qR ?_;cases d;exact pE [(0,0),(1,1)]
attribute [irreducible] a2j a2k aCA DD
end
noncomputable section
def aCI (O:pC):Unit:=()
section
variable (O:pC)
abbrev a2x:List qB:=[(.val .str O,none)]
abbrev a2y:List q9:=[]
@[go_sem] def a2z:qH:=⟨[],[(.val .clo (some (78,[(0,0)])),none)],[.cells .str O []]⟩
def aCJ:List qB→List q9→Option qH:=rP (V:=pC) (a2x) (fun x=>a2y) fun x=>a2z x
@[go_sem] def aPK:aCJ (no_index (a2x O)) (no_index a2y)=some (a2z O):=rR (fun a0 b0 h1 h2=>by cases h1;cases h2;rfl) O
end
@[go_sem] abbrev aCK:Nat×qW:=(50,⟨[.v],aCJ,[],[],none⟩)
def a2A:rI Tryz.prog [sL] (rJ []):=⟨⟨sO,trivial⟩,rN,rL⟩
def aLt:r5 Tryz.prog aCK:=by
 refine rS a2A Tryz.func50 (c:=_) rfl (N:=4) pT (ts:=[(2,none)]) rfl (fun _ _=>rfl) ?_;intro O hs hrow;dsimp only[a2x,a2y,a2z,rM,qM,qY,r7,rO,Nat.reduceAdd] at hs hrow|-;obtain⟨z0,e⟩: ∃z,(aCI O)=z:=⟨_,rfl⟩
 try rw[e]
 unfold aCI at e;refine q8 a2A ?_;refine q8 a2A ?_;refine qR ?_;cases e;exact pE [(0,0)]
def zD (O:(List s9)) (Z:Int) (aA:Int) (aB:sV) (aC:(pL×Unit)) (aD:Int) (aE:pJ):Option (Int×Int):=if (decide (aA=(0:Int)))=true then if 0≤(0:Int)∧(0:Int)<(O.length:Int) then some (((qU sM O (0:Int)).2.2.1,aD)) else none else some ((Z,aA))
section
variable (O:Int) (Z:(List s9)) (aA:Int) (aB:Int) (aC:sV) (aD:(pL×Unit)) (aE:Nat) (aF:Nat) (aG:pJ)
abbrev a2B:List qB:=[(.val .ref (some (0,0)),none),(.val (.int .i64) O,none)]
abbrev a2C:List q9:=[.cells sN (Z,(aA,(aB,(aC,((some 3),aD))))) [(6,1),(8,2)],.grow 53 7 aE,.grow 3 1 aF,.map .str .bool aG]
@[go_sem] def a2D:qH:=⟨[aE=(aC.2.2.2.1.length),aF=(aD.1.length),((zD Z aA aB aC aD O aG)).isSome=true],[],[.cells sN (Z,((val (zD Z aA aB aC aD O aG)).1,((val (zD Z aA aB aC aD O aG)).2,((aC.1,(aC.2.1,(aC.2.2.1,(aC.2.2.2.1,())))),((some 3),(aD.1,())))))) [(6,1),(8,2)],.grow 53 7 (aC.2.2.2.1.length),.grow 3 1 (aD.1.length),.map .str .bool aG]⟩
def aCL:List qB→List q9→Option qH:=rP (V:=(Int×(List s9)×Int×Int×sV×(pL×Unit)×Nat×Nat×pJ)) (fun x=>a2B x.1) (fun x=>a2C x.2.1 x.2.2.1 x.2.2.2.1 x.2.2.2.2.1 x.2.2.2.2.2.1 x.2.2.2.2.2.2.1 x.2.2.2.2.2.2.2.1 x.2.2.2.2.2.2.2.2) fun x=>a2D x.1 x.2.1 x.2.2.1 x.2.2.2.1 x.2.2.2.2.1 x.2.2.2.2.2.1 x.2.2.2.2.2.2.1 x.2.2.2.2.2.2.2.1 x.2.2.2.2.2.2.2.2
@[go_sem] def aPL:aCL (no_index (a2B O)) (no_index (a2C Z aA aB aC aD aE aF aG))=some (a2D O Z aA aB aC aD aE aF aG):=rR (fun⟨a0,a1,a2,a3,a4,a5,a6,a7,a8⟩ ⟨b0,b1,b2,b3,b4,b5,b6,b7,b8⟩ h1 h2=>by cases h1;cases h2;rfl) (O,Z,aA,aB,aC,aD,aE,aF,aG)
end
@[go_sem] abbrev L5:Nat×qW:=(56,⟨[.p sN [6,8],.v],aCL,[(0,7,.m)],[1,2,3],none⟩)
def a2E:rI Tryz.prog [xK,CL,CJ,BI,AC] (rJ []):=⟨⟨yA,⟨E8,⟨GO,⟨DB,⟨FF,trivial⟩⟩⟩⟩⟩,rN,rL⟩
def NM:r5 Tryz.prog L5:=by
 refine rS a2E Tryz.func56 (c:=_) rfl (N:=23) pT (ts:=[]) rfl (fun _ _=>rfl) ?_;intro⟨O,Z,aA,aB,aC,aD,aE,aF,aG⟩ hs hrow;dsimp only[a2B,a2C,a2D,rM,qM,qY,r7,rO,Nat.reduceAdd] at hs hrow|-;obtain⟨rfl,rfl,hz⟩:=hs;obtain⟨z0,e⟩:=aRh.1 hz
 try rw[rY e]
 clear hz;unfold zD at e;refine q8 a2E ?_;refine qV e (fun e hc1=> ?_) (fun e hc1=> ?_)
 .obtain⟨hg1,e⟩:=qG e;refine rF a2E ?_ (hp:=by exact hg1);cases e;exact pE [(0,0),(1,1),(2,2),(3,3)]
 .refine r8 ?_;cases e;exact pE [(0,0),(1,1),(2,2),(3,3)]
def L6 (O:vI):Option Unit:=if (([O.1]:pD).length+O.2.1.length)*16≤140737488355328 then if ((([O.1]:pD)++O.2.1).length+([O.2.2.1]:pD).length)*16≤140737488355328 then some (()) else none else none
section
variable (O:vI)
abbrev a2F:List qB:=[(.val xA O,none)]
abbrev a2G:List q9:=[]
@[go_sem] def a2H:qH:=⟨[((L6 O)).isSome=true],[(.val (.list .str) ((([O.1]:pD)++O.2.1)++([O.2.2.1]:pD)),some 0)],[.grow 9 1 (((([O.1]:pD)++O.2.1)++([O.2.2.1]:pD)).length)]⟩
def aCM:List qB→List q9→Option qH:=rP (V:=vI) (a2F) (fun x=>a2G) fun x=>a2H x
@[go_sem] def aPM:aCM (no_index (a2F O)) (no_index a2G)=some (a2H O):=rR (fun a0 b0 h1 h2=>by cases h1;cases h2;rfl) O
end
@[go_sem] abbrev aCN:Nat×qW:=(62,⟨[.v],aCM,[],[],none⟩)
def a2I:rI Tryz.prog [sL,wE,NJ] (rJ []):=⟨⟨sO,⟨x4,⟨WN,trivial⟩⟩⟩,rN,rL⟩
def aLu:r5 Tryz.prog aCN:=by
 refine rS a2I Tryz.func62 (c:=_) rfl (N:=13) pT (ts:=[(2,none)]) rfl (fun _ _=>rfl) ?_;intro O hs hrow;dsimp only[a2F,a2G,a2H,rM,qM,qY,r7,rO,Nat.reduceAdd] at hs hrow|-;have hz:=hs;obtain⟨z0,e⟩:=aRh.1 hz
 try rw[rY e]
 clear hz hs;unfold L6 at e;refine q8 a2I ?_;obtain⟨hg1,e⟩:=qG e;obtain⟨hg2,e⟩:=qG e;refine vQ a2I ?_ (hp:=by exact⟨pS,hg1,pS,hg2⟩)
 refine qR ?_;cases e;exact pE [(0,128)]
def R4 (O:pC):Nat→Option (Nat⊕(Unit⊕Bool)):=fun Z=>if (decide (Z<O.length))=true then if (decide (Z<O.length))=true then if (((((decide ((xP O Z)<(97:Int)))||(decide ((122:Int)<(xP O Z))))&&((decide ((xP O Z)<(65:Int)))||(decide ((90:Int)<(xP O Z)))))&&((decide ((xP O Z)<(48:Int)))||(decide ((57:Int)<(xP O Z)))))&&(!decide ((xP O Z)=(45:Int))))=true then some (.inr (.inr (false))) else some (.inl (AQ O Z)) else none else some (.inr (.inl ()))
def EA (O:pC):Option Bool:=vA (rU (R4 O) 0) fun _=>some (((decide ((1:Int)≤(O.length:Int)))&&(decide ((O.length:Int)≤(40:Int)))))
section
variable (O:pC)
abbrev a2J:List qB:=[(.val .str O,none)]
abbrev a2K:List q9:=[]
@[go_sem] def a2L:qH:=⟨[((EA O)).isSome=true],[(.val .bool (val (EA O)),none)],[]⟩
def aCO:List qB→List q9→Option qH:=rP (V:=pC) (a2J) (fun x=>a2K) fun x=>a2L x
@[go_sem] def aPN:aCO (no_index (a2J O)) (no_index a2K)=some (a2L O):=rR (fun a0 b0 h1 h2=>by cases h1;cases h2;rfl) O
end
@[go_sem] abbrev WS:Nat×qW:=(63,⟨[.v],aCO,[],[],none⟩)
def IX:rI Tryz.prog [sL] (rJ []):=⟨⟨sO,trivial⟩,rN,rL⟩
def a2M:r5 Tryz.prog WS:=by
 refine rS IX Tryz.func63 (c:=_) rfl (N:=44) pT (ts:=[(2,none)]) rfl (fun _ _=>rfl) ?_;intro O hs hrow;dsimp only[a2J,a2K,a2L,rM,qM,qY,r7,rO,Nat.reduceAdd] at hs hrow|-;have hz:=hs;obtain⟨z0,e⟩:=aRh.1 hz
 try rw[rY e]
 clear hz hs;unfold EA at e;refine q8 IX ?_;refine qS ?_;refine q8 IX ?_;refine rW ?_;obtain⟨y1,hy1,e⟩:=wX e;refine uV 0 (fun s=> ∃v,y1= .inl v∧s=(fun _=>⟨[(0,(.val .str O,none))],[],0,44,0⟩) v) ?_ ?_
 .refine uP hy1 (fun x=>⟨[(0,(.val .str O,none)),(6,(.val .ref (some (0,0)),none))],[(0,.iter O x)],1,44,0⟩) ⟨[0,6],[(0,64)]⟩ pU ?_;intro Z w1 n1 f g;unfold R4 at f;dsimp only at f|-;refine q8 IX ?_;refine qS ?_;refine qV f (fun f hc1=> ?_) (fun f hc1=> ?_)
  .refine r8 (qO (rW ?_));obtain⟨hg1,f⟩:=qG f;refine q8 IX ?_ (hp:=by exact hg1);refine q8 IX ?_ (hp:=by exact⟨id,sU,id,id,id,id,fun hG d=>IJ hG d,sY,id,id,id,id,fun hG d=>IJ hG d,sY,id,sY⟩);refine qV f (fun f hc2=> ?_) (fun f hc2=> ?_)
   .refine q8 IX ?_;refine qR (s8 (wP (wW (s8 (rQ ?_)))));cases f;cases g;dsimp only at e;cases e;exact pE []
   .refine r8 (rT ?_);cases f;exact tC ⟨⟨[0,6],[(0,0)]⟩,_,by rfl,g⟩
  .refine uJ (uI (uL ?_));cases f;cases g;exact uK ⟨⟨[0],[]⟩,_,rfl,by rfl⟩
 .rintro _ ⟨v,rfl,rfl⟩;dsimp only at e|-;refine uU (qO ?_);refine q8 IX ?_ (hp:=by exact⟨id,id,sY⟩);refine qR ?_;cases e;exact pE []
attribute [irreducible] zD L6 EA
end
noncomputable section
def xL (O:(List s9)) (Z:Int) (aA:Int) (aB:sV) (aC:(pL×Unit)) (aD:Bool) (aE:Bool) (aF:Bool) (aG:pJ):Option (Int×Int):=if aD=true then (zD O Z aA aB aC (3:Int) aG).bind fun aH=>some ((aH.1,aH.2)) else if aE=true then (zD O Z aA aB aC (9:Int) aG).bind fun aI=>some ((aI.1,aI.2)) else if aF=true then (zD O Z aA aB aC (6:Int) aG).bind fun aJ=>some ((aJ.1,aJ.2)) else some ((Z,aA))
section
variable (O:Bool) (Z:Bool) (aA:Bool) (aB:(List s9)) (aC:Int) (aD:Int) (aE:sV) (aF:(pL×Unit)) (aG:Nat) (aH:Nat) (aI:pJ)
abbrev a2N:List qB:=[(.val .ref (some (0,0)),none),(.val .bool O,none),(.val .bool Z,none),(.val .bool aA,none)]
abbrev a2O:List q9:=[.cells sN (aB,(aC,(aD,(aE,((some 3),aF))))) [(6,1),(8,2)],.grow 53 7 aG,.grow 3 1 aH,.map .str .bool aI]
@[go_sem] def a2P:qH:=⟨[aG=(aE.2.2.2.1.length),aH=(aF.1.length),((xL aB aC aD aE aF O Z aA aI)).isSome=true],[],[.cells sN (aB,((val (xL aB aC aD aE aF O Z aA aI)).1,((val (xL aB aC aD aE aF O Z aA aI)).2,((aE.1,(aE.2.1,(aE.2.2.1,(aE.2.2.2.1,())))),((some 3),(aF.1,())))))) [(6,1),(8,2)],.grow 53 7 (aE.2.2.2.1.length),.grow 3 1 (aF.1.length),.map .str .bool aI]⟩
def aCP:List qB→List q9→Option qH:=rP (V:=(Bool×Bool×Bool×(List s9)×Int×Int×sV×(pL×Unit)×Nat×Nat×pJ)) (fun x=>a2N x.1 x.2.1 x.2.2.1) (fun x=>a2O x.2.2.2.1 x.2.2.2.2.1 x.2.2.2.2.2.1 x.2.2.2.2.2.2.1 x.2.2.2.2.2.2.2.1 x.2.2.2.2.2.2.2.2.1 x.2.2.2.2.2.2.2.2.2.1 x.2.2.2.2.2.2.2.2.2.2) fun x=>a2P x.1 x.2.1 x.2.2.1 x.2.2.2.1 x.2.2.2.2.1 x.2.2.2.2.2.1 x.2.2.2.2.2.2.1 x.2.2.2.2.2.2.2.1 x.2.2.2.2.2.2.2.2.1 x.2.2.2.2.2.2.2.2.2.1 x.2.2.2.2.2.2.2.2.2.2
@[go_sem] def aPO:aCP (no_index (a2N O Z aA)) (no_index (a2O aB aC aD aE aF aG aH aI))=some (a2P O Z aA aB aC aD aE aF aG aH aI):=rR (fun⟨a0,a1,a2,a3,a4,a5,a6,a7,a8,a9,a10⟩ ⟨b0,b1,b2,b3,b4,b5,b6,b7,b8,b9,b10⟩ h1 h2=>by cases h1;cases h2;rfl) (O,Z,aA,aB,aC,aD,aE,aF,aG,aH,aI)
end
@[go_sem] abbrev EB:Nat×qW:=(81,⟨[.p sN [6,8],.v,.v,.v],aCP,[(0,7,.m)],[1,2,3],none⟩)
def L7:rI Tryz.prog [] (rJ [L5]):=⟨trivial,qK NM rN,rL⟩
def FL:r5 Tryz.prog EB:=by
 refine rS L7 Tryz.func81 (c:=_) rfl (N:=20) pT (ts:=[]) rfl (fun _ _=>rfl) ?_;intro⟨O,Z,aA,aB,aC,aD,aE,aF,aG,aH,aI⟩ hs hrow;dsimp only[a2N,a2O,a2P,rM,qM,qY,r7,rO,Nat.reduceAdd] at hs hrow|-;obtain⟨rfl,rfl,hz⟩:=hs;obtain⟨z0,e⟩:=aRh.1 hz
 try rw[rY e]
 clear hz;unfold xL at e;refine rW ?_;refine q8 L7 ?_;refine qV e (fun e hc1=> ?_) (fun e hc1=> ?_)
 .obtain⟨aJ,hv1,hw1,e⟩:=qQ e
  try simp only[go_sem] at hw1
  refine rF L7 ?_ (hp:=by exact⟨pS,pS,pS,pS,pS,(qP hv1)⟩) (h:=by simp only[go_sem,hw1];rfl)
  refine rT ?_;cases e;exact pE [(0,0),(1,1),(2,2),(3,3)]
 .refine q8 L7 ?_;refine qV e (fun e hc2=> ?_) (fun e hc2=> ?_)
  .obtain⟨aK,hv2,hw2,e⟩:=qQ e
   try simp only[go_sem] at hw2
   refine rF L7 ?_ (hp:=by exact⟨pS,pS,pS,pS,pS,(qP hv2)⟩) (h:=by simp only[go_sem,hw2];rfl)
   refine rT ?_;cases e;exact pE [(0,0),(1,1),(2,2),(3,3)]
  .refine q8 L7 ?_;refine qV e (fun e hc3=> ?_) (fun e hc3=> ?_)
   .obtain⟨aL,hv3,hw3,e⟩:=qQ e
    try simp only[go_sem] at hw3
    refine rF L7 ?_ (hp:=by exact⟨pS,pS,pS,pS,pS,(qP hv3)⟩) (h:=by simp only[go_sem,hw3];rfl)
    refine rT ?_;cases e;exact pE [(0,0),(1,1),(2,2),(3,3)]
   .refine r8 (rT ?_);cases e;exact pE [(0,0),(1,1),(2,2),(3,3)]
def xT (O:(List s9)) (Z:Int) (aA:Int) (aB:sV) (aC:(pL×Unit)) (aD:pJ):Option (List s9):=if 0≤(0:Int)∧(0:Int)<(O.length:Int) then if 0≤(0:Int)∧(0:Int)<(O.length:Int) then if qC ((qU sM O (0:Int)).2.2.1+(((qU sM O (0:Int)).2.1).length:Int)) then if ((decide (aA=(0:Int)))&&(decide ((1:Int)<(O.length:Int))))=true then if 0≤(1:Int)∧(1:Int)≤(O.length:Int)∧(O.length:Int)≤(O.length:Int) then some ((sC O (1:Int) (O.length:Int))) else none else some (O) else none else none else none
section
variable (O:(List s9)) (Z:Int) (aA:Int) (aB:sV) (aC:(pL×Unit)) (aD:Nat) (aE:Nat) (aF:pJ)
abbrev a2Q:List qB:=[(.val .ref (some (0,0)),none)]
abbrev a2R:List q9:=[.cells sN (O,(Z,(aA,(aB,((some 3),aC))))) [(6,1),(8,2)],.grow 53 7 aD,.grow 3 1 aE,.map .str .bool aF]
@[go_sem] def a2S:qH:=⟨[aD=(aB.2.2.2.1.length),aE=(aC.1.length),((xT O Z aA aB aC aF)).isSome=true],[(.val (.int .i64) ((qU sM O (0:Int)).2.2.1+(((qU sM O (0:Int)).2.1).length:Int)),none)],[.cells sN ((val (xT O Z aA aB aC aF)),(Z,(aA,((aB.1,(aB.2.1,(aB.2.2.1,(aB.2.2.2.1,())))),((some 3),(aC.1,())))))) [(6,1),(8,2)],.grow 53 7 (aB.2.2.2.1.length),.grow 3 1 (aC.1.length),.map .str .bool aF]⟩
def aCQ:List qB→List q9→Option qH:=rP (V:=((List s9)×Int×Int×sV×(pL×Unit)×Nat×Nat×pJ)) (fun x=>a2Q) (fun x=>a2R x.1 x.2.1 x.2.2.1 x.2.2.2.1 x.2.2.2.2.1 x.2.2.2.2.2.1 x.2.2.2.2.2.2.1 x.2.2.2.2.2.2.2) fun x=>a2S x.1 x.2.1 x.2.2.1 x.2.2.2.1 x.2.2.2.2.1 x.2.2.2.2.2.1 x.2.2.2.2.2.2.1 x.2.2.2.2.2.2.2
@[go_sem] def aPP:aCQ (no_index a2Q) (no_index (a2R O Z aA aB aC aD aE aF))=some (a2S O Z aA aB aC aD aE aF):=rR (fun⟨a0,a1,a2,a3,a4,a5,a6,a7⟩ ⟨b0,b1,b2,b3,b4,b5,b6,b7⟩ h1 h2=>by cases h1;cases h2;rfl) (O,Z,aA,aB,aC,aD,aE,aF)
end
@[go_sem] abbrev IY:Nat×qW:=(82,⟨[.p sN [6,8]],aCQ,[(0,7,.m)],[1,2,3],none⟩)
def L8:rI Tryz.prog [xK,sL,CL,CJ,BI,AC] (rJ []):=⟨⟨yA,⟨sO,⟨E8,⟨GO,⟨DB,⟨FF,trivial⟩⟩⟩⟩⟩⟩,rN,rL⟩
def L9:r5 Tryz.prog IY:=by
 refine rS L8 Tryz.func82 (c:=_) rfl (N:=42) pT (ts:=[(2,none)]) rfl (fun _ _=>rfl) ?_;intro⟨O,Z,aA,aB,aC,aD,aE,aF⟩ hs hrow;dsimp only[a2Q,a2R,a2S,rM,qM,qY,r7,rO,Nat.reduceAdd] at hs hrow|-;obtain⟨rfl,rfl,hz⟩:=hs;obtain⟨z0,e⟩:=aRh.1 hz
 try rw[rY e]
 clear hz;unfold xT at e;refine q8 L8 ?_;obtain⟨hg1,e⟩:=qG e;obtain⟨hg2,e⟩:=qG e;obtain⟨hg3,e⟩:=qG e;refine vQ L8 ?_ (hp:=by exact⟨hg1,hg2,hg3⟩);refine qS ?_;refine q8 L8 ?_ (hp:=by exact⟨id,id,id,id,id,sY⟩);refine qV e (fun e hc1=> ?_) (fun e hc1=> ?_)
 .obtain⟨hg4,e⟩:=qG e;refine rF L8 ?_ (hp:=by exact hg4);refine qO ?_;refine q8 L8 ?_;refine qR ?_;cases e;exact pE [(0,0),(1,1),(2,2),(3,3)]
 .refine r8 (qO ?_);refine q8 L8 ?_;refine qR ?_;cases e;exact pE [(0,0),(1,1),(2,2),(3,3)]
def R5 (O:pD) (Z:pC):Int→Option (Int⊕(Unit⊕Int)):=fun aA=>if (decide (aA<(O.length:Int)))=true then if 0≤aA∧aA<(O.length:Int) then if (decide (Z=(qU .str O aA)))=true then some (.inr (.inr (aA))) else if qC (aA+(1:Int)) then some (.inl (aA+(1:Int))) else none else none else some (.inr (.inl ()))
def BK (O:pD) (Z:pC):Option Int:=vA (rU (R5 O Z) (0:Int)) fun _=>some ((-1:Int))
section
variable (O:pD) (Z:pC)
abbrev a2T:List qB:=[(.val (.list .str) O,none),(.val .str Z,none)]
abbrev a2U:List q9:=[]
@[go_sem] def a2V:qH:=⟨[((BK O Z)).isSome=true],[(.val (.int .i64) (val (BK O Z)),none)],[]⟩
def aCR:List qB→List q9→Option qH:=rP (V:=(pD×pC)) (fun x=>a2T x.1 x.2) (fun x=>a2U) fun x=>a2V x.1 x.2
@[go_sem] def aPQ:aCR (no_index (a2T O Z)) (no_index a2U)=some (a2V O Z):=rR (fun⟨a0,a1⟩ ⟨b0,b1⟩ h1 h2=>by cases h1;cases h2;rfl) (O,Z)
end
@[go_sem] abbrev WT:Nat×qW:=(92,⟨[.v,.v],aCR,[],[],none⟩)
def GS:rI Tryz.prog [sL,wE] (rJ []):=⟨⟨sO,⟨x4,trivial⟩⟩,rN,rL⟩
def a2W:r5 Tryz.prog WT:=by
 refine rS GS Tryz.func92 (c:=_) rfl (N:=19) pT (ts:=[(4,none)]) rfl (fun _ _=>rfl) ?_;intro⟨O,Z⟩ hs hrow;dsimp only[a2T,a2U,a2V,rM,qM,qY,r7,rO,Nat.reduceAdd] at hs hrow|-;have hz:=hs;obtain⟨z0,e⟩:=aRh.1 hz
 try rw[rY e]
 clear hz hs;unfold BK at e;refine q8 GS ?_;refine qS ?_;refine q8 GS ?_;refine rW ?_;obtain⟨y1,hy1,e⟩:=wX e;refine uV 0 (fun s=> ∃v,y1= .inl v∧s=(fun _=>⟨[],[],0,19,0⟩) v) ?_ ?_
 .refine uP hy1 (fun x=>⟨[(0,(.val (.list .str) O,none)),(1,(.val .str Z,none)),(7,(.val (.int .i64) (O.length:Int),none)),(8,(.val (.int .i64) x,none))],[],0,19,0⟩) ⟨[0,1,7,8],[]⟩ pU ?_;intro aA w1 n1 f g;unfold R5 at f;dsimp only at f|-;refine q8 GS ?_;refine qS ?_;refine qV f (fun f hc1=> ?_) (fun f hc1=> ?_)
  .refine r8 (qO (qS (rW ?_)));refine q8 GS ?_;obtain⟨hg1,f⟩:=qG f;refine q8 GS ?_ (hp:=by exact hg1);refine qV f (fun f hc2=> ?_) (fun f hc2=> ?_)
   .refine q8 GS ?_;refine qR (s8 (rQ (wP (wW (s8 (rQ ?_))))));cases f;cases g;dsimp only at e;cases e;exact pE []
   .refine r8 (rT (qO ?_));obtain⟨hg2,f⟩:=qG f;refine rF GS ?_ (hp:=by exact hg2);cases f;exact tC ⟨⟨[0,1,7,8],[]⟩,_,by rfl,g⟩
  .refine uJ (uI (uL ?_));cases f;cases g;exact uK ⟨⟨[],[]⟩,_,rfl,by rfl⟩
 .rintro _ ⟨v,rfl,rfl⟩;dsimp only at e|-;refine uU (qO ?_);refine q8 GS ?_;refine qR ?_;cases e;exact pE []
def NN (O:pC):Nat→Option (Nat⊕(Unit⊕Bool)):=fun Z=>if (decide (Z<O.length))=true then if (decide (Z<O.length))=true then if (decide (Z<O.length))=true then if ((decide ((97:Int)≤(xP O Z)))&&(decide ((xP O Z)≤(122:Int))))=true then some (.inl (AQ O Z)) else if ((decide ((0:Int)<((Z:Nat):Int)))&&(((((decide ((48:Int)≤(xP O Z)))&&(decide ((xP O Z)≤(57:Int))))||(decide ((xP O Z)=(45:Int))))||(decide ((xP O Z)=(95:Int))))||(decide ((xP O Z)=(46:Int)))))=true then some (.inl (AQ O Z)) else some (.inr (.inr (false))) else none else none else some (.inr (.inl ()))
def CO (O:pC):Option Bool:=vA (rU (NN O) 0) fun _=>some (((decide ((1:Int)≤(O.length:Int)))&&(decide ((O.length:Int)≤(40:Int)))))
section
variable (O:pC)
abbrev a2X:List qB:=[(.val .str O,none)]
abbrev a2Y:List q9:=[]
@[go_sem] def a2Z:qH:=⟨[((CO O)).isSome=true],[(.val .bool (val (CO O)),none)],[]⟩
def aCS:List qB→List q9→Option qH:=rP (V:=pC) (a2X) (fun x=>a2Y) fun x=>a2Z x
@[go_sem] def aPR:aCS (no_index (a2X O)) (no_index a2Y)=some (a2Z O):=rR (fun a0 b0 h1 h2=>by cases h1;cases h2;rfl) O
end
@[go_sem] abbrev NO:Nat×qW:=(98,⟨[.v],aCS,[],[],none⟩)
def FM:rI Tryz.prog [sL] (rJ []):=⟨⟨sO,trivial⟩,rN,rL⟩
def R6:r5 Tryz.prog NO:=by
 refine rS FM Tryz.func98 (c:=_) rfl (N:=51) pT (ts:=[(2,none)]) rfl (fun _ _=>rfl) ?_;intro O hs hrow;dsimp only[a2X,a2Y,a2Z,rM,qM,qY,r7,rO,Nat.reduceAdd] at hs hrow|-;have hz:=hs;obtain⟨z0,e⟩:=aRh.1 hz
 try rw[rY e]
 clear hz hs;unfold CO at e;refine q8 FM ?_;refine qS ?_;refine q8 FM ?_;refine rW ?_;obtain⟨y1,hy1,e⟩:=wX e;refine uV 0 (fun s=> ∃v,y1= .inl v∧s=(fun _=>⟨[(0,(.val .str O,none))],[],0,51,0⟩) v) ?_ ?_
 .refine uP hy1 (fun x=>⟨[(0,(.val .str O,none)),(7,(.val .ref (some (0,0)),none))],[(0,.iter O x)],1,51,0⟩) ⟨[0,7],[(0,64)]⟩ pU ?_;intro Z w1 n1 f g;unfold NN at f;dsimp only at f|-;refine q8 FM ?_;refine qS ?_;refine qV f (fun f hc1=> ?_) (fun f hc1=> ?_)
  .refine r8 (qO (rW ?_));obtain⟨hg1,f⟩:=qG f;obtain⟨hg2,f⟩:=qG f;refine q8 FM ?_ (hp:=by exact⟨hg1,hg2⟩);refine q8 FM ?_ (hp:=by exact⟨id,sY⟩);refine rW ?_;refine q8 FM ?_;refine qV f (fun f hc2=> ?_) (fun f hc2=> ?_)
   .refine r8 (rT (rT ?_));cases f;exact tC ⟨⟨[0,7],[(0,0)]⟩,_,by rfl,g⟩
   .refine q8 FM ?_ (hp:=by exact⟨id,id,id,id,fun hG d=>W3 hG d,id,id,id,fun hG d=>IJ hG d,id,id,id,fun hG d=>IJ hG d,id,id,id,fun hG d=>IJ hG d,sY⟩);refine qV f (fun f hc3=> ?_) (fun f hc3=> ?_)
    .refine r8 (rT (rT ?_));cases f;exact tC ⟨⟨[0,7],[(0,0)]⟩,_,by rfl,g⟩
    .refine q8 FM ?_;refine qR (s8 (s8 (wP (wW (s8 (rQ ?_))))));cases f;cases g;dsimp only at e;cases e;exact pE []
  .refine uJ (uI (uL ?_));cases f;cases g;exact uK ⟨⟨[0],[]⟩,_,rfl,by rfl⟩
 .rintro _ ⟨v,rfl,rfl⟩;dsimp only at e|-;refine uU (qO ?_);refine q8 FM ?_ (hp:=by exact⟨id,id,sY⟩);refine qR ?_;cases e;exact pE []
attribute [irreducible] xL xT BK CO
end
noncomputable section
def R7 (O:pD):Int→Option (Int⊕(Unit⊕Bool)):=fun Z=>if (decide (Z<(O.length:Int)))=true then if 0≤Z∧Z<(O.length:Int) then (CO (qU .str O Z)).bind fun aA=>if ((((!aA)==false)&&((decide ((0:Int)<Z))==true))=true→qC (Z- (1:Int))) then if ((((!aA)==false)&&((decide ((0:Int)<Z))==true))=true→0≤(Z- (1:Int))∧(Z- (1:Int))<(O.length:Int)) then if ((!aA)||((decide ((0:Int)<Z))&&(!Op.bytesLess (qU .str O (Z- (1:Int))) (qU .str O Z))))=true then some (.inr (.inr (false))) else if qC (Z+(1:Int)) then some (.inl (Z+(1:Int))) else none else none else none else none else some (.inr (.inl ()))
def GT (O:pD):Option Bool:=vA (rU (R7 O) (0:Int)) fun _=>some ((decide ((O.length:Int)≤(20:Int))))
section
variable (O:pD)
abbrev a24:List qB:=[(.val (.list .str) O,none)]
abbrev a26:List q9:=[]
@[go_sem] def a27:qH:=⟨[((GT O)).isSome=true],[(.val .bool (val (GT O)),none)],[]⟩
def aCT:List qB→List q9→Option qH:=rP (V:=pD) (a24) (fun x=>a26) fun x=>a27 x
@[go_sem] def aPS:aCT (no_index (a24 O)) (no_index a26)=some (a27 O):=rR (fun a0 b0 h1 h2=>by cases h1;cases h2;rfl) O
end
@[go_sem] abbrev aCU:Nat×qW:=(99,⟨[.v],aCT,[],[],none⟩)
def GU:rI Tryz.prog [sL,wE] (rJ [NO]):=⟨⟨sO,⟨x4,trivial⟩⟩,qK R6 rN,rL⟩
def aLv:r5 Tryz.prog aCU:=by
 refine rS GU Tryz.func99 (c:=_) rfl (N:=32) pT (ts:=[(2,none)]) rfl (fun _ _=>rfl) ?_;intro O hs hrow;dsimp only[a24,a26,a27,rM,qM,qY,r7,rO,Nat.reduceAdd] at hs hrow|-;have hz:=hs;obtain⟨z0,d⟩:=aRh.1 hz
 try rw[rY d]
 clear hz hs;unfold GT at d;refine q8 GU ?_;refine qS ?_;refine q8 GU ?_;refine rW ?_;obtain⟨y1,hy1,d⟩:=wX d;refine uV 0 (fun s=> ∃v,y1= .inl v∧s=(fun _=>⟨[(0,(.val (.list .str) O,none))],[],0,32,0⟩) v) ?_ ?_
 .refine uP hy1 (fun x=>⟨[(0,(.val (.list .str) O,none)),(5,(.val (.list .str) O,none)),(6,(.val (.int .i64) (O.length:Int),none)),(7,(.val (.int .i64) x,none))],[],0,32,0⟩) ⟨[0,5,6,7],[]⟩ pU ?_;intro Z w1 n1 f g;unfold R7 at f;dsimp only at f|-;refine q8 GU ?_;refine qS ?_;refine qV f (fun f hc1=> ?_) (fun f hc1=> ?_)
  .refine r8 (qO (qS (rW ?_)));obtain⟨hg1,f⟩:=qG f;refine q8 GU ?_ (hp:=by exact hg1);obtain⟨aA,hv2,hw2,f⟩:=qQ f
   try simp only[go_sem] at hw2
   obtain⟨hg3,f⟩:=qG f;obtain⟨hg4,f⟩:=qG f;refine q8 GU ?_ (hp:=by exact⟨qP hv2,id,id,id,hg3,id,id,hg4,id,id,id,id,fun hG e=>W3 hG e,sU⟩) (h:=by simp only[go_sem,hw2];rfl);refine qV f (fun f hc2=> ?_) (fun f hc2=> ?_)
   .refine q8 GU ?_;refine qR (s8 (rQ (wP (wW (s8 (rQ ?_))))));cases f;cases g;dsimp only at d;cases d;exact pE []
   .refine r8 (rT (qO ?_));obtain⟨hg5,f⟩:=qG f;refine rF GU ?_ (hp:=by exact hg5);cases f;exact tC ⟨⟨[0,5,6,7],[]⟩,_,by rfl,g⟩
  .refine uJ (uI (uL ?_));cases f;cases g;exact uK ⟨⟨[0],[]⟩,_,rfl,by rfl⟩
 .rintro _ ⟨v,rfl,rfl⟩;dsimp only at d|-;refine uU (qO ?_);refine q8 GU ?_;refine qR ?_;cases d;exact pE []
def EC (O:pD) (Z:pC):Option Bool:=(BK O Z).bind fun aA=>some ((decide ((0:Int)≤aA)))
section
variable (O:pD) (Z:pC)
abbrev a28:List qB:=[(.val (.list .str) O,none),(.val .str Z,none)]
abbrev a29:List q9:=[]
@[go_sem] def a3a:qH:=⟨[((EC O Z)).isSome=true],[(.val .bool (val (EC O Z)),none)],[]⟩
def aCV:List qB→List q9→Option qH:=rP (V:=(pD×pC)) (fun x=>a28 x.1 x.2) (fun x=>a29) fun x=>a3a x.1 x.2
@[go_sem] def aPT:aCV (no_index (a28 O Z)) (no_index a29)=some (a3a O Z):=rR (fun⟨a0,a1⟩ ⟨b0,b1⟩ h1 h2=>by cases h1;cases h2;rfl) (O,Z)
end
@[go_sem] abbrev WU:Nat×qW:=(112,⟨[.v,.v],aCV,[],[],none⟩)
def a3b:rI Tryz.prog [] (rJ [WT]):=⟨trivial,qK a2W rN,rL⟩
def a3c:r5 Tryz.prog WU:=by
 refine rS a3b Tryz.func112 (c:=_) rfl (N:=9) pT (ts:=[(4,none)]) rfl (fun _ _=>rfl) ?_;intro⟨O,Z⟩ hs hrow;dsimp only[a28,a29,a3a,rM,qM,qY,r7,rO,Nat.reduceAdd] at hs hrow|-;have hz:=hs;obtain⟨z0,d⟩:=aRh.1 hz
 try rw[rY d]
 clear hz hs;unfold EC at d;refine q8 a3b ?_;obtain⟨aA,hv1,hw1,d⟩:=qQ d
 try simp only[go_sem] at hw1
 refine q8 a3b ?_ (hp:=by exact(qP hv1)) (h:=by simp only[go_sem,hw1];rfl);refine qR ?_;cases d;exact pE []
def R9 (O:pC):Int→Option (Int⊕Int):=fun Z=>if (((decide (Z<(O.length:Int)))==true)=true→0≤Z∧Z<(O.length:Int)) then if ((((decide (Z<(O.length:Int)))&&(decide ((97:Int)≤(tM O Z))))==true)=true→0≤Z∧Z<(O.length:Int)) then if (((decide (Z<(O.length:Int)))&&(decide ((97:Int)≤(tM O Z))))&&(decide ((tM O Z)≤(122:Int))))=true then if qC (Z+(1:Int)) then some (.inl (Z+(1:Int))) else none else some (.inr Z) else none else none
def ED (O:pC):Option (pC×pC):=sJ (rU (R9 O) (0:Int)) fun Z=>if 0≤(0:Int)∧(0:Int)≤Z∧Z≤(O.length:Int) then if 0≤Z∧Z≤(O.length:Int)∧(O.length:Int)≤(O.length:Int) then some (((sC O (0:Int) Z),(sC O Z (O.length:Int)))) else none else none
section
variable (O:pC)
abbrev a3d:List qB:=[(.val .str O,none)]
abbrev a3e:List q9:=[]
@[go_sem] def a3f:qH:=⟨[((ED O)).isSome=true],[(.val .str ((val (ED O)).1),none),(.val .str ((val (ED O)).2),none)],[]⟩
def aCW:List qB→List q9→Option qH:=rP (V:=pC) (a3d) (fun x=>a3e) fun x=>a3f x
@[go_sem] def aPU:aCW (no_index (a3d O)) (no_index a3e)=some (a3f O):=rR (fun a0 b0 h1 h2=>by cases h1;cases h2;rfl) O
end
@[go_sem] abbrev a3g:Nat×qW:=(125,⟨[.v],aCW,[],[],none⟩)
def NP:rI Tryz.prog [sL] (rJ []):=⟨⟨sO,trivial⟩,rN,rL⟩
def aCX:r5 Tryz.prog a3g:=by
 refine rS NP Tryz.func125 (c:=_) rfl (N:=29) pT (ts:=[(2,none),(3,none)]) rfl (fun _ _=>rfl) ?_;intro O hs hrow;dsimp only[a3d,a3e,a3f,rM,qM,qY,r7,rO,Nat.reduceAdd] at hs hrow|-;have hz:=hs;obtain⟨z0,d⟩:=aRh.1 hz
 try rw[rY d]
 clear hz hs;unfold ED at d;refine q8 NP ?_;refine q8 NP ?_;refine qS (rW ?_);obtain⟨Z,hy1,d⟩:=qI d;refine uV 0 (fun s=>s=(fun x=>⟨[(0,(.val .str O,none)),(4,(.val (.int .i64) x,none))],[],0,29,0⟩) Z) ?_ ?_
 .refine uP hy1 (fun x=>⟨[(0,(.val .str O,none)),(4,(.val (.int .i64) x,none))],[],0,29,0⟩) ⟨[0,4],[]⟩ pU ?_;intro aA w1 n1 f g;unfold R9 at f;dsimp only at f|-;refine qS ?_;obtain⟨hg1,f⟩:=qG f;obtain⟨hg2,f⟩:=qG f;refine q8 NP ?_ (hp:=by exact⟨id,id,hg1,id,sY,id,id,hg2,id,sY⟩);refine qV f (fun f hc1=> ?_) (fun f hc1=> ?_)
  .refine r8 (qO (rW ?_));obtain⟨hg3,f⟩:=qG f;refine rF NP ?_ (hp:=by exact hg3);refine rT ?_;cases f;exact tC ⟨⟨[0,4],[]⟩,_,by rfl,g⟩
  .refine uJ (uI (uL ?_));cases f;cases g;exact uK ⟨⟨[0,4],[]⟩,by rfl⟩
 .rintro _ rfl;dsimp only at d|-;refine uU (qO ?_);obtain⟨hg4,d⟩:=qG d;obtain⟨hg5,d⟩:=qG d;refine vQ NP ?_ (hp:=by exact⟨hg4,hg5⟩);refine qR ?_;cases d;exact pE []
def aCY (O:r6) (Z:r6):Unit:=()
section
variable (O:r6) (Z:r6)
abbrev a3h:List qB:=[(.val (.pair .str (.pair .str .unit)) O,none),(.val .ref (some (0,0)),none)]
abbrev a3i:List q9:=[.cells (.pair .str (.pair .str .unit)) Z []]
@[go_sem] def a3j:qH:=⟨[],[(.val .bool (decide (O.1=Z.1)),none)],[.cells (.pair .str (.pair .str .unit)) Z []]⟩
def aCZ:List qB→List q9→Option qH:=rP (V:=(r6×r6)) (fun x=>a3h x.1) (fun x=>a3i x.2) fun x=>a3j x.1 x.2
@[go_sem] def aPV:aCZ (no_index (a3h O)) (no_index (a3i Z))=some (a3j O Z):=rR (fun⟨a0,a1⟩ ⟨b0,b1⟩ h1 h2=>by cases h1;cases h2;rfl) (O,Z)
end
@[go_sem] abbrev aC0:Nat×qW:=(129,⟨[.v,.p (.pair .str (.pair .str .unit)) []],aCZ,[],[0],none⟩)
def a3k:rI Tryz.prog [sL,BJ] (rJ []):=⟨⟨sO,⟨DC,trivial⟩⟩,rN,rL⟩
def aLw:r5 Tryz.prog aC0:=by
 refine rS a3k Tryz.func129 (c:=_) rfl (N:=9) pT (ts:=[(3,none)]) rfl (fun _ _=>rfl) ?_;intro⟨O,Z⟩ hs hrow;dsimp only[a3h,a3i,a3j,rM,qM,qY,r7,rO,Nat.reduceAdd] at hs hrow|-;obtain⟨z0,d⟩: ∃z,(aCY O Z)=z:=⟨_,rfl⟩
 try rw[d]
 unfold aCY at d;refine q8 a3k ?_;refine q8 a3k ?_;refine qR ?_;cases d;exact pE [(0,0)]
def NQ (O:pC):Option Bool:=(CO O).bind fun Z=>some ((!Z))
section
variable (O:pC)
abbrev a3l:List qB:=[(.val .str O,none)]
abbrev a3m:List q9:=[]
@[go_sem] def a3n:qH:=⟨[((NQ O)).isSome=true],[(.val .bool (val (NQ O)),none)],[]⟩
def aC1:List qB→List q9→Option qH:=rP (V:=pC) (a3l) (fun x=>a3m) fun x=>a3n x
@[go_sem] def aPW:aC1 (no_index (a3l O)) (no_index a3m)=some (a3n O):=rR (fun a0 b0 h1 h2=>by cases h1;cases h2;rfl) O
end
@[go_sem] abbrev aC2:Nat×qW:=(133,⟨[.v],aC1,[],[],none⟩)
def a3o:rI Tryz.prog [] (rJ [NO]):=⟨trivial,qK R6 rN,rL⟩
def aLx:r5 Tryz.prog aC2:=by
 refine rS a3o Tryz.func133 (c:=_) rfl (N:=6) pT (ts:=[(2,none)]) rfl (fun _ _=>rfl) ?_;intro O hs hrow;dsimp only[a3l,a3m,a3n,rM,qM,qY,r7,rO,Nat.reduceAdd] at hs hrow|-;have hz:=hs;obtain⟨z0,d⟩:=aRh.1 hz
 try rw[rY d]
 clear hz hs;unfold NQ at d;refine q8 a3o ?_;obtain⟨Z,hv1,hw1,d⟩:=qQ d
 try simp only[go_sem] at hw1
 refine q8 a3o ?_ (hp:=by exact(qP hv1)) (h:=by simp only[go_sem,hw1];rfl);refine qR ?_;cases d;exact pE []
def RA (O:pC):Option Unit:=if List.length O≤9223372036854775807 then some (()) else none
section
variable (O:pC)
abbrev a3p:List qB:=[(.val .str O,none)]
abbrev a3q:List q9:=[]
@[go_sem] def a3r:qH:=⟨[((RA O)).isSome=true],[(.val .bool (Lib.validD O),none)],[]⟩
def aC3:List qB→List q9→Option qH:=rP (V:=pC) (a3p) (fun x=>a3q) fun x=>a3r x
@[go_sem] def aPX:aC3 (no_index (a3p O)) (no_index a3q)=some (a3r O):=rR (fun a0 b0 h1 h2=>by cases h1;cases h2;rfl) O
end
@[go_sem] abbrev aC4:Nat×qW:=(138,⟨[.v],aC3,[],[],none⟩)
def a3s:rI Tryz.prog [] (rJ [N7]):=⟨trivial,qK a1H rN,rL⟩
def aLy:r5 Tryz.prog aC4:=by
 refine rS a3s Tryz.func138 (c:=_) rfl (N:=5) pT (ts:=[(2,none)]) rfl (fun _ _=>rfl) ?_;intro O hs hrow;dsimp only[a3p,a3q,a3r,rM,qM,qY,r7,rO,Nat.reduceAdd] at hs hrow|-;have hz:=hs;obtain⟨z0,d⟩:=aRh.1 hz
 try rw[rY d]
 clear hz hs;unfold RA at d;refine q8 a3s ?_;obtain⟨hg1,d⟩:=qG d;refine q8 a3s ?_ (hp:=by exact hg1);refine qR ?_;cases d;exact pE []
def aC5 (O:Int):Unit:=()
section
variable (O:Int)
abbrev a3t:List qB:=[(.val (.int .i64) O,none)]
abbrev a3u:List q9:=[]
@[go_sem] def a3v:qH:=⟨[],[(.val .bool ((decide ((1:Int)≤O))&&(decide (O≤(4:Int)))),none)],[]⟩
def aC6:List qB→List q9→Option qH:=rP (V:=Int) (a3t) (fun x=>a3u) fun x=>a3v x
@[go_sem] def aPY:aC6 (no_index (a3t O)) (no_index a3u)=some (a3v O):=rR (fun a0 b0 h1 h2=>by cases h1;cases h2;rfl) O
end
@[go_sem] abbrev a3w:Nat×qW:=(139,⟨[.v],aC6,[],[],none⟩)
def a3x:rI Tryz.prog [] (rJ []):=⟨trivial,rN,rL⟩
def aC7:r5 Tryz.prog a3w:=by
 refine rS a3x Tryz.func139 (c:=_) rfl (N:=9) pT (ts:=[(2,none)]) rfl (fun _ _=>rfl) ?_;intro O hs hrow;dsimp only[a3t,a3u,a3v,rM,qM,qY,r7,rO,Nat.reduceAdd] at hs hrow|-;obtain⟨z0,d⟩: ∃z,(aC5 O)=z:=⟨_,rfl⟩
 try rw[d]
 unfold aC5 at d;refine q8 a3x ?_;refine q8 a3x ?_ (hp:=by exact⟨id,sY⟩);refine qR ?_;cases d;exact pE []
def aLz (O:Int) (Z:pC):Int→Option (Int⊕(Unit⊕Bool)):=fun aA=>if (decide (aA<(Z.length:Int)))=true then if 0≤aA∧aA<(Z.length:Int) then if (decide ((tM Z aA)=O))=true then some (.inr (.inr (true))) else if qC (aA+(1:Int)) then some (.inl (aA+(1:Int))) else none else none else some (.inr (.inl ()))
def NR (O:Int) (Z:pC):Option Bool:=vA (rU (aLz O Z) (0:Int)) fun _=>some (false)
attribute [irreducible] GT EC ED NQ RA NR
end
noncomputable section
def aC8 (O:Int):Option pC:=if (decide (O=(38:Int)))=true then some (([38,97,109,112,59]:pC)) else if (decide (O=(60:Int)))=true then some (([38,108,116,59]:pC)) else if (decide (O=(62:Int)))=true then some (([38,103,116,59]:pC)) else if (decide (O=(34:Int)))=true then some (([38,113,117,111,116,59]:pC)) else if ((decide (O<(32:Int)))||(decide (O=(127:Int))))=true then (aCA (IntKind.wrap .i64 O)).bind fun Z=>if ((([38,35]:pC)++Z).length:Int)≤9223372036854775807 then if (((([38,35]:pC)++Z)++([59]:pC)).length:Int)≤9223372036854775807 then some (((([38,35]:pC)++Z)++([59]:pC))) else none else none else some ((vG ([O]:pL)))
def internal_stringslite_HasPrefix (O:pC) (Z:pC):Option Unit:=if (((decide ((Z.length:Int)≤(O.length:Int)))==true)=true→0≤(0:Int)∧(0:Int)≤(Z.length:Int)∧(Z.length:Int)≤(O.length:Int)) then some (()) else none
section
variable (O:pC) (Z:pC)
abbrev KW:List qB:=[(.val .str O,none),(.val .str Z,none)]
abbrev KX:List q9:=[]
@[go_sem] def KY:qH:=⟨[((internal_stringslite_HasPrefix O Z)).isSome=true],[(.val .bool ((decide ((Z.length:Int)≤(O.length:Int)))&&(decide ((sC O (0:Int) (Z.length:Int))=Z))),none)],[]⟩
def R0:List qB→List q9→Option qH:=rP (V:=(pC×pC)) (fun x=>KW x.1 x.2) (fun x=>KX) fun x=>KY x.1 x.2
@[go_sem] def aLc:R0 (no_index (KW O Z)) (no_index KX)=some (KY O Z):=rR (fun⟨a0,a1⟩ ⟨b0,b1⟩ h1 h2=>by cases h1;cases h2;rfl) (O,Z)
end
@[go_sem] abbrev R1:Nat×qW:=(150,⟨[.v,.v],R0,[],[],none⟩)
def KZ:rI Tryz.prog [sL] (rJ []):=⟨⟨sO,trivial⟩,rN,rL⟩
def a1V:r5 Tryz.prog R1:=by
 refine rS KZ Tryz.func150 (c:=_) rfl (N:=18) pT (ts:=[(4,none)]) rfl (fun _ _=>rfl) ?_;intro⟨O,Z⟩ hs hrow;dsimp only[KW,KX,KY,rM,qM,qY,r7,rO,Nat.reduceAdd] at hs hrow|-;have hz:=hs;obtain⟨z0,e⟩:=aRh.1 hz
 try rw[rY e]
 clear hz hs;unfold internal_stringslite_HasPrefix at e;refine q8 KZ ?_;obtain⟨hg1,e⟩:=qG e;refine q8 KZ ?_ (hp:=by exact⟨id,id,id,hg1,id,id,sY⟩);refine qR ?_;cases e;exact pE []
attribute [irreducible] aC8 internal_stringslite_HasPrefix
end
noncomputable section
def aC9 (O:r6) (Z:pC):Unit:=()
section
variable (O:r6) (Z:pC)
abbrev a3y:List qB:=[(.val (.pair .str (.pair .str .unit)) O,none),(.val .ref (some (0,0)),none)]
abbrev a3z:List q9:=[.cells .str Z []]
@[go_sem] def a3A:qH:=⟨[],[(.val .bool (!(Op.bytesLess O.1 Z||decide (O.1=Z))),none)],[.cells .str Z []]⟩
def aDa:List qB→List q9→Option qH:=rP (V:=(r6×pC)) (fun x=>a3y x.1) (fun x=>a3z x.2) fun x=>a3A x.1 x.2
@[go_sem] def aPZ:aDa (no_index (a3y O)) (no_index (a3z Z))=some (a3A O Z):=rR (fun⟨a0,a1⟩ ⟨b0,b1⟩ h1 h2=>by cases h1;cases h2;rfl) (O,Z)
end
@[go_sem] abbrev aDb:Nat×qW:=(158,⟨[.v,.p .str []],aDa,[],[0],none⟩)
def a3B:rI Tryz.prog [sL,FJ] (rJ []):=⟨⟨sO,⟨IU,trivial⟩⟩,rN,rL⟩
def aLA:r5 Tryz.prog aDb:=by
 refine rS a3B Tryz.func158 (c:=_) rfl (N:=8) pT (ts:=[(3,none)]) rfl (fun _ _=>rfl) ?_;intro⟨O,Z⟩ hs hrow;dsimp only[a3y,a3z,a3A,rM,qM,qY,r7,rO,Nat.reduceAdd] at hs hrow|-;obtain⟨z0,d⟩: ∃z,(aC9 O Z)=z:=⟨_,rfl⟩
 try rw[d]
 unfold aC9 at d;refine q8 a3B ?_;refine q8 a3B ?_;refine qR ?_;cases d;exact pE [(0,0)]
def LA (O:pC) (Z:pC):Option (pC×Bool):=(internal_stringslite_HasPrefix O Z).bind fun aA=>if (!((decide ((Z.length:Int)≤(O.length:Int)))&&(decide ((sC O (0:Int) (Z.length:Int))=Z))))=true then some ((O,false)) else if 0≤(Z.length:Int)∧(Z.length:Int)≤(O.length:Int)∧(O.length:Int)≤(O.length:Int) then some (((sC O (Z.length:Int) (O.length:Int)),true)) else none
section
variable (O:pC) (Z:pC)
abbrev a3C:List qB:=[(.val .str O,none),(.val .str Z,none)]
abbrev a3D:List q9:=[]
@[go_sem] def a3E:qH:=⟨[((LA O Z)).isSome=true],[(.val .str ((val (LA O Z)).1),none),(.val .bool ((val (LA O Z)).2),none)],[]⟩
def aDc:List qB→List q9→Option qH:=rP (V:=(pC×pC)) (fun x=>a3C x.1 x.2) (fun x=>a3D) fun x=>a3E x.1 x.2
@[go_sem] def aP0:aDc (no_index (a3C O Z)) (no_index a3D)=some (a3E O Z):=rR (fun⟨a0,a1⟩ ⟨b0,b1⟩ h1 h2=>by cases h1;cases h2;rfl) (O,Z)
end
@[go_sem] abbrev aDd:Nat×qW:=(164,⟨[.v,.v],aDc,[],[],none⟩)
def RB:rI Tryz.prog [sL] (rJ [R1]):=⟨⟨sO,trivial⟩,qK a1V rN,rL⟩
def aLB:r5 Tryz.prog aDd:=by
 refine rS RB Tryz.func164 (c:=_) rfl (N:=15) pT (ts:=[(4,none),(5,none)]) rfl (fun _ _=>rfl) ?_;intro⟨O,Z⟩ hs hrow;dsimp only[a3C,a3D,a3E,rM,qM,qY,r7,rO,Nat.reduceAdd] at hs hrow|-;have hz:=hs;obtain⟨z0,d⟩:=aRh.1 hz
 try rw[rY d]
 clear hz hs;unfold LA at d;refine q8 RB ?_;refine qS ?_;obtain⟨aA,hv1,hw1,d⟩:=qQ d
 try simp only[go_sem] at hw1
 refine q8 RB ?_ (hp:=by exact(qP hv1)) (h:=by simp only[go_sem,hw1];rfl);refine qV d (fun d hc1=> ?_) (fun d hc1=> ?_)
 .refine q8 RB ?_;refine qR (rQ ?_);cases d;exact pE []
 .refine r8 (qO ?_);obtain⟨hg2,d⟩:=qG d;refine q8 RB ?_ (hp:=by exact hg2);refine qR ?_;cases d;exact pE []
def aDe (O:Int):Unit:=()
section
variable (O:Int)
abbrev a3F:List qB:=[(.val (.int .u8) O,none)]
abbrev a3G:List q9:=[]
@[go_sem] def a3H:qH:=⟨[],[(.val .bool ((decide (O<(32:Int)))||(decide (O=(127:Int)))),none)],[]⟩
def aDf:List qB→List q9→Option qH:=rP (V:=Int) (a3F) (fun x=>a3G) fun x=>a3H x
@[go_sem] def aP1:aDf (no_index (a3F O)) (no_index a3G)=some (a3H O):=rR (fun a0 b0 h1 h2=>by cases h1;cases h2;rfl) O
end
@[go_sem] abbrev a3I:Nat×qW:=(180,⟨[.v],aDf,[],[],none⟩)
def a3J:rI Tryz.prog [] (rJ []):=⟨trivial,rN,rL⟩
def aDg:r5 Tryz.prog a3I:=by
 refine rS a3J Tryz.func180 (c:=_) rfl (N:=9) pT (ts:=[(2,none)]) rfl (fun _ _=>rfl) ?_;intro O hs hrow;dsimp only[a3F,a3G,a3H,rM,qM,qY,r7,rO,Nat.reduceAdd] at hs hrow|-;obtain⟨z0,d⟩: ∃z,(aDe O)=z:=⟨_,rfl⟩
 try rw[d]
 unfold aDe at d;refine q8 a3J ?_;refine q8 a3J ?_ (hp:=by exact⟨id,sU⟩);refine qR ?_;cases d;exact pE []
def aDh (O:r6) (Z:pC):Unit:=()
section
variable (O:r6) (Z:pC)
abbrev a3K:List qB:=[(.val (.pair .str (.pair .str .unit)) O,none),(.val .ref (some (0,0)),none)]
abbrev a3L:List q9:=[.cells .str Z []]
@[go_sem] def a3M:qH:=⟨[],[(.val .bool (decide (O.1=Z)),none)],[.cells .str Z []]⟩
def aDi:List qB→List q9→Option qH:=rP (V:=(r6×pC)) (fun x=>a3K x.1) (fun x=>a3L x.2) fun x=>a3M x.1 x.2
@[go_sem] def aP2:aDi (no_index (a3K O)) (no_index (a3L Z))=some (a3M O Z):=rR (fun⟨a0,a1⟩ ⟨b0,b1⟩ h1 h2=>by cases h1;cases h2;rfl) (O,Z)
end
@[go_sem] abbrev aDj:Nat×qW:=(191,⟨[.v,.p .str []],aDi,[],[0],none⟩)
def a3N:rI Tryz.prog [sL,FJ] (rJ []):=⟨⟨sO,⟨IU,trivial⟩⟩,rN,rL⟩
def aLC:r5 Tryz.prog aDj:=by
 refine rS a3N Tryz.func191 (c:=_) rfl (N:=8) pT (ts:=[(3,none)]) rfl (fun _ _=>rfl) ?_;intro⟨O,Z⟩ hs hrow;dsimp only[a3K,a3L,a3M,rM,qM,qY,r7,rO,Nat.reduceAdd] at hs hrow|-;obtain⟨z0,d⟩: ∃z,(aDh O Z)=z:=⟨_,rfl⟩
 try rw[d]
 unfold aDh at d;refine q8 a3N ?_;refine q8 a3N ?_;refine qR ?_;cases d;exact pE [(0,0)]
def RC (O:pC) (Z:pC):Option Unit:=if (((decide ((Z.length:Int)≤(O.length:Int)))==true)=true→qC ((O.length:Int)- (Z.length:Int))) then if (((decide ((Z.length:Int)≤(O.length:Int)))==true)=true→0≤((O.length:Int)- (Z.length:Int))∧((O.length:Int)- (Z.length:Int))≤(O.length:Int)∧(O.length:Int)≤(O.length:Int)) then some (()) else none else none
section
variable (O:pC) (Z:pC)
abbrev a3O:List qB:=[(.val .str O,none),(.val .str Z,none)]
abbrev a3P:List q9:=[]
@[go_sem] def a3Q:qH:=⟨[((RC O Z)).isSome=true],[(.val .bool ((decide ((Z.length:Int)≤(O.length:Int)))&&(decide ((sC O ((O.length:Int)- (Z.length:Int)) (O.length:Int))=Z))),none)],[]⟩
def aDk:List qB→List q9→Option qH:=rP (V:=(pC×pC)) (fun x=>a3O x.1 x.2) (fun x=>a3P) fun x=>a3Q x.1 x.2
@[go_sem] def aP3:aDk (no_index (a3O O Z)) (no_index a3P)=some (a3Q O Z):=rR (fun⟨a0,a1⟩ ⟨b0,b1⟩ h1 h2=>by cases h1;cases h2;rfl) (O,Z)
end
@[go_sem] abbrev aDl:Nat×qW:=(197,⟨[.v,.v],aDk,[],[],none⟩)
def a3R:rI Tryz.prog [sL] (rJ []):=⟨⟨sO,trivial⟩,rN,rL⟩
def aLD:r5 Tryz.prog aDl:=by
 refine rS a3R Tryz.func197 (c:=_) rfl (N:=21) pT (ts:=[(4,none)]) rfl (fun _ _=>rfl) ?_;intro⟨O,Z⟩ hs hrow;dsimp only[a3O,a3P,a3Q,rM,qM,qY,r7,rO,Nat.reduceAdd] at hs hrow|-;have hz:=hs;obtain⟨z0,d⟩:=aRh.1 hz
 try rw[rY d]
 clear hz hs;unfold RC at d;refine q8 a3R ?_;obtain⟨hg1,d⟩:=qG d;obtain⟨hg2,d⟩:=qG d;refine q8 a3R ?_ (hp:=by exact⟨id,id,id,id,hg1,id,id,hg2,id,id,sY⟩);refine qR ?_;cases d;exact pE []
def IZ (O:pC) (Z:pC):Option (pC×pC×Bool):=if List.length O<4294967281 then if (decide ((0:Int)≤(yK O Z)))=true then if 0≤(0:Int)∧(0:Int)≤(yK O Z)∧(yK O Z)≤(O.length:Int) then if qC ((yK O Z)+(Z.length:Int)) then if 0≤((yK O Z)+(Z.length:Int))∧((yK O Z)+(Z.length:Int))≤(O.length:Int)∧(O.length:Int)≤(O.length:Int) then some (((sC O (0:Int) (yK O Z)),(sC O ((yK O Z)+(Z.length:Int)) (O.length:Int)),true)) else none else none else none else some ((O,([]:pC),false)) else none
section
variable (O:pC) (Z:pC)
abbrev a3S:List qB:=[(.val .str O,none),(.val .str Z,none)]
abbrev a3T:List q9:=[]
@[go_sem] def a3U:qH:=⟨[((IZ O Z)).isSome=true],[(.val .str ((val (IZ O Z)).1),none),(.val .str ((val (IZ O Z)).2.1),none),(.val .bool ((val (IZ O Z)).2.2),none)],[]⟩
def aDm:List qB→List q9→Option qH:=rP (V:=(pC×pC)) (fun x=>a3S x.1 x.2) (fun x=>a3T) fun x=>a3U x.1 x.2
@[go_sem] def aP4:aDm (no_index (a3S O Z)) (no_index a3T)=some (a3U O Z):=rR (fun⟨a0,a1⟩ ⟨b0,b1⟩ h1 h2=>by cases h1;cases h2;rfl) (O,Z)
end
@[go_sem] abbrev aDn:Nat×qW:=(198,⟨[.v,.v],aDm,[],[],none⟩)
def NS:rI Tryz.prog [sL] (rJ [KU]):=⟨⟨sO,trivial⟩,qK WI rN,rL⟩
def aLE:r5 Tryz.prog aDn:=by
 refine rS NS Tryz.func198 (c:=_) rfl (N:=23) pT (ts:=[(4,none),(5,none),(6,none)]) rfl (fun _ _=>rfl) ?_;intro⟨O,Z⟩ hs hrow;dsimp only[a3S,a3T,a3U,rM,qM,qY,r7,rO,Nat.reduceAdd] at hs hrow|-;have hz:=hs;obtain⟨z0,d⟩:=aRh.1 hz
 try rw[rY d]
 clear hz hs;unfold IZ at d;refine q8 NS ?_;refine qS ?_;obtain⟨hg1,d⟩:=qG d;refine q8 NS ?_ (hp:=by exact hg1);refine q8 NS ?_;refine qV d (fun d hc1=> ?_) (fun d hc1=> ?_)
 .obtain⟨hg2,d⟩:=qG d;obtain⟨hg3,d⟩:=qG d;obtain⟨hg4,d⟩:=qG d;refine vQ NS ?_ (hp:=by exact⟨hg2,hg3,hg4⟩);refine qR (rQ ?_);cases d;exact pE []
 .refine r8 (qO ?_);refine q8 NS ?_;refine qR ?_;cases d;exact pE []
def LB (O:Int) (Z:Int):Bool:=if (decide (O=(1:Int)))=true then (decide (Z=(10:Int))) else a1i (σ:=Bool) (if (decide (O=(2:Int)))=true then (decide (O=(2:Int))) else (decide (O=(3:Int))) ) fun aA=>if aA=true then ((decide (Z=(10:Int)))||(decide (Z=(34:Int)))) else ((decide (Z=(60:Int)))||(decide (Z=(34:Int))))
section
variable (O:Int) (Z:Int)
abbrev a3V:List qB:=[(.val (.int .i64) O,none),(.val (.int .u8) Z,none)]
abbrev a3W:List q9:=[]
@[go_sem] def a3X:qH:=⟨[],[(.val .bool (LB O Z),none)],[]⟩
def aDo:List qB→List q9→Option qH:=rP (V:=(Int×Int)) (fun x=>a3V x.1 x.2) (fun x=>a3W) fun x=>a3X x.1 x.2
@[go_sem] def aP5:aDo (no_index (a3V O Z)) (no_index a3W)=some (a3X O Z):=rR (fun⟨a0,a1⟩ ⟨b0,b1⟩ h1 h2=>by cases h1;cases h2;rfl) (O,Z)
end
@[go_sem] abbrev aDp:Nat×qW:=(216,⟨[.v,.v],aDo,[],[],none⟩)
def GV:rI Tryz.prog [] (rJ []):=⟨trivial,rN,rL⟩
def aLF:r5 Tryz.prog aDp:=by
 refine rS GV Tryz.func216 (c:=_) rfl (N:=25) pT (ts:=[(4,none)]) rfl (fun _ _=>rfl) ?_;intro⟨O,Z⟩ hs hrow;dsimp only[a3V,a3W,a3X,rM,qM,qY,r7,rO,Nat.reduceAdd] at hs hrow|-;obtain⟨z0,d⟩: ∃z,(LB O Z)=z:=⟨_,rfl⟩
 try rw[d]
 unfold LB at d;refine q8 GV ?_;refine qS ?_;refine q8 GV ?_;refine rW ?_;refine q8 GV ?_;refine qV d (fun d hc1=> ?_) (fun d hc1=> ?_)
 .refine q8 GV ?_;refine qR (s8 (rQ ?_));cases d;exact pE []
 .refine qS ?_;refine q8 GV ?_;obtain⟨aA,f,d⟩:=aKw d;refine yY (fun s=>s=(fun x=>⟨[(1,(.val (.int .u8) Z,none)),(10,(.val .bool x,none))],[],0,25,0⟩) aA) ?_ ?_
  .refine qV f (fun f hc2=> ?_) (fun f hc2=> ?_)
   .refine r8 ?_;cases f;exact tY ⟨⟨[1,10],[]⟩,by rfl⟩
   .refine rF GV ?_;cases f;exact tY ⟨⟨[1,10],[]⟩,by rfl⟩
  .rintro _ rfl;dsimp only at d|-;refine qO ?_;refine qV d (fun d hc3=> ?_) (fun d hc3=> ?_)
   .refine q8 GV ?_ (hp:=by exact⟨id,sU⟩);refine qR (s8 (rQ ?_));cases d;exact pE []
   .refine r8 (rT (qO ?_));refine q8 GV ?_ (hp:=by exact⟨id,sU⟩);refine qR ?_;cases d;exact pE []
def LC (O:(pL×Unit)) (Z:Int):Option Unit:=if (O.1.length+([Z]:pL).length)*1≤140737488355328 then some (()) else none
section
variable (O:Int) (Z:(pL×Unit)) (aA:Nat)
abbrev a3Y:List qB:=[(.val .ref (some (0,0)),none),(.val (.int .u8) O,none)]
abbrev a3Z:List q9:=[.cells wD ((some (0,0)),Z) [(1,1)],.grow 5 1 aA]
@[go_sem] def a30:qH:=⟨[aA=(Z.1.length),((LC Z O)).isSome=true],[(.any,none)],[.cells wD ((some (0,0)),((Z.1++([O]:pL)),())) [(1,1)],.grow 5 1 ((Z.1++([O]:pL)).length)]⟩
def aDq:List qB→List q9→Option qH:=rP (V:=(Int×(pL×Unit)×Nat)) (fun x=>a3Y x.1) (fun x=>a3Z x.2.1 x.2.2) fun x=>a30 x.1 x.2.1 x.2.2
@[go_sem] def aP6:aDq (no_index (a3Y O)) (no_index (a3Z Z aA))=some (a30 O Z aA):=rR (fun⟨a0,a1,a2⟩ ⟨b0,b1,b2⟩ h1 h2=>by cases h1;cases h2;rfl) (O,Z,aA)
end
@[go_sem] abbrev aDr:Nat×qW:=(217,⟨[.p wD [1],.v],aDq,[],[],none⟩)
def RD:rI Tryz.prog [FH,GQ] (rJ [IQ]):=⟨⟨IS,⟨L3,trivial⟩⟩,qK QZ rN,rL⟩
def aLG:r5 Tryz.prog aDr:=by
 refine rS RD Tryz.func217 (c:=_) rfl (N:=17) pT (ts:=[(4,none)]) rfl (fun _ _=>rfl) ?_;intro⟨O,Z,aA⟩ hs hrow;dsimp only[a3Y,a3Z,a30,rM,qM,qY,r7,rO,Nat.reduceAdd] at hs hrow|-;obtain⟨rfl,hz⟩:=hs;obtain⟨z0,d⟩:=aRh.1 hz
 try rw[rY d]
 clear hz;unfold LC at d;refine q8 RD ?_;refine q8 RD ?_ (hp:=by first|rfl|trivial)
 obtain⟨hg1,d⟩:=qG d;refine q8 RD ?_ (hp:=by exact⟨pS,hg1⟩)
 refine q8 RD ?_;refine qR ?_;cases d;exact pE [(0,0),(1,1)]
def aDs (O:Int):Unit:=()
section
variable (O:Int)
abbrev a32:List qB:=[(.val (.int .i64) O,none)]
abbrev a33:List q9:=[]
@[go_sem] def a34:qH:=⟨[],[(.val .bool (((decide ((0:Int)≤O))&&(decide (O≤(1114111:Int))))&&((decide (O<(55296:Int)))||(decide ((57343:Int)<O)))),none)],[]⟩
def aDt:List qB→List q9→Option qH:=rP (V:=Int) (a32) (fun x=>a33) fun x=>a34 x
@[go_sem] def aP7:aDt (no_index (a32 O)) (no_index a33)=some (a34 O):=rR (fun a0 b0 h1 h2=>by cases h1;cases h2;rfl) O
end
@[go_sem] abbrev aDu:Nat×qW:=(240,⟨[.v],aDt,[],[],none⟩)
def a35:rI Tryz.prog [] (rJ []):=⟨trivial,rN,rL⟩
def aLH:r5 Tryz.prog aDu:=by
 refine rS a35 Tryz.func240 (c:=_) rfl (N:=17) pT (ts:=[(2,none)]) rfl (fun _ _=>rfl) ?_;intro O hs hrow;dsimp only[a32,a33,a34,rM,qM,qY,r7,rO,Nat.reduceAdd] at hs hrow|-;obtain⟨z0,d⟩: ∃z,(aDs O)=z:=⟨_,rfl⟩
 try rw[d]
 unfold aDs at d;refine q8 a35 ?_;refine q8 a35 ?_ (hp:=by exact⟨id,sY,id,id,id,id,fun hG e=>IJ hG e,sY⟩);refine qR ?_;cases d;exact pE []
attribute [irreducible] LA RC IZ LC
end
end Go.Proofs.YtkpflnijijccpaaGreatDoor
