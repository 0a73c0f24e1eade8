import Derived.BigCall
import Derived.BigGuard
import Derived.Deep.Heap
import Derived.Handy
import Derived.KernelRfl
import Derived.Lib.IndexMore
import Derived.Lib.ItoaMem
import Derived.Lib.RowBridge
import Derived.LoopIn
import Derived.LoopNIn
import Derived.Maps.RangeRun
import Derived.OwnWalkIn
import Derived.Shelf.Abstract
import Derived.Shelf.Slices.Clone
import Derived.Shelf.Small.Strs
import Derived.Shelf.Small.Utf8
import Derived.Shelf.Strconv.Itoa3
import Derived.Shelf.Strings.Builder1
import Derived.Shelf.Strings.OnBuilder
import Derived.Shelf.Strings.Repeat
import Derived.Shelf.Strings.Runes
import Derived.Shelf.Strings.Search1
import Derived.Shelf.Strings.Search2
import Derived.Shelf.Strings.Search3
import Derived.Shelf.Strings.SlTrimAscii
import Derived.Shelf.Strings.Trim
import Derived.Shelf.Unicode.DecodeAny
import Derived.Shelf.Unicode.ValidAny
import Derived.Sort.LoopGhostIn
import Derived.TacticsInMore
import Derived.Test.YtedimeeleabhnaaGreatDoorChecked
import Derived.Test.YtedimeeleabhnaaGreatDoorProg
import Derived.WalkKit
import Derived.Test.YtedimeeleabhnaaGreatDoorV01
set_option linter.all false
set_option maxRecDepth 100000
set_option maxHeartbeats 4000000
namespace Go.Proofs.YtedimeeleabhnaaGreatDoor.Vc
open Go.RowKit
variable {R:Bool}
attribute [go_sem] Option.map_some Option.map_none
@[go_sem] theorem aKU {H:List (Nat×qQ)}{ps:List PK}{b:List qP}{a:Option tC}:y8 H ps ([]++b) a=y8 H ps b a:=rfl
@[go_sem] theorem aKV {H:List (Nat×qQ)}{ps:List PK}{x:qP}{l b:List qP}{a:Option tC}:y8 H ps ((x::l)++b) a=y8 H ps (x::(l++b)) a:=rfl
@[go_sem] def Jf:Option qP->Option (List qP)->Option (List qP)
 |some s,some l=>some (s::l)
 |_,_=>none
@[go_sem] def sj:Option rA->Option qP
 |some e=>some e.slot
 |none=>none
@[go_sem] def WI (H:List (Nat×qQ)):Option TI->qP->Option rA
 |some ti,(.val .ref (some (i,off)),_)=>VI ti.ty i off (qU H i)
 |_,_=>none
@[go_sem] def WJ (T:sJ) (s:St) (m:pT):Nat×Option TypeId->Option qP
 |(t,none)=>some (AG m (lk s.env t))
 |(t,some ty)=>(sj (WI s.H (s4 T ty) (lk s.env t))).map (AG m)
@[go_sem] def G6 (T:sJ) (s:St) (m:pT):List (Nat×Option TypeId)->Option (List qP)
 |[]=>some []
 |q::r=>Jf (WJ T s m q) (G6 T s m r)
def C0:Nat×Option TypeId->ResultVar
 |(t,none)=> .tmp t
 |(t,some ty)=> .cell t ty
@[go_sem] def CY:Nat->Nat->List (Nat×qQ)->List (Nat×qQ)
 |0,_,H=>H
 |n+1,i,[]=>(i,.dead)::CY n (i+1) []
 |n+1,i,(j,b)::H=>if j=i then(j,b)::CY n (i+1) H else(i,.dead)::CY n (i+1) ((j,b)::H)
theorem MU: ∀{n i:Nat}{H:List (Nat×qQ)}{k:Nat}{b:qQ},qU (CY n i H) k=some b->qU H k=some b\/b= .dead
 |0,_,_,_,_,h=> .inl h
 |n+1,i,[],k,b,h=>by
  simp only[CY,qU] at h;split at h
  .exact .inr (aOj h).symm
  .exact MU h
 |n+1,i,(j,c)::H,k,b,h=>by
  unfold CY at h;split at h
  .simp only[qU] at h|-;split at h
   .rename_i e;rw[aOd e];exact .inl h
   rename_i e;rw[aOi e];exact MU h
  simp only[qU] at h;split at h
  .exact .inr (aOj h).symm
  exact MU h
theorem sM.pad {g:Gh}{w:pZ}{H:sA}(h:sM g w H) (n i:Nat):sM g w (CY n i H):=by
 have own: ∀{k blk b o},qU (CY n i H) k=some blk->sD g k blk b o->qU H k=some blk:=λG F=>by
  rcases MU G with z|z
  .exact z
  subst z;exact F.elim
 refine⟨λk b hb=>?_,λi j bi bj b o E z D o1 o2=>h.dis i j bi bj b o E (own z o1) (own D o2) o1 o2,h.sl,h.tab.1,λk blk b o z D=>h.tab.2 k blk b o (own z D) D⟩;rcases MU hb with z|z
 .exact h.blk k b z
 subst z;trivial
theorem tE.pad {A:Nat->Nat->Prop}{L:List qQ}{g0 g:Gh}{w0 w:pZ}{H:sA}(h:tE A L g0 w0 g w H) (n i:Nat):tE A L g0 w0 g w (CY n i H):=by
 refine⟨h.shut,h.fr,λk blk b o z D=>?_,h.J,h.live,λk u y us hk z=>?_,h.cur⟩
 .rcases MU z with j|j
  .exact h.perm k blk b o j D
  subst j;exact D.elim
 rcases MU z with j|j
 .exact h.ty k u y us hk j
 cases j
def MV (T:sJ) (ts:List (Nat×Option TypeId)) (r:r9):Ex->St->Prop
 | .exit _,_=>False
 |_,s=> ∃m:pT,vN s.np m=true/\CY (wR r.H) 0 (s.keep ⟨[],m⟩).H=tD 0 r.H/\G6 T s m ts=some r.ret
section
variable {P:Program}{o:Oper}{a:Act}{g:Gh}{w:pZ}{H:sA}{T:sJ}(hT:w6 P T) (hH:sM g w H)
include hT hH
theorem a9c {t:TypeId}{vx:qA}{sx:qP}(K:rZ g w sx vx) {e:rA}(hr:WI H (s4 T t) sx=some e): ∃ad v,vx= .pointer (some ad)/\(loadVar t ad).run P w= .ok v w/\rZ g w e.slot v:=by
 generalize X:s4 T t=ot at hr;replace K:=K.1;unfold WI at hr;split at hr
 .rename_i ti i off k;have M:=t7 hT X;generalize hb:qU H i=ob at hr;unfold VI at hr;split at hr
  .rename_i u z toks;generalize D:rT ti.ty u z off=oy at hr;cases oy with
   |none=>cases hr
   |some y=>
    cases hr;obtain⟨p,hp,hv⟩:=zH K;obtain⟨p',cs,j,Z,R,_,_,Q⟩:=hH.blk i _ hb;rw[hp] at j;obtain rfl:=aOj j;obtain⟨c1,c2,c3,rfl,rfl,E⟩:=DX Z D;obtain⟨v,h1,V,U⟩:=RN hT hH M (MH hT hH R) E;refine⟨_,v,hv,by simpa[Instr.loadAt,Instr.sureAddr] using h1,V,?_⟩;obtain⟨ty,el,by',ar,ls⟩:=ti;cases ty with
    |list u'=>
     simp only[FY];generalize O:xK toks c1.length=ok;cases ok with
     |none=>trivial
     |some k=>
      obtain⟨u2,l,v',g1,g2,g3⟩:=Q _ _ (og hT hH O);obtain⟨heq,Y⟩:=Ei hT hH g1 D rfl;injection heq with I
      subst I;have G:=sU E;obtain⟨v2,rfl⟩:=aPx.1 G;have e2:v'=v2:=by
       have e:(c1++[v2]++c3)[c1.length]? =some v2:=by simp
       rw[e] at g2;exact(aOj g2).symm
      have e3:v=v2:=by
       have h4:=B9 rfl V;have F:=BU h4 v pP;have:v.cells= #[v]:=by cases v<;>first|rfl|(simp [Value.oneCell'] at F)
       rw[this] at U;simpa using U
      subst e2;subst e3;have e4:(y:List u'.den)=l:=Y;subst e4;exact g3
    |_=>trivial
  cases hr
 cases hr
end
def JS (tmps:Array qA) (q:Nat×Option TypeId):Sem qA:=match C0 q with
 | .tmp t=>pure (tmps.getD t undef)
 | .cell a t=>do loadVar t (<-asAddr (tmps.getD a undef))
theorem Jg {P:Program}{T:sJ}(hT:w6 P T) {B:Nat}{g:Gh}{w:pZ}{s:St}{a:Act}{m:pT}(hk:vN s.np m=true) (hr:uC B g w s a): ∀{ts:List (Nat×Option TypeId)}{l:List qP},G6 T s m ts=some l->
  ∃vs:pV,(ts.mapM (JS a.tmps)).run P w= .ok vs w/\wW (uN g s.np m) w l vs
 |[],l,h=>by
  simp only[G6,aOf] at h;subst h;exact⟨[],by simp,rfl⟩
 |q::ts,l,h=>by
  simp only[G6] at h;obtain⟨s1,l1,e1,e2,rfl⟩: ∃s1 l1,WJ T s m q=some s1/\G6 T s m ts=some l1/\l=s1::l1:=by
   cases F:WJ T s m q<;>cases E:G6 T s m ts<;>rw[F,E] at h<;>simp [Jf] at h
   exact⟨_,_,rfl,rfl,h.symm⟩
  obtain⟨vs,v1,v2⟩:=Jg hT hk hr e2;obtain⟨v,w1,w2⟩: ∃v,(JS a.tmps q).run P w= .ok v w/\rZ (uN g s.np m) w s1 v:=by
   obtain⟨t,oty⟩:=q;cases oty with
   |none=>
    simp only[WJ,aOf] at e1;subst e1;exact⟨_,by simp [JS,C0],ca hk (hr.env t)⟩
   |some ty=>
    simp only[WJ] at e1;cases j:WI s.H (s4 T ty) (lk s.env t) with
    |none=>rw[j] at e1;cases e1
    |some e=>
     rw[j] at e1;simp only[sj,Option.map_some,aOf] at e1;subst e1;obtain⟨ad,v,hv,D,z⟩:=a9c hT hr.heap (hr.env t) j;exact⟨v,by simp only[JS,C0,hv,asAddr,aOr,aOD,aOl,D],ca hk z⟩
  exact⟨v::vs,by simp only[List.mapM_cons,aOr,w1,aOl,v1,aOD],v,vs,rfl,w2,v2⟩
def S7 (tmps:Array qA):ResultVar->Sem qA
 | .tmp t=>pure (tmps.getD t undef)
 | .cell a t=>do loadVar t (<-asAddr (tmps.getD a undef))
theorem Jh {P:Program}{fn:Func}{w:pZ}{tmps:Array qA}{ts:List (Nat×Option TypeId)}(h:fn.results.toList=ts.map C0) {vs:pV}(hv:(ts.mapM (JS tmps)).run P w= .ok vs w):(results fn tmps).run P w= .ok (ru vs) w:=by
 obtain⟨rs,j⟩: ∃rs,fn.results=⟨rs⟩:=⟨fn.results.toList,rfl⟩;have hm:rs=ts.map C0:=by rw[j] at h;exact h
 have key:Sem.run P (((ts.map C0).toArray).mapM (S7 tmps)) w=Result.ok vs.toArray w:=by
  rw[List.mapM_toArray,List.mapM_map];have e:S7 tmps∘C0=JS tmps:=by
   funext q;obtain⟨t,o⟩:=q;cases o<;>rfl
  have e2:(λq=>S7 tmps (C0 q))=JS tmps:=e;show Sem.run P (List.mapM (λq=>S7 tmps (C0 q)) ts>>=λl=>pure l.toArray) w=_;rw[e2,aOr,hv];rfl
 have z:results fn tmps=(fn.results.mapM (S7 tmps) >>=λvs=>pure (if h:vs.size=1 then vs[0] else .tuple vs)):=by
  unfold results;congr 2
 rw[z,j,hm,aOr];have key2:Sem.run P (Array.mapM (S7 tmps) (⟨ts.map C0⟩:Array ResultVar)) w=Result.ok vs.toArray w:=key;rw[key2];simp only[aOl,aOD]
 match vs with
 |[]=>rfl
 |[v]=>rfl
 |v::u::l=>simp [ru]
theorem a9d {P:Program}{T:sJ}(hT:w6 P T) {f:FuncId}{fn:Func}{c:Code}{C:List qP->List qQ->Option r9}{ts:List (Nat×Option TypeId)}(hf:P.funcs[f]? =some fn) (hb:fn.body=some c) {N:Nat}(hN:fn.ntmps=N)
  (K: ∀args w,(callFunc f args).run P w= .ok (.enter f args) w) (U:fn.results.toList=ts.map C0)
  (h: ∀args L r,C args L=some r->(∀p∈r.side,p)->E9 L->args.length<=N/\S1 (vP 0 L) args/\S2 (vP 0 L) L/\Ev false P c ⟨E8 0 args,tD 0 L,wR L,N,wR L⟩ (MV T ts r)):z7 P f C:=by
 subst hN;refine⟨K,λg w args vals L r hH ha hC O=>?_⟩;obtain⟨h1,h2,Z,h4⟩:=h args L r hC O (Ik λi b hb=>⟨i,hH.blk i b (by rw[zI];exact hb)⟩);obtain⟨hr,D⟩:=a81 hH ha h2 Z h1;have j: ∀b o,wV (uN g 0 (vP 0 L)) (tD 0 L) b o->wV g (tD 0 L) b o:=λb o ⟨i,blk,M,E⟩=>⟨i,blk,M,(D i blk (by rw[<-zI];exact M)).2.2 b o E⟩;have I:tE (wV (uN g 0 (vP 0 L)) (tD 0 L)) L (uN g 0 (vP 0 L)) w (uN g 0 (vP 0 L)) w (tD 0 L):=by
  refine⟨λb o h=>⟨h,rfl⟩,Fr.refl _ _ _,λi blk b o M E=> .inr ⟨i,blk,M,E⟩,λ_ _ _ h=>h,λi hi=>?_,λi u y us _ M=>⟨y,us,by rw[<-zI];exact M⟩,λ_ _ _ _ h=>h⟩;have hL:L[i]? =some L[i]:=by simp
  obtain⟨_,z,_⟩:=D i L[i] hL;have R:=(MQ Z L[i] (aOm hi)).2;generalize L[i]=blk at z R;cases blk with
  |cells t x ts=>obtain⟨p,cs,hp,_⟩:=z;exact .inl ⟨p,hp⟩
  |grow e c n=>obtain⟨v,xs,hv,_⟩:=z;exact .inr ⟨n,v,hv⟩
  |row e t l n=>obtain⟨_,v,xs,hv,_⟩:=z;exact .inr ⟨n,v,hv⟩
  |map k v l=>obtain⟨p,es,cl,hp,_⟩:=z;exact .inl ⟨p,hp⟩
  |iter s n=>obtain⟨p,hp,_⟩:=z;exact .inl ⟨p,hp⟩
  |dead=>exact absurd rfl R
 refine callsIn_wide.1 (callsIn_of_wp_marks (F:=Fence.wide) (n:=0) hf hb trivial (aPw (h4 none rfl _ _ _ _ _ _ _ _ (aOA _) hr I (sa L)) λx a' w' hp=>?_) rfl);obtain⟨e,g',s',e1,e2,e3,e4,e5⟩:=hp;have tQ: ∀m:pT,vN s'.np m=true->CY (wR r.H) 0 (s'.keep ⟨[],m⟩).H=tD 0 r.H->G6 T s' m ts=some r.ret->LeavesInM Fence.wide 0 P fn a'.tmps (λe w'=> ∃v' g',e= .returned v'/\MJ g w L r g' w' v') a'.defers .returning w':=by
  intro m hk k1 k2;refine Ip a'.defers w' e3 e4 (λw1 e3 e4=>?_);obtain⟨l1,l2,l3,_⟩:=cd e3 e4 e5 ⟨[],m⟩ hk;replace l2:=l2.pad (wR r.H) 0;rw[k1] at l2;obtain⟨vs,q1,q2⟩:=Jg hT hk e3 k2;have q3:=Jh (P:=P) (w:=w1) (tmps:=a'.tmps) U q1;refine⟨_,q3,_,_,rfl,⟨λb o hb=>l2.shut b o hb,by rw[<-k1];exact l1.heap.pad _ _,?_,?_,λi blk b o hi E=>?_,λi t x us hi=>?_,λi t x us u y vs hi hr=>?_,λi p hi hp=>l2.J i p hi ((BA ck (S3.2 ⟨rfl,aPL _,pN⟩)).1.trans hp),λi n u hi hu=>l2.cur i n u hi ((congrFun (BA ck (S3.2 ⟨rfl,aPL _,pN⟩)).2 n).trans hu)⟩⟩
  .unfold W6;split
   .rename_i s O;rw[O] at q2;obtain⟨v,vs',hv,Q,h6⟩:=q2;rw[hv,show vs'=[] from h6];exact Q
   rename_i Y;refine⟨_,?_,q2⟩;unfold ru;split
   .rename_i v hv;exfalso;have:=(rz q2).1;cases V:r.ret with
    |nil=>rw[V] at this;simp at this
    |cons s l=>cases l with
     |nil=>exact Y s V
     |cons _ _=>rw[V] at this;simp at this
   rfl
  .exact⟨l2.fr.os,l2.fr.tape,l2.fr.output,l2.fr.size,λb hb X=>l2.fr.blk b hb (λo E=>X o (j b o E)),λb o hb X=>l2.fr.cell b o hb (λE=>X (j b o E)),λb o hS=>(l2.fr.new b o hS).imp id (Or.imp id (j b o)),λb s O=>(l2.fr.shape b s O).imp id λh o=>j b o (h o)⟩
  .exact(l2.perm i blk b o (by rw[zI];exact hi) E).imp id (j b o)
  .obtain⟨j1,⟨p,cs,j2,_⟩,_⟩:=D i _ hi;have G:i<L.length:=(aOw.1 hi).1;rw[l2.J i p G j2,<-j1,j2]
  have G:i<L.length:=(aOw.1 hi).1;obtain⟨x',ts',Q⟩:=l2.ty i u y vs G (by rw[zI];exact hr);rw[hi] at Q;simp only[aOf,qQ.cells.injEq] at Q;exact Q.1.symm
 cases x<;>simp only[BC,aOf] at e1
 case normal=>subst e1;obtain⟨k,k0,k1,k2⟩:=e2;exact tQ k k0 k1 k2
 case ret=>subst e1;obtain⟨k,k0,k1,k2⟩:=e2;exact tQ k k0 k1 k2
 case exit id=>subst e1;exact e2.elim
 all_goals cases e1
open Classical in
noncomputable def EE {V:Type}(p:V->List qP) (q:V->List qQ) (R:V->r9) (a:List qP) (L:List qQ):Option r9:=
 if h: ∃v,p v=a/\q v=L then some (R h.choose) else none
theorem Ji {V:Type}{p:V->List qP}{q:V->List qQ}{R:V->r9}{a:List qP}{L:List qQ}{r:r9}(h:EE p q R a L=some r): ∃v,p v=a/\q v=L/\R v=r:=by
 unfold EE at h;split at h
 .rename_i e;exact⟨e.choose,e.choose_spec.1,e.choose_spec.2,aOj h⟩
 cases h
theorem sp {V:Type}{p:V->List qP}{q:V->List qQ}{R:V->r9}(inj: ∀v v',p v=p v'->q v=q v'->v=v') (v:V):EE p q R (p v) (q v)=some (R v):=by
 have h: ∃u,p u=p v/\q u=q v:=⟨v,rfl,rfl⟩;unfold EE;rw[aP4 h,inj _ v h.choose_spec.1 h.choose_spec.2]
theorem sq: ∀{l:List Prop},(∀p∈l,p)->vB l
 |[],_=>trivial
 |[p],h=>h p pP
 |p::q::r,h=>⟨h p pP,sq (l:=q::r) λx j=>h x (aOu _ j)⟩
def qZ (P:Program) (x:Nat×r8):Prop:=z7 P x.1 x.2.C/\∀F,x.2.row=some F->pv P x.1 F
theorem WK {P:Program}{T:sJ}{Γ:tV}(hE:wY P T Γ) {f:FuncId}{fn:Func}{c:Code}{V:Type}{p:V->List qP}{q:V->List qQ}{R:V->r9}{ps:List PK}{gs:List (Nat×Nat×PK)}{same:pY}{ts:List (Nat×Option TypeId)}(hf:P.funcs[f]? =some fn) (hb:fn.body=some c) {N:Nat}(E:fn.ntmps=N)
  (z:fn.results.toList=ts.map C0) (j: ∀args w,(callFunc f args).run P w= .ok (.enter f args) w)
  (h: ∀v,vB (R v).side->E9 (q v)->Ev false P c ⟨E8 0 (p v),tD 0 (q v),wR (q v),N,wR (q v)⟩ (MV T ts (R v)))
  (K: ∀v,Nat.ble (p v).length N=true:=by intro _;rfl)
  (I: ∀v,S1 (vP 0 (q v)) (p v):=by intro _;repeat (first|exact trivial|refine ⟨rfl,?_⟩))
  (G: ∀v,S2 (vP 0 (q v)) (q v):=by intro _;repeat (first|exact trivial|refine ⟨rfl,?_⟩)):qZ P (f,⟨ps,EE p q R,gs,same,none⟩):=
 ⟨a9d hE.T hf hb E j z λargs L r F D hr=>by
  obtain⟨v,rfl,rfl,rfl⟩:=Ji F;exact⟨Nat.le_of_ble_eq_true (K v),I v,G v,h v (sq D) hr⟩,λ_ h=>by cases h⟩
abbrev qH (n:Int):Prop:= -9223372036854775808<=n/\n<=9223372036854775807
@[go_sem] def EF:List (Nat×r8)->tV
 |[],_=>none
 |(k,s)::r,f=>if k=f then some s else EF r f
theorem rF {P:Program}:DZ P (EF []):=λ_ _ _ h=>by cases h
theorem qS {P:Program}{x:Nat×r8}{r:List (Nat×r8)}(h:qZ P x) (hr:DZ P (EF r)):DZ P (EF (x::r)):=λf s z j=>by
 obtain⟨k,y⟩:=x;simp only[EF] at j;split at j
 .rename_i e;subst e;cases j;exact h
 exact hr f s z j
section
variable {P:Program}{T:sJ}{Γ:tV}(E:wY P T Γ) {s:St}{Q:Ex->St->Prop}
include E
theorem sB {id:Nat}{ops:Array Oper}{a:uR}{y:Code}(j:Ev R P y a.s Q) (h:tR T Γ ops.toList ops.toList (some ⟨s,[],[]⟩)=some a:=by simp only[go_sem];rfl) (hp:vB a.side:=by exact trivial):Ev R P (.seq (.region id ops false) y) s Q:=
 tW (co E h hp j)
theorem uF {id:Nat}{ops:Array Oper}{a:uR}(j:Q .normal a.s) (h:tR T Γ ops.toList ops.toList (some ⟨s,[],[]⟩)=some a:=by simp only[go_sem];rfl) (hp:vB a.side:=by exact trivial):Ev R P (.region id ops false) s Q:=
 co E h hp j
theorem sr {id:Nat}{ops:Array Oper}{a:uR}(j:Q .normal a.s) (h:tR T Γ ops.toList ops.toList (some ⟨s,[],[]⟩)=some a:=by simp only[go_sem];rfl) (hp:vB a.side:=by exact trivial) (hf:JJ ops s.nb a.es.reverse=true:=by kernel_rfl):Ev R P (.region id ops true) s Q:=
 sh E h hf hp j
end
theorem vE {P:Program}{s:St}{Q:Ex->St->Prop}{c:Operand}{x y:Code}{b b':Bool}{k:pX}{ρ:Type}{X Y r:ρ}(j:(if b'=true then X else Y)=r) (z:X=r->b=true->Ev R P x s Q) (hf:Y=r->b=false->Ev R P y s Q)
  (h:tB s.env c=(.val .bool b,k):=by simp only[go_sem];rfl) (hb:b=b':=by first|rfl|simp):Ev R P (.cond c x y) s Q:=
 Is h (λe=>z (Jb j (hb▸e)) e) (λe=>hf (Jc j (hb▸e)) e)
theorem AL {σ ρ:Type}[Inhabited σ] {x:Option σ}{k:σ->Option ρ}{r:ρ}(h:x.bind k=some r): ∃y,x=some y/\val x=y/\k y=some r:=by
 obtain⟨y,j,z⟩:=qK h;exact⟨y,j,S5 j,z⟩
attribute [go_sem] true_and and_true false_and and_false Nat.reduceMul List.nil_append List.cons_append List.append_nil List.toList_toArray Nat.reduceEqDiff reduceIte reduceDIte reduceCtorEq Nat.reduceAdd Nat.reduceSub Int.reduceToNat Nat.reduceLT Nat.reduceLeDiff decide_true decide_false Bool.and_self Bool.or_self Bool.or_false Bool.false_or Bool.and_true Bool.true_and Bool.not_true Bool.not_false
end Go.Proofs.YtedimeeleabhnaaGreatDoor.Vc
namespace Go.Proofs
open Go.RowKit Go.Lib
open Tryz
def Tryz.lays137_ren:Go.Shelf.Ren:=⟨fun|137=>132|217=>180|266=>242|n=>n,fun|9=>9|5=>5|3=>3|n=>n,fun|n=>n⟩
theorem Tryz.lays137:Go.Proofs.Lays.n137 prog Tryz.lays137_ren:={
 mixed:=by kernel_rfl
 f137:=Tryz.func132.trans (aOI some qB)
 f217:=Tryz.func180.trans (aOI some qB)
 f266:=Tryz.func242.trans (aOI some qB)
 t3:=Tryz.underlying3
 a3:=Tryz.isAgg3
 z3:=Tryz.sizeOf3
 v3:=Tryz.zeroValue3
 t5:=Tryz.underlying5
 a5:=Tryz.isAgg5
 z5:=Tryz.sizeOf5
 v5:=Tryz.zeroValue5
 t9:=Tryz.underlying9
 a9:=Tryz.isAgg9
 z9:=Tryz.sizeOf9
 v9:=Tryz.zeroValue9}
def Tryz.lays196_ren:Go.Shelf.Ren:=⟨fun|196=>177|259=>240|n=>n,fun|0=>0|3=>3|4=>4|5=>5|9=>9|12=>12|46=>250|53=>270|119=>246|138=>248|139=>249|n=>n,fun|3=>0|4=>1|n=>n⟩
theorem Tryz.lays196:Go.Proofs.Lays.n196 prog Tryz.lays196_ren:={
 mixed:=by kernel_rfl
 f196:=Tryz.func177.trans (aOI some qB)
 f259:=Tryz.func240.trans (aOI some qB)
 t0:=Tryz.underlying0
 a0:=Tryz.isAgg0
 z0:=Tryz.sizeOf0
 v0:=Tryz.zeroValue0
 t3:=Tryz.underlying3
 a3:=Tryz.isAgg3
 z3:=Tryz.sizeOf3
 v3:=Tryz.zeroValue3
 t4:=Tryz.underlying4
 a4:=Tryz.isAgg4
 z4:=Tryz.sizeOf4
 v4:=Tryz.zeroValue4
 t5:=Tryz.underlying5
 a5:=Tryz.isAgg5
 z5:=Tryz.sizeOf5
 v5:=Tryz.zeroValue5
 t9:=Tryz.underlying9
 a9:=Tryz.isAgg9
 z9:=Tryz.sizeOf9
 v9:=Tryz.zeroValue9
 t12:=Tryz.underlying12
 a12:=Tryz.isAgg12
 z12:=Tryz.sizeOf12
 v12:=Tryz.zeroValue12
 t46:=Tryz.underlying250
 a46:=Tryz.isAgg250
 z46:=Tryz.sizeOf250
 v46:=Tryz.zeroValue250
 t53:=Tryz.underlying270
 a53:=Tryz.isAgg270
 z53:=Tryz.sizeOf270
 v53:=Tryz.zeroValue270
 t119:=Tryz.underlying246
 a119:=Tryz.isAgg246
 z119:=Tryz.sizeOf246
 t138:=Tryz.underlying248
 a138:=Tryz.isAgg248
 z138:=Tryz.sizeOf248
 v138:=Tryz.zeroValue248
 t139:=Tryz.underlying249
 a139:=Tryz.isAgg249
 z139:=Tryz.sizeOf249
 v139:=Tryz.zeroValue249
 g3:=by kernel_rfl
 g4:=by kernel_rfl}
def Tryz.lays240_ren:Go.Shelf.Ren:=⟨fun|240=>129|276=>178|n=>n,fun|0=>0|4=>4|9=>9|20=>20|70=>110|72=>113|164=>202|37=>111|n=>n,fun|n=>n⟩
theorem Tryz.lays240:Go.Proofs.Lays.n240 prog Tryz.lays240_ren:={
 mixed:=by kernel_rfl
 f240:=Tryz.func129.trans (aOI some qB)
 f276:=Tryz.func178.trans (aOI some qB)
 t0:=Tryz.underlying0
 a0:=Tryz.isAgg0
 z0:=Tryz.sizeOf0
 v0:=Tryz.zeroValue0
 t4:=Tryz.underlying4
 a4:=Tryz.isAgg4
 z4:=Tryz.sizeOf4
 v4:=Tryz.zeroValue4
 t9:=Tryz.underlying9
 a9:=Tryz.isAgg9
 z9:=Tryz.sizeOf9
 v9:=Tryz.zeroValue9
 t20:=Tryz.underlying20
 a20:=Tryz.isAgg20
 z20:=Tryz.sizeOf20
 v20:=Tryz.zeroValue20
 t70:=Tryz.underlying110
 a70:=Tryz.isAgg110
 z70:=Tryz.sizeOf110
 v70:=Tryz.zeroValue110
 t72:=Tryz.underlying113
 a72:=Tryz.isAgg113
 z72:=Tryz.sizeOf113
 v72:=Tryz.zeroValue113
 t164:=Tryz.underlying202
 a164:=Tryz.isAgg202
 z164:=Tryz.sizeOf202
 v164:=Tryz.zeroValue202}
theorem Tryz.builderX72:Builder.X72 prog Tryz.lays240_ren:={
 sizeBuilder:=by kernel_rfl
 liesBuilder:=by kernel_rfl}
def Tryz.lays169_ren:Go.Shelf.Ren:=⟨fun|169=>95|n=>n,fun|70=>110|9=>9|0=>0|72=>113|37=>111|127=>153|3=>3|5=>5|n=>n,fun|n=>n⟩
theorem Tryz.lays169:Go.Proofs.Lays.n169 prog Tryz.lays169_ren:={
 mixed:=by kernel_rfl
 f169:=Tryz.func95.trans (aOI some qB)
 t0:=Tryz.underlying0
 a0:=Tryz.isAgg0
 z0:=Tryz.sizeOf0
 v0:=Tryz.zeroValue0
 t3:=Tryz.underlying3
 a3:=Tryz.isAgg3
 z3:=Tryz.sizeOf3
 v3:=Tryz.zeroValue3
 t9:=Tryz.underlying9
 a9:=Tryz.isAgg9
 z9:=Tryz.sizeOf9
 v9:=Tryz.zeroValue9
 t37:=Tryz.underlying111
 a37:=Tryz.isAgg111
 z37:=Tryz.sizeOf111
 v37:=Tryz.zeroValue111
 t70:=Tryz.underlying110
 a70:=Tryz.isAgg110
 z70:=Tryz.sizeOf110
 v70:=Tryz.zeroValue110
 t72:=Tryz.underlying113
 a72:=Tryz.isAgg113
 z72:=Tryz.sizeOf113
 v72:=Tryz.zeroValue113
 t127:=Tryz.underlying153
 a127:=Tryz.isAgg153
 z127:=Tryz.sizeOf153
 v127:=Tryz.zeroValue153}
theorem Tryz.builderExtra:Builder.Extra prog Tryz.lays169_ren:={
 sizeBuilder:=by kernel_rfl
 liesBuilder:=by kernel_rfl
 t5:=Tryz.underlying5
 a5:=Tryz.isAgg5
 z5:=Tryz.sizeOf5
 v5:=Tryz.zeroValue5
 infoByte:=by kernel_rfl
 cellsByte:=by kernel_rfl
 sizeByte:=by kernel_rfl
 neB5:=by decide}
end Go.Proofs
namespace Go.Proofs.YtedimeeleabhnaaGreatDoor
open Vc Go.RowKit
open Tryz
theorem a9e {g:Gh}{w w':pZ}(hH:sM g w (tD 0 [])) (hb:Below w.heap.size w w'):sM g w' (tD 0 []):=
 ⟨λ_ _ h=>aQy,λ_ _ _ _ _ _ _ h=>aQy,λb o h=>aOS (hH.sl b o h) hb.size,⟨V7 hH.tab.1 hb.size λb h=>hb.block b (aOS h hH.tab.1.1),λ_ _ _ _ h=>aQy⟩⟩
theorem FF {P:Program}{f:FuncId}{C:List qP->List qQ->Option r9}(hen: ∀args w,(callFunc f args).run P w= .ok (.enter f args) w)
  (h: ∀(g:Gh) (w:pZ) (args:List qP) (vals:pV) (L:List qQ) (r:r9),J5 w->wW g w args vals->C args L=some r->(∀p∈r.side,p)->
   L=[]/\r.H=[]/\Calls P f vals.toArray w (λe w'=> ∃v,e= .returned v/\Below w.heap.size w w'/\W6 g w' r.ret v)):z7 P f C:=by
 refine⟨hen,λg w args vals L r hH ha hC hs=>?_⟩;obtain⟨rfl,hr,hc⟩:=h g w args vals L r hH.tab.1 ha hC hs;refine hc.mono λe w' ⟨v,he,hb,hv⟩=>⟨v,g,he,⟨λb o h=>⟨h,hb.cell (p:=⟨b,o,none⟩) (hH.sl b o h)⟩,by rw[hr];exact a9e hH hb,hv,⟨hb.os,hb.tape,hb.output,hb.size,λb h _=>hb.block b h,λb o h _=>⟨hb.cell (p:=⟨b,o,none⟩) h,hb.frozen (p:=⟨b,o,none⟩) h⟩,λb o h=> .inl h,λb s h=> .inl ((F7 (hb.block b (F6 h))).trans h)⟩,(λi blk b o h=>by rw[hr] at h;cases h),(λi t x ts h=>by cases h),(λi t x ts u y us h=>by cases h),(λ_ _ _ h=>h),(λ_ _ _ _ h=>h)⟩⟩
theorem cq {P:Program}{f:FuncId}{vals:Array qA}{w:pZ}{Q:Ending->Prop}(h:Calls P f vals w λe w'=>Q e/\w'=w):Calls P f vals w λe w'=>Q e/\Below w.heap.size w w':=
 h.mono λe w' ⟨h1,h2⟩=>⟨h1,by rw[h2];exact Below.refl _ _⟩
def AM (s:pJ) (c:Int):Int:=Lib.indexByte s (Int.toNat c).toUInt8
@[go_sem] def su:List qP->List qQ->Option r9
 |[(.val .str O,none),(.val (.int .u8) a8,none)],[]=>some ⟨[],[(.val (.int .i64) (AM O a8),none)],[]⟩
 |_,_=>none
theorem a9f:z7 prog 132 su:=by
 refine FF (λ_ _=>rfl) λg w args vals L r hT ha hC hs=>?_;unfold su at hC;split at hC
 .rename_i s c;cases hC;obtain⟨va,_,rfl,ra,vb,_,rfl,rb,hv⟩:=ha;obtain rfl:=xX ra.1;obtain rfl:=vK rb.1;cases hv;exact⟨rfl,rfl,(cq (Any.strings_IndexByte Tryz.lays137 ⟨List.toArray s⟩ c w)).mono λe w' ⟨he,hb⟩=>⟨_,he,hb,wU _ _ _ _,trivial⟩⟩
 cases hC
@[go_sem] def sw:List qP->List qQ->Option r9
 |[(.val .str O,none)],[]=>some ⟨[List.length O<=9223372036854775807],[(.val .bool (Lib.validD O),none)],[]⟩
 |_,_=>none
theorem a9g:z7 prog 177 sw:=by
 refine FF (λ_ _=>rfl) λg w args vals L r hT ha hC hs=>?_;unfold sw at hC;split at hC
 .rename_i s;cases hC;have h1:=hs _ aOz;obtain⟨va,_,rfl,ra,hv⟩:=ha;obtain rfl:=xX ra.1;cases hv;exact⟨rfl,rfl,(Any.utf8_ValidString Tryz.lays196 ⟨List.toArray s⟩ w h1 hT.2.1).mono λe w' ⟨he,hb⟩=>⟨_,he,hb,wA _ _ _,trivial⟩⟩
 cases hC
def G7 (s c:pJ):Int:=Lib.index s c
@[go_sem] def sz:List qP->List qQ->Option r9
 |[(.val .ref (some (0,0)),none)],[.cells (.pair .mref (.pair (.list (.int .u8)) .unit)) ((some (0,0)),O) [(1,1)],.grow a8 1 aA]=>some ⟨[aA=List.length O.1],[],[.cells (.pair .mref (.pair (.list (.int .u8)) .unit)) ((some (0,0)),O) [(1,1)],.grow a8 1 aA]⟩
 |_,_=>none
def a9h {g:Gh}{w:pZ}{L:List qQ}{e:rA}{w':pZ}{u v:qA}{r:r9}(hE:sE g w (tD 0 L) e g w' u)
  (hH: ∀i,qU (tD 0 r.H) i=qU (rL e.upd (tD 0 L)) i) (hin: ∀i,i∈qW e.upd->i<L.length) (hlen:r.H.length=L.length)
  (hp: ∀i blk b o,r.H[i]? =some blk->sD g i blk b o->w.heap.size<=b\/wV g (tD 0 L) b o)
  (hty: ∀(i:Nat) t x ts u y us,L[i]? =some (.cells t x ts)->r.H[i]? =some (.cells u y us)->u=t)
  (hret:W6 g w' r.ret v):MJ g w L r g w' v:=
 ⟨λb o h=>⟨h,hE.le.cell b o h⟩,hE.heap.ext hH,hret,hE.fr.mono λb o ⟨i,blk,_,h1,h2⟩=>⟨i,blk,h1,h2⟩,hp,λ_ _ _ _ _=>rfl,hty,λ_ _ _ h=>h,λ_ _ _ _ h=>h⟩
def a9i {P:Program}{ρ:Go.Shelf.Ren}(L:Lays.n240 P ρ) (X:Builder.X72 P ρ) {e:TypeId}(b:Nat) (w:pZ) (h0:w.cell? ⟨b,0,none⟩=some (.pointer none)) (hsh:w.shape? b=some (e,2)) (hl:liesAt P P.depth e (2/P.cellsOf e) 0 (ρ.t 72) 1=true) (hfz:w.frozen? ⟨b,0,none⟩=false):
  Calls P (ρ.f 240) #[.pointer (some ⟨b,0,none⟩)] w λen w'=>en= .returned (.tuple #[])/\w'=w.setCell ⟨b,0,none⟩ (.pointer (some ⟨b,0,none⟩)):=by
 obtain⟨j,hj,hjs⟩:=aOq.1 X.sizeBuilder;have mixed:=L.mixed;have t72:=L.t72;have a72:=L.a72;have z72:=L.z72;have v72:=L.v72;have u72:=aOC L.t72;have t70:=L.t70;have a70:=L.a70;have z70:=L.z70;have v70:=L.v70;have u70:=aOC L.t70;have t9:=L.t9;have a9:=L.a9;have z9:=L.z9;have v9:=L.v9;have u9:=aOC L.t9;have t4:=L.t4;have a4:=L.a4;have z4:=L.z4;have v4:=L.v4;have u4:=aOC L.t4;have t164:=L.t164;have a164:=L.a164;have z164:=L.z164;have v164:=L.v164;have u164:=aOC L.t164
 go_enter L.f240,Body.n240_ntmps ρ
 go_wp2
 rw[Lib.run_to_unsafe w ⟨b,0,none⟩ L.t70 L.t164 hj (by rw[hjs];decide) hsh (Nat.zero_lt_succ 1)];simp only[Result.andThen];rw[Oper.upon_value]
 go_wp2
 rw[run_callFunc_extern L.f276 qB qB qB (e:=Extern.AbiNoEscape.same) qB];rw[Lib.run_noEscape];simp only[Result.andThen];rw[Oper.upon_value]
 go_wp2
 rw[Lib.run_from_unsafe w ⟨b,0,none⟩ L.t164 L.t70 hj hsh hl];simp only[Result.andThen];rw[Oper.upon_value]
 go_wp2
 go_end0
 exact⟨rfl,rfl⟩
def a9j:z7 prog 129 sz:=by
 refine⟨λ_ _=>rfl,λg w args vals L r hH ha hC hs=>?_⟩;unfold sz at hC;split at hC
 .rename_i O a8 aA;cases hC;obtain⟨va,_,rfl,ra,hv⟩:=ha;cases hv;have hg0:qU (tD 0 [qQ.cells (.pair .mref (.pair (.list (.int .u8)) .unit)) ((some (0,0)),O) [(1,1)],.grow a8 1 aA]) 0=some (.cells (.pair .mref (.pair (.list (.int .u8)) .unit)) ((some (0,0)),O) [(1,1)]):=rfl;obtain⟨p,cs,hJ,hR,hra,hth,hns,htk⟩:=hH.blk 0 _ hg0;obtain⟨c1,c2,rfl,hR1,hR2⟩:=hR;obtain⟨p',hJ',⟨hp0,eb,heb,hk3⟩,hc1⟩:=hR1;rw[hJ] at hJ';obtain rfl:=aOj hJ';obtain⟨b,o,k⟩:=p;have ho:o=0:=by simpa using hp0
  subst ho;have hlies:liesAt prog Tryz.prog.depth eb (2/Tryz.prog.cellsOf eb) 0 113 1=true:=by
   unfold kz at heb;split at heb
   .rename_i h;subst h;kernel_rfl
   split at heb
   .rename_i h;subst h;kernel_rfl
   cases heb
  have hva:va= .pointer (some ⟨b,0,none⟩):=by
   obtain⟨q,hq,e⟩:=zH ra.1;rw[hJ] at hq;cases hq;exact e
  subst hva;have hsh:w.shape? b=some (eb,2):=hth.2 pO _ hk3;rcases hc1 with rfl|rfl
  .have h0:w.cell? ⟨b,0,none⟩=some (.pointer none)/\w.frozen? ⟨b,0,none⟩=false:=⟨hra 0 _ rfl,(hth.1 0 pO).2⟩;refine(a9i Tryz.lays240 Tryz.builderX72 b w h0.1 hsh hlies h0.2).mono ?_;rintro en w' ⟨rfl,rfl⟩;refine⟨_,g,rfl,?_⟩;have hE:=sE.store (side:=[]) (rds:=[]) hH (i:=0) (t:= .mref) (y:=some (0,0)) (off:=0) (k:=none) (p:=⟨b,0,k⟩) (cy:=[.pointer (some ⟨b,0,none⟩)]) (v:= .pointer (some ⟨b,0,none⟩)) hg0 hJ (z:=((some (0,0)),O)) qC ⟨_,hJ,⟨rfl,_,heb,hk3⟩,.inr rfl⟩ trivial (λ_ _ h=>by cases h) (λ_=>rfl);refine a9h hE.1 ?_ ?_ rfl ?_ ?_ ?_
   .intro i
    match i with
    |0=>rfl
    |1=>rfl
    |i+2=>rfl
   .intro i hi;simp [qW] at hi;subst hi;exact Nat.zero_lt_succ _
   .intro i blk b o hi ho;exact .inr ⟨i,blk,by rw[bd];simpa using hi,ho⟩
   .intro i t x ts u y us h1 h2;rw[h1] at h2;cases h2;rfl
   exact⟨[],rfl,rfl⟩
  have h0:w.cell? ⟨b,0,none⟩=some (.pointer (some ⟨b,0,none⟩)):=hra 0 _ rfl;refine(Any.Builder_copyCheck_used Tryz.lays240 Tryz.builderX72 b w h0).mono ?_;rintro en w' ⟨rfl,rfl⟩;refine⟨_,g,rfl,⟨λb o h=>⟨h,rfl⟩,hH,⟨[],rfl,rfl⟩,Fr.refl _ _ _,?_,λ_ _ _ _ _=>rfl,?_,λ_ _ _ h=>h,λ_ _ _ _ h=>h⟩⟩
  .intro i blk b o hi ho;exact .inr ⟨i,blk,by rw[bd];simpa using hi,ho⟩
  intro i t x ts u y us h1 h2;rw[h1] at h2;cases h2;rfl
 cases hC
def Jj {P:Program}(w:pZ): ∀(l:pU) (a:Addr) (acc:ByteArray),(∀j x,l[j]? =some x->w.cell? (a.add j)=some (.int .u8 x))->
  (loadBytes a acc l.length).run P w= .ok ⟨acc.data++(tU l).toArray⟩ w
 |[],a,acc,_=>by simp [loadBytes,tU]
 |x::l,a,acc,h=>by
  have h0:w.cell? a=some (.int .u8 x):=by
   have:=h 0 x rfl;simpa[Addr.add] using this
  have ih:=Jj (P:=P) w l (a.add 1) (acc.push (UInt8.ofNat x.toNat)) (λj y hy=>by
   have:=h (j+1) y (by simpa using hy);have e:(a.add 1).add j=a.add (j+1):=by
    unfold Addr.add;by_cases hj:j=0
    .subst hj;simp
    simp [hj];omega
   rw[e];exact this)
  have hx:x.toNat.toUInt8=UInt8.ofNat x.toNat:=rfl;simp only[aOe,loadBytes,aOr,run_load,h0,Result.andThen,hx];rw[ih];congr 1;apply ByteArray.ext;simp [ByteArray.push,tU]
def a9k {P:Program}(w:pZ) (pt it ty e:TypeId) (hp:P.underlying pt=some (.pointer e)) (hc:P.cellsOf e=1) (g cells:Nat) (hsh:w.shape? g=some (e,cells)) (l:pU) (h0:l≠[]) (hn:l.length<=cells) (h63:l.length<=9223372036854775807)
  (hcell: ∀j x,l[j]? =some x->w.cell? ((⟨g,0,none⟩:Addr).add j)=some (.int .u8 x)):
  (Builtin.unsafeString_ #[pt,it] ty #[.pointer (some ⟨g,0,none⟩),.int .i64 l.length]).run P w= .ok (.string ⟨(tU l).toArray⟩) (w.freeze ⟨g,0,none⟩ l.length):=by
 have hl:l.length≠0:=by simpa using h0
 have hlb:=Jj (P:=P) w l ⟨g,0,none⟩ .empty hcell;have hlies:=Lib.liesAt_bytes (P:=P) hc (cells/P.cellsOf e) l.length (by rw[hc];simpa using hn);have h63': ¬(9223372036854775807:Int)<(l.length:Int):=by omega
 have hdef:Builtin.unsafeString_ #[pt,it] ty #[.pointer (some ⟨g,0,none⟩),.int .i64 l.length]=
   (do
    let n<-asInt (.int .i64 l.length)
    if n<0 then runtimePanic (.error "unsafe.String: len out of range")
    if n>IntKind.i64.max then unsupported (.unsafePointer "String: a length above the largest int")
    if n=0 then pure (.string .empty)
    else if<-variablesAt ⟨g,0,none⟩ (<-elemOf pt) n.toNat then do
     let s<-loadBytes ⟨g,0,none⟩ .empty n.toNat
     freeze ⟨g,0,none⟩ n.toNat
     pure (.string s)
    else unsupported (.unsafePointer "String: not so many bytes at ptr")):=rfl
 rw[hdef];have hmax:IntKind.i64.max=9223372036854775807:=rfl;have hneg: ¬(l.length:Int)<0:=by omega
 simp [asInt,asIntOf,hmax,h63',hneg,hl,variablesAt,hsh,elemOf,aOC hp,hlies,hlb]
def ta {P:Program}{ρ:Go.Shelf.Ren}(L:Lays.n169 P ρ) (X:Builder.Extra P ρ) (b n cap:Nat) (a q:Option Addr) (s:ByteArray) (w w2:pZ)
  (c1:w.drew.cell? ⟨b,1,none⟩=some (.slice a n cap)) (hSD:(Builtin.unsafeSliceData_ #[(ρ.t 37)] (ρ.t 127) #[.slice a n cap]).run P w.drew= .ok (.pointer q) w.drew)
  (hUS:(Builtin.unsafeString_ #[(ρ.t 127),(ρ.t 3)] (ρ.t 9) #[.pointer q,.int .i64 n]).run P w.drew= .ok (.string s) w2):
  Calls P (ρ.f 169) #[.pointer (some ⟨b,0,none⟩)] w λe w'=>e= .returned (.string s)/\w'=w2:=by
 have mixed:=L.mixed;have t72:=L.t72;have a72:=L.a72;have z72:=L.z72;have v72:=L.v72;have u72:=aOC L.t72;have t70:=L.t70;have a70:=L.a70;have z70:=L.z70;have v70:=L.v70;have u70:=aOC L.t70;have t37:=L.t37;have a37:=L.a37;have z37:=L.z37;have v37:=L.v37;have u37:=aOC L.t37;have t127:=L.t127;have a127:=L.a127;have z127:=L.z127;have v127:=L.v127;have u127:=aOC L.t127;have t3:=L.t3;have a3:=L.a3;have z3:=L.z3;have v3:=L.v3;have u3:=aOC L.t3;have t9:=L.t9;have a9:=L.a9;have z9:=L.z9;have v9:=L.v9;have u9:=aOC L.t9;have t5:=X.t5;have a5:=X.a5;have z5:=X.z5;have v5:=X.v5;have u5:=aOC X.t5
 go_enter L.f169,Body.n169_ntmps ρ
 go_wp2
 go_region_o
 all_goals (go_wp2;go_ret;exact⟨rfl,rfl⟩)
def a9l {P:Program}{ρ:Go.Shelf.Ren}(L:Lays.n169 P ρ) (X:Builder.Extra P ρ) (b g:Nat) (cur:Array qA) (w:pZ) (hlt:b<w.heap.size)
  (c1:w.drew.cell? ⟨b,1,none⟩=some (.slice (some ⟨g,0,none⟩) 0 0)) (hg:w.drew.heap[g]? =some (.cells cur (ρ.t 5) (0,0))):
  Calls P (ρ.f 169) #[.pointer (some ⟨b,0,none⟩)] w λe w'=>e= .returned (.string ⟨#[]⟩)/\w'=w.drew.alloc (.view ⟨g,0,none⟩ (ρ.t 5)):=by
 have hUS:=Any.unsafeString_none L X;have hSD:(Builtin.unsafeSliceData_ #[(ρ.t 37)] (ρ.t 127) #[.slice (some ⟨g,0,none⟩) 0 0]).run P w.drew= .ok (.pointer (some ⟨w.drew.heap.size,0,none⟩)) (w.drew.alloc (.view ⟨g,0,none⟩ (ρ.t 5))):=
  Lib.run_unsafeSliceData_zero w.drew _ _ (ρ.t 5) L.t127 ⟨g,0,none⟩ 0 ((ρ.t 5),cur.size) (by simp [World.shape?,hg])
 have c2:(w.drew.alloc (.view ⟨g,0,none⟩ (ρ.t 5))).cell? ⟨b,1,none⟩=some (.slice (some ⟨g,0,none⟩) 0 0):=
  (aOH (a:=⟨b,1,none⟩) (Lib.alloc_old w.drew _ b hlt)).trans c1
 have c3:(w.alloc (.view ⟨g,0,none⟩ (ρ.t 5))).drew.cell? ⟨b,1,none⟩=some (.slice (some ⟨g,0,none⟩) 0 0):=c2;have c0:w.cell? ⟨b,1,none⟩=some (.slice (some ⟨g,0,none⟩) 0 0):=c1;have mixed:=L.mixed;have t72:=L.t72;have a72:=L.a72;have z72:=L.z72;have v72:=L.v72;have u72:=aOC L.t72;have t70:=L.t70;have a70:=L.a70;have z70:=L.z70;have v70:=L.v70;have u70:=aOC L.t70;have t37:=L.t37;have a37:=L.a37;have z37:=L.z37;have v37:=L.v37;have u37:=aOC L.t37;have t127:=L.t127;have a127:=L.a127;have z127:=L.z127;have v127:=L.v127;have u127:=aOC L.t127;have t3:=L.t3;have a3:=L.a3;have z3:=L.z3;have v3:=L.v3;have u3:=aOC L.t3;have t9:=L.t9;have a9:=L.a9;have z9:=L.z9;have v9:=L.v9;have u9:=aOC L.t9;have t5:=X.t5;have a5:=X.a5;have z5:=X.z5;have v5:=X.v5;have u5:=aOC X.t5
 go_enter L.f169,Body.n169_ntmps ρ
 go_wp2
 go_region_o
 all_goals (go_wp2;go_ret;exact⟨rfl,rfl⟩)
@[go_sem] def tf:List qP->List qQ->Option r9
 |[(.val .ref (some (0,0)),none)],[.cells (.pair .mref (.pair (.list (.int .u8)) .unit)) ((some (0,0)),O) [(1,1)],.grow 5 1 a8]=>some ⟨[a8=List.length O.1],[(.val .str (tU O.1),none)],[.cells (.pair .mref (.pair (.list (.int .u8)) .unit)) ((some (0,0)),O) [],.dead]⟩
 |_,_=>none
def tg {g:Gh}{w w':pZ}{m:pW}{b:(Ty.pair (.list (.int .u8)) .unit).den}{e n:Nat}{s:pJ}{sd:List Prop}(hH:sM g w (tD 0 [qQ.cells (.pair .mref (.pair (.list (.int .u8)) .unit)) (m,b) [(1,1)],.grow e 1 n]))
  (hos:w'.os=w.os) (htape:w'.tape=w.tape) (hout:w'.output=w.output) (hsz:w.heap.size<=w'.heap.size)
  (hcell: ∀b o,b<w.heap.size->w'.cell? ⟨b,o,none⟩=w.cell? ⟨b,o,none⟩) (hshape: ∀b s,w.shape? b=some s->w'.shape? b=some s)
  (hblk: ∀b,b<w.heap.size->(∀o,¬sD g 1 (.grow e 1 n) b o)->w'.heap[b]? =w.heap[b]?):
  MJ g w [qQ.cells (.pair .mref (.pair (.list (.int .u8)) .unit)) (m,b) [(1,1)],.grow e 1 n] ⟨sd,[(.val .str s,none)],[.cells (.pair .mref (.pair (.list (.int .u8)) .unit)) (m,b) [],.dead]⟩ g w' (.string ⟨s.toArray⟩):=by
 have hg0:qU (tD 0 [qQ.cells (.pair .mref (.pair (.list (.int .u8)) .unit)) (m,b) [(1,1)],.grow e 1 n]) 0=some (.cells (.pair .mref (.pair (.list (.int .u8)) .unit)) (m,b) [(1,1)]):=rfl;have hg1:qU (tD 0 [qQ.cells (.pair .mref (.pair (.list (.int .u8)) .unit)) (m,b) [(1,1)],.grow e 1 n]) 1=some (.grow e 1 n):=rfl;have hle:Le g w g w':=⟨λ_ _ h=>h,λb o h=>hcell b o (hH.sl b o h),λ_ _ h=>h,λ_ _ _ h=>h⟩;have hno: ∀c o,sD g 0 (.cells (.pair .mref (.pair (.list (.int .u8)) .unit)) (m,b) [(1,1)]) c o->∀o',¬sD g 1 (.grow e 1 n) c o':=λc o h o' h'=>by
  obtain⟨v,hv,hb⟩:=h';exact hH.dis 0 1 _ _ c o pO hg0 hg1 h ⟨v,hv,hb⟩
 obtain⟨p,cs,hJ,hR,hra,hth,hns,htk⟩:=hH.blk 0 _ hg0;have hown0: ∀j,j<2->sD g 0 (.cells (.pair .mref (.pair (.list (.int .u8)) .unit)) (m,b) [(1,1)]) p.1 (p.2+j):=λj hj=>⟨p,hJ,rfl,Nat.le_add_right _ _,Nat.add_lt_add_left hj _⟩;have hpl:p.1<w.heap.size:=VW (hH.blk 0 _ hg0) (hown0 0 pO);have hpb:w'.heap[p.1]? =w.heap[p.1]? :=hblk p.1 hpl (hno p.1 _ (hown0 0 pO));have hbk0:AH g w' 0 (.cells (.pair .mref (.pair (.list (.int .u8)) .unit)) (m,b) []):=
  ⟨p,cs,hJ,xM hle hR,λj v hj=>(hcell _ _ hpl).trans (hra j v hj),⟨λj hj=>by
   have h1:=hth.1 j hj;rw[hcell _ _ hpl];exact⟨h1.1,(aPb (a:=⟨p.1,p.2+j,none⟩) hpb).trans h1.2⟩,λh s hs=>hshape _ _ (hth.2 h s hs)⟩,hns,λ_ _ h=>by cases h⟩
 refine⟨λb o h=>⟨h,hcell b o (hH.sl b o h)⟩,?_,(show rZ g w' (.val .str s,none) (.string ⟨s.toArray⟩) from⟨BV _ _ _,trivial⟩),⟨hos,htape,hout,hsz,?_,?_,λ_ _ h=> .inl h,λb s h=> .inl (hshape b s h)⟩,?_,λ_ _ _ _ _=>rfl,?_,λ_ _ _ h=>h,λ_ _ _ _ h=>h⟩
 .refine⟨λi blk h=>?_,λi j bi bj c o hij hi hj hoi hoj=>?_,λb o h=>aOS (hH.sl b o h) hsz,V7 hH.tab.1 hsz (λc hc=>hblk c (aOS hc hH.tab.1.1) λo ho=>absurd (hH.tab.2 1 _ c o hg1 ho) pN),λi blk c o h ho=>?_⟩
  .match i,h with
   |0,h=>cases h;exact hbk0
   |1,h=>cases h;trivial
   |i+2,h=>simp [tD,qU] at h
  .match i,j,hi,hj with
   |0,0,_,_=>exact hij rfl
   |0,1,_,hj=>cases hj;exact hoj
   |1,_,hi,_=>cases hi;exact hoi
   |0,j+2,_,hj=>simp [tD,qU] at hj
   |i+2,_,hi,_=>simp [tD,qU] at hi
  match i,h with
  |0,h=>cases h;exact hH.tab.2 0 _ c o hg0 ho
  |1,h=>cases h;exact ho.elim
  |i+2,h=>simp [tD,qU] at h
 .intro c hc hn;exact hblk c hc λo ho=>hn o ⟨1,_,hg1,ho⟩
 .intro c o hc hn;exact⟨hcell c o hc,aPb (a:=⟨c,o,none⟩) (hblk c hc λo' ho=>hn ⟨1,_,hg1,by obtain⟨v,hv,hb⟩:=ho;exact⟨v,hv,hb⟩⟩)⟩
 .intro i blk c o hi ho
  match i,hi with
  |0,hi=>cases hi;exact .inr ⟨0,_,hg0,ho⟩
  |1,hi=>cases hi;exact ho.elim
  |i+2,hi=>simp at hi
 intro i t x ts u y us h1 h2
 match i,h1,h2 with
 |0,h1,h2=>cases h1;cases h2;rfl
 |1,h1,_=>cases h1
 |i+2,h1,_=>simp at h1
def a9m (w:pZ) (a p:Addr) (n:Nat):(w.freeze a n).cell? p=w.cell? p:=by
 unfold World.freeze;split
 .rfl
 simp only[World.cell?,aPK];by_cases h:a.block=p.block
 .rw[aOd h];cases w.heap[p.block]? with
  |none=>rfl
  |some o=>cases o<;>rfl
 rw[aOi h]
def a9n (w:pZ) (a:Addr) (n b:Nat):(w.freeze a n).shape? b=w.shape? b:=by
 unfold World.freeze;split
 .rfl
 simp only[World.shape?,aPK];by_cases h:a.block=b
 .rw[aOd h];cases w.heap[b]? with
  |none=>rfl
  |some o=>cases o<;>rfl
 rw[aOi h]
def a9o (w:pZ) (a:Addr) (n b:Nat) (h:b≠a.block):(w.freeze a n).heap[b]? =w.heap[b]? :=by
 unfold World.freeze;split
 .rfl
 simp only[aPK];rw[aOi (Ne.symm h)]
def a9p (w:pZ) (a:Addr) (n:Nat):(w.freeze a n).os=w.os/\(w.freeze a n).tape=w.tape/\(w.freeze a n).output=w.output/\(w.freeze a n).heap.size=w.heap.size:=by
 unfold World.freeze;split
 .exact⟨rfl,rfl,rfl,rfl⟩
 exact⟨rfl,rfl,rfl,by simp⟩
def Jk {g:Gh}{w:pZ}{b:Nat}: ∀{l:pU}{o:Nat},wH (Rd g w (.int .u8)) w g.S 1 b o l->∀j x,l[j]? =some x->w.cell? ⟨b,o+j,none⟩=some (.int .u8 x)
 |[],_,_,_,_,h=>by cases h
 |y::l,o,⟨⟨cs,_,hra,_,hR⟩,hl⟩,j,x,h=>by
  match j,h with
  |0,h=>
   cases h;have hR:cs=[.int .u8 y]:=hR;subst hR;exact hra 0 _ rfl
  |j+1,h=>
   have:=Jk hl j x aQe;rw[show o+(j+1)=o+1+j by omega];exact this
def a9q {u:Ty}{m:pW}{bv:(Ty.pair (.list (.int .u8)) .unit).den}{l:List u.den}(hget:rT (.list u) (.pair .mref (.pair (.list (.int .u8)) .unit)) (m,bv) 1=some l):l.length=bv.1.length:=by
 have h2:rT (.list u) (.list (.int .u8)) bv.1 0=some l:=hget;simp only[rT] at h2;split at h2
 .rename_i h;injection h with h
  subst h;cases h2;rfl
 cases h2
def a9r:z7 prog 95 tf:=by
 refine⟨λ_ _=>rfl,λg w args vals L r hH ha hC hs=>?_⟩;unfold tf at hC;split at hC
 .rename_i bv n;cases hC;obtain rfl:n=List.length bv.1:=hs _ pP;obtain⟨va,_,rfl,ra,hv⟩:=ha;cases hv;have hg0:qU (tD 0 [qQ.cells (.pair .mref (.pair (.list (.int .u8)) .unit)) ((some (0,0)),bv) [(1,1)],.grow 5 1 (List.length bv.1)]) 0=some (.cells (.pair .mref (.pair (.list (.int .u8)) .unit)) ((some (0,0)),bv) [(1,1)]):=rfl;have hg1:qU (tD 0 [qQ.cells (.pair .mref (.pair (.list (.int .u8)) .unit)) ((some (0,0)),bv) [(1,1)],.grow 5 1 (List.length bv.1)]) 1=some (.grow 5 1 (List.length bv.1)):=rfl;obtain⟨p,cs,hJ,hR,hra,hth,hns,htk⟩:=hH.blk 0 _ hg0;obtain⟨v',xs,hv',hown,hmax,hsl⟩:=hH.blk 1 _ hg1;obtain⟨c1,c2,rfl,hR1,hR2⟩:=hR;obtain⟨d1,d2,rfl,⟨a,cap,rfl,hcap,hl⟩,hd2⟩:=hR2;obtain⟨p',hJ',⟨hp0,_,_,_⟩,hc1⟩:=hR1;rw[hJ] at hJ';obtain rfl:=aOj hJ';obtain⟨b,o,k⟩:=p;have ho:o=0:=by simpa using hp0
  subst ho;have hlen1:c1.length=1:=by rcases hc1 with rfl|rfl<;>rfl
  obtain⟨q,hq,hva⟩:=zH ra.1;rw[hJ] at hq;cases hq;subst hva;have hcell1:w.cell? ⟨b,1,none⟩=some (.slice a bv.1.length cap):=hra 1 _ (by rw[aOp pN,hlen1];rfl);obtain⟨u,l,v,hget,hcv,hcur⟩:=htk 1 1 pP;have hvv:v= .slice a bv.1.length cap:=by
   rw[aOp pN,hlen1] at hcv;exact(aOj hcv).symm
  have hll:l.length=bv.1.length:=a9q hget;rw[hll,hv',hvv] at hcur;obtain rfl:=aOj hcur;have hbl:b<w.heap.size:=nh hcell1;have hdr: ∀(s:pJ) (sd:List Prop),MJ g w _ ⟨sd,[(.val .str s,none)],[.cells (.pair .mref (.pair (.list (.int .u8)) .unit)) ((some (0,0)),bv) [],.dead]⟩ g w.drew (.string ⟨s.toArray⟩):=λs sd=>
   tg hH rfl rfl rfl (aOA _) (λ_ _ _=>rfl) (λ_ _ h=>h) (λ_ _ _=>rfl)
  obtain⟨hx,⟨hnil,h0⟩ |⟨gb,cap',cur,hsl',hb0,hbk,hnc,hcm,hcs,htake⟩⟩:=hown
  .have hb0:bv.1=[]:=aPo.1 h0;have hz:tU bv.1=[]:=by rw[hb0];rfl
   have hl0:List.length bv.1=0:=h0;injection hnil with e1 e2 e3
   subst e1;subst e3;refine(ta Tryz.lays169 Tryz.builderExtra b bv.1.length 0 none none .empty w w.drew hcell1 rfl (by rw[hl0];exact Any.unsafeString_none Tryz.lays169 Tryz.builderExtra w.drew none)).mono ?_;rintro e w' ⟨rfl,rfl⟩;exact⟨_,g,rfl,by rw[hz];exact hdr [] _⟩
  injection hsl' with e1 e2 e3
  subst e1;subst e3;have hsz:bv.1.length<=cur.size:=by omega
  by_cases hb0:bv.1=[]
  .have hz:tU bv.1=[]:=by rw[hb0];rfl
   have hl0:List.length bv.1=0:=by rw[hb0];rfl
   by_cases hc0:cap=0
   .subst hc0;rw[hl0] at hcell1;refine(a9l Tryz.lays169 Tryz.builderExtra b gb cur w hbl hcell1 hbk).mono ?_;rintro e w' ⟨rfl,rfl⟩;have hold: ∀c,c<w.heap.size->(w.drew.alloc (.view ⟨gb,0,none⟩ 5)).heap[c]? =w.heap[c]? :=λc hc=>Lib.alloc_old w.drew _ c hc;refine⟨_,g,rfl,?_⟩;rw[hz];exact tg hH rfl rfl rfl pP (λc o hc=>aOH (a:=⟨c,o,none⟩) (hold c hc)) (λc s h=>(F7 (hold c (F6 h))).trans h) (λc hc _=>hold c hc)
   refine(ta Tryz.lays169 Tryz.builderExtra b bv.1.length cap (some ⟨gb,0,none⟩) (some ⟨gb,0,none⟩) .empty w w.drew hcell1 (Lib.run_unsafeSliceData_row _ _ _ _ _ _ hc0) (by rw[hl0];exact Any.unsafeString_none Tryz.lays169 Tryz.builderExtra w.drew _)).mono ?_;rintro e w' ⟨rfl,rfl⟩;exact⟨_,g,rfl,by rw[hz];exact hdr [] _⟩
  have hcap0:cap≠0:=λh=>hb0 (aPo.1 pN);have hcb: ∀j x,bv.1[j]? =some x->w.cell? ⟨gb,j,none⟩=some (.int .u8 x):=by
   rcases hl with hl|⟨b',o',ha',hl⟩
   .exact absurd hl hb0
   cases ha';intro j x hj;have:=Jk hl j x hj;rwa [aOO] at this
  have hbk':w.drew.heap[gb]? =some (.cells cur 5 (0,0)):=hbk;have hshp:w.drew.shape? gb=some (5,cur.size):=by simp only[World.shape?,hbk']
  refine(ta Tryz.lays169 Tryz.builderExtra b bv.1.length cap (some ⟨gb,0,none⟩) (some ⟨gb,0,none⟩) ⟨(tU bv.1).toArray⟩ w (w.drew.freeze ⟨gb,0,none⟩ bv.1.length) hcell1 (Lib.run_unsafeSliceData_row _ _ _ _ _ _ hcap0)
   (a9k w.drew _ _ _ 5 (Tryz.lays169).t127 (Tryz.builderExtra).cellsByte gb cur.size hshp bv.1 hb0 hsz (by unfold maxLen at hcm;omega) (λj x h=>by rw[aPp,aOO];exact hcb j x h))).mono ?_
  rintro e w' ⟨rfl,rfl⟩;refine⟨_,g,rfl,?_⟩;have hblk: ∀c,(∀o,¬sD g 1 (.grow 5 1 (List.length bv.1)) c o)->(w.drew.freeze ⟨gb,0,none⟩ bv.1.length).heap[c]? =w.heap[c]? :=λc hc=>a9o w.drew _ _ c λe=>hc 0 ⟨_,hv',by rw[e];rfl⟩;have hr:=a9p w.drew ⟨gb,0,none⟩ bv.1.length;refine tg hH hr.1 hr.2.1 hr.2.2.1 (aPH hr.2.2.2.symm) (λc o _=>a9m w.drew _ _ _) (λc s h=>(a9n w.drew _ _ c).trans h) (λc _ hc=>hblk c hc)
 cases hC
end Go.Proofs.YtedimeeleabhnaaGreatDoor
namespace Go.Proofs
open Go.RowKit Go.Lib
open Tryz
def Tryz.lays156_ren:Go.Shelf.Ren:=⟨fun|156=>59|165=>96|166=>92|169=>95|240=>129|241=>134|276=>178|277=>183|n=>n,fun|31=>22|9=>9|3=>3|4=>4|0=>0|20=>20|72=>113|76=>116|70=>110|37=>111|75=>115|127=>153|164=>202|5=>5|80=>120|n=>n,fun|n=>n⟩
theorem Tryz.lays156:Go.Proofs.Lays.n156 prog Tryz.lays156_ren:={
 mixed:=by kernel_rfl
 f156:=Tryz.func59.trans (aOI some qB)
 f165:=Tryz.func96.trans (aOI some qB)
 f166:=Tryz.func92.trans (aOI some qB)
 f169:=Tryz.func95.trans (aOI some qB)
 f240:=Tryz.func129.trans (aOI some qB)
 f241:=Tryz.func134.trans (aOI some qB)
 f276:=Tryz.func178.trans (aOI some qB)
 f277:=Tryz.func183.trans (aOI some qB)
 t0:=Tryz.underlying0
 a0:=Tryz.isAgg0
 z0:=Tryz.sizeOf0
 v0:=Tryz.zeroValue0
 t3:=Tryz.underlying3
 a3:=Tryz.isAgg3
 z3:=Tryz.sizeOf3
 v3:=Tryz.zeroValue3
 t4:=Tryz.underlying4
 a4:=Tryz.isAgg4
 z4:=Tryz.sizeOf4
 v4:=Tryz.zeroValue4
 t9:=Tryz.underlying9
 a9:=Tryz.isAgg9
 z9:=Tryz.sizeOf9
 v9:=Tryz.zeroValue9
 t20:=Tryz.underlying20
 a20:=Tryz.isAgg20
 z20:=Tryz.sizeOf20
 v20:=Tryz.zeroValue20
 t31:=Tryz.underlying22
 a31:=Tryz.isAgg22
 z31:=Tryz.sizeOf22
 v31:=Tryz.zeroValue22
 t37:=Tryz.underlying111
 a37:=Tryz.isAgg111
 z37:=Tryz.sizeOf111
 v37:=Tryz.zeroValue111
 t70:=Tryz.underlying110
 a70:=Tryz.isAgg110
 z70:=Tryz.sizeOf110
 v70:=Tryz.zeroValue110
 t72:=Tryz.underlying113
 a72:=Tryz.isAgg113
 z72:=Tryz.sizeOf113
 v72:=Tryz.zeroValue113
 t75:=Tryz.underlying115
 a75:=Tryz.isAgg115
 z75:=Tryz.sizeOf115
 v75:=Tryz.zeroValue115
 t76:=Tryz.underlying116
 a76:=Tryz.isAgg116
 z76:=Tryz.sizeOf116
 v76:=Tryz.zeroValue116
 t127:=Tryz.underlying153
 a127:=Tryz.isAgg153
 z127:=Tryz.sizeOf153
 v127:=Tryz.zeroValue153
 t164:=Tryz.underlying202
 a164:=Tryz.isAgg202
 z164:=Tryz.sizeOf202
 v164:=Tryz.zeroValue202}
theorem Tryz.builderExtraJ:Builder.Extra prog Tryz.lays156_ren:={
 sizeBuilder:=by kernel_rfl
 liesBuilder:=by kernel_rfl
 t5:=Tryz.underlying5
 a5:=Tryz.isAgg5
 z5:=Tryz.sizeOf5
 v5:=Tryz.zeroValue5
 infoByte:=by kernel_rfl
 cellsByte:=by kernel_rfl
 sizeByte:=by kernel_rfl
 neB5:=by decide}
def Tryz.lays160_ren:Go.Shelf.Ren:=⟨fun|160=>333|232=>336|231=>335|227=>337|234=>339|233=>338|236=>341|235=>340|228=>342|271=>344|151=>343|197=>302|120=>346|152=>345|260=>318|137=>132|119=>347|224=>320|225=>319|217=>180|266=>242|n=>n,fun|9=>9|4=>4|3=>3|5=>5|117=>312|116=>311|0=>0|124=>315|21=>21|105=>289|46=>250|119=>246|139=>249|138=>248|n=>n,fun|3=>0|4=>1|n=>n⟩
theorem Tryz.lays160:Go.Proofs.Lays.n160 prog Tryz.lays160_ren:={
 mixed:=by kernel_rfl
 f119:=Tryz.func347.trans (aOI some qB)
 f120:=Tryz.func346.trans (aOI some qB)
 f137:=Tryz.func132.trans (aOI some qB)
 f151:=Tryz.func343.trans (aOI some qB)
 f152:=Tryz.func345.trans (aOI some qB)
 f160:=Tryz.func333.trans (aOI some qB)
 f197:=Tryz.func302.trans (aOI some qB)
 f217:=Tryz.func180.trans (aOI some qB)
 f224:=Tryz.func320.trans (aOI some qB)
 f225:=Tryz.func319.trans (aOI some qB)
 f227:=Tryz.func337.trans (aOI some qB)
 f228:=Tryz.func342.trans (aOI some qB)
 f231:=Tryz.func335.trans (aOI some qB)
 f232:=Tryz.func336.trans (aOI some qB)
 f233:=Tryz.func338.trans (aOI some qB)
 f234:=Tryz.func339.trans (aOI some qB)
 f235:=Tryz.func340.trans (aOI some qB)
 f236:=Tryz.func341.trans (aOI some qB)
 f260:=Tryz.func318.trans (aOI some qB)
 f266:=Tryz.func242.trans (aOI some qB)
 f271:=Tryz.func344.trans (aOI some qB)
 t0:=Tryz.underlying0
 a0:=Tryz.isAgg0
 z0:=Tryz.sizeOf0
 v0:=Tryz.zeroValue0
 t3:=Tryz.underlying3
 a3:=Tryz.isAgg3
 z3:=Tryz.sizeOf3
 v3:=Tryz.zeroValue3
 t4:=Tryz.underlying4
 a4:=Tryz.isAgg4
 z4:=Tryz.sizeOf4
 v4:=Tryz.zeroValue4
 t5:=Tryz.underlying5
 a5:=Tryz.isAgg5
 z5:=Tryz.sizeOf5
 v5:=Tryz.zeroValue5
 t9:=Tryz.underlying9
 a9:=Tryz.isAgg9
 z9:=Tryz.sizeOf9
 v9:=Tryz.zeroValue9
 t21:=Tryz.underlying21
 a21:=Tryz.isAgg21
 z21:=Tryz.sizeOf21
 v21:=Tryz.zeroValue21
 t46:=Tryz.underlying250
 a46:=Tryz.isAgg250
 z46:=Tryz.sizeOf250
 v46:=Tryz.zeroValue250
 t105:=Tryz.underlying289
 a105:=Tryz.isAgg289
 z105:=Tryz.sizeOf289
 v105:=Tryz.zeroValue289
 t116:=Tryz.underlying311
 a116:=Tryz.isAgg311
 z116:=Tryz.sizeOf311
 t117:=Tryz.underlying312
 a117:=Tryz.isAgg312
 z117:=Tryz.sizeOf312
 v117:=Tryz.zeroValue312
 t119:=Tryz.underlying246
 a119:=Tryz.isAgg246
 z119:=Tryz.sizeOf246
 t124:=Tryz.underlying315
 a124:=Tryz.isAgg315
 z124:=Tryz.sizeOf315
 v124:=Tryz.zeroValue315
 t138:=Tryz.underlying248
 a138:=Tryz.isAgg248
 z138:=Tryz.sizeOf248
 v138:=Tryz.zeroValue248
 t139:=Tryz.underlying249
 a139:=Tryz.isAgg249
 z139:=Tryz.sizeOf249
 v139:=Tryz.zeroValue249
 g3:=by kernel_rfl
 g4:=by kernel_rfl}
def Tryz.lays171M_ren:Go.Shelf.Ren:=⟨fun|171=>131|243=>179|246=>241|283=>281|284=>282|285=>283|286=>284|129=>306|317=>305|318=>307|319=>308|320=>309|337=>322|338=>323|n=>n,fun|3=>3|9=>9|2=>2|4=>4|171=>271|0=>0|53=>270|37=>111|5=>5|173=>274|212=>293|51=>276|20=>20|213=>294|46=>250|232=>305|233=>306|n=>n,fun|17=>3|18=>4|19=>5|n=>n⟩
theorem Tryz.lays171M:Go.Proofs.LaysM.n171 prog Tryz.lays171M_ren:={
 mixed:=by kernel_rfl
 f129:=Tryz.func306.trans (aOI some qB)
 f171:=Tryz.func131.trans (aOI some qB)
 f243:=Tryz.func179.trans (aOI some qB)
 f246:=Tryz.func241.trans (aOI some qB)
 f283:=Tryz.func281.trans (aOI some qB)
 f284:=Tryz.func282.trans (aOI some qB)
 f285:=Tryz.func283.trans (aOI some qB)
 f286:=Tryz.func284.trans (aOI some qB)
 f317:=Tryz.func305.trans (aOI some qB)
 f318:=Tryz.func307.trans (aOI some qB)
 f319:=Tryz.func308.trans (aOI some qB)
 f320:=Tryz.func309.trans (aOI some qB)
 f337:=Tryz.func322.trans (aOI some qB)
 f338:=Tryz.func323.trans (aOI some qB)
 t0:=Tryz.underlying0
 a0:=Tryz.isAgg0
 z0:=Tryz.sizeOf0
 v0:=Tryz.zeroValue0
 t2:=Tryz.underlying2
 a2:=Tryz.isAgg2
 z2:=Tryz.sizeOf2
 v2:=Tryz.zeroValue2
 t3:=Tryz.underlying3
 a3:=Tryz.isAgg3
 z3:=Tryz.sizeOf3
 v3:=Tryz.zeroValue3
 t4:=Tryz.underlying4
 a4:=Tryz.isAgg4
 z4:=Tryz.sizeOf4
 v4:=Tryz.zeroValue4
 t5:=Tryz.underlying5
 a5:=Tryz.isAgg5
 z5:=Tryz.sizeOf5
 v5:=Tryz.zeroValue5
 t9:=Tryz.underlying9
 a9:=Tryz.isAgg9
 z9:=Tryz.sizeOf9
 v9:=Tryz.zeroValue9
 t20:=Tryz.underlying20
 a20:=Tryz.isAgg20
 z20:=Tryz.sizeOf20
 v20:=Tryz.zeroValue20
 t37:=Tryz.underlying111
 a37:=Tryz.isAgg111
 z37:=Tryz.sizeOf111
 v37:=Tryz.zeroValue111
 t46:=Tryz.underlying250
 a46:=Tryz.isAgg250
 z46:=Tryz.sizeOf250
 v46:=Tryz.zeroValue250
 t51:=Tryz.underlying276
 a51:=Tryz.isAgg276
 z51:=Tryz.sizeOf276
 v51:=Tryz.zeroValue276
 t53:=Tryz.underlying270
 a53:=Tryz.isAgg270
 z53:=Tryz.sizeOf270
 v53:=Tryz.zeroValue270
 t171:=Tryz.underlying271
 a171:=Tryz.isAgg271
 z171:=Tryz.sizeOf271
 v171:=Tryz.zeroValue271
 t173:=Tryz.underlying274
 a173:=Tryz.isAgg274
 z173:=Tryz.sizeOf274
 v173:=Tryz.zeroValue274
 t212:=Tryz.underlying293
 a212:=Tryz.isAgg293
 z212:=Tryz.sizeOf293
 v212:=Tryz.zeroValue293
 t213:=Tryz.underlying294
 a213:=Tryz.isAgg294
 z213:=Tryz.sizeOf294
 t232:=Tryz.underlying305
 a232:=Tryz.isAgg305
 z232:=Tryz.sizeOf305
 v232:=Tryz.zeroValue305
 t233:=Tryz.underlying306
 a233:=Tryz.isAgg306
 z233:=Tryz.sizeOf306
 v233:=Tryz.zeroValue306
 g17:=by kernel_rfl
 g18:=by kernel_rfl
 g19:=by kernel_rfl
 i0:=by kernel_rfl
 i2:=by kernel_rfl
 i3:=by kernel_rfl
 i4:=by kernel_rfl
 i5:=by kernel_rfl
 i9:=by kernel_rfl
 i20:=by kernel_rfl
 i37:=by kernel_rfl
 i46:=by kernel_rfl
 i51:=by kernel_rfl
 i53:=by kernel_rfl
 i171:=by kernel_rfl
 i173:=by kernel_rfl
 i212:=by kernel_rfl
 i232:=by kernel_rfl
 i233:=by kernel_rfl
 m17:=by kernel_rfl
 m18:=by kernel_rfl
 m19:=by kernel_rfl}
def Tryz.lays219_ren:Go.Shelf.Ren:=⟨fun|219=>304|217=>180|225=>319|224=>320|267=>321|266=>242|314=>327|n=>n,fun|9=>9|3=>3|4=>4|5=>5|46=>250|146=>277|51=>276|n=>n,fun|1=>2|n=>n⟩
theorem Tryz.lays219:Go.Proofs.Lays.n219 prog Tryz.lays219_ren:={
 mixed:=by kernel_rfl
 f217:=Tryz.func180.trans (aOI some qB)
 f219:=Tryz.func304.trans (aOI some qB)
 f224:=Tryz.func320.trans (aOI some qB)
 f225:=Tryz.func319.trans (aOI some qB)
 f266:=Tryz.func242.trans (aOI some qB)
 f267:=Tryz.func321.trans (aOI some qB)
 f314:=Tryz.func327.trans (aOI some qB)
 t3:=Tryz.underlying3
 a3:=Tryz.isAgg3
 z3:=Tryz.sizeOf3
 v3:=Tryz.zeroValue3
 t4:=Tryz.underlying4
 a4:=Tryz.isAgg4
 z4:=Tryz.sizeOf4
 v4:=Tryz.zeroValue4
 t5:=Tryz.underlying5
 a5:=Tryz.isAgg5
 z5:=Tryz.sizeOf5
 v5:=Tryz.zeroValue5
 t9:=Tryz.underlying9
 a9:=Tryz.isAgg9
 z9:=Tryz.sizeOf9
 v9:=Tryz.zeroValue9
 t46:=Tryz.underlying250
 a46:=Tryz.isAgg250
 z46:=Tryz.sizeOf250
 v46:=Tryz.zeroValue250
 t51:=Tryz.underlying276
 a51:=Tryz.isAgg276
 z51:=Tryz.sizeOf276
 v51:=Tryz.zeroValue276
 t146:=Tryz.underlying277
 a146:=Tryz.isAgg277
 z146:=Tryz.sizeOf277
 v146:=Tryz.zeroValue277
 g1:=by kernel_rfl}
end Go.Proofs
namespace Go.Proofs.YtedimeeleabhnaaGreatDoor
open Vc Go.RowKit
open Tryz
theorem a9s {w:pZ}(h:J5 w):Lib.TabIs prog w "internal/strconv.uint64pow10" .u64 Lib.pow10Tab:=by
 obtain⟨_,e,fz,h1⟩:=h.2.2.2.2 _ (aOz);unfold Lib.TabIs World.var?;rw[show Tryz.prog.globalNamed "internal/strconv.uint64pow10" =some 3 from by kernel_rfl]
 simp only[aOc];rw[h1]
@[go_sem] def th:List qP->List qQ->Option r9
 |[(.val .str O,none),(.val .str a8,none)],[]=>some ⟨[(List.all a8 λb=>decide (b.toNat<128))=true/\List.length a8<4294967281,List.length O<=9223372036854775807],[(.val .str (Lib.trimS O a8),none)],[]⟩
 |_,_=>none
theorem a9t:z7 prog 333 th:=by
 refine FF (λ_ _=>rfl) λg w args vals L r hT ha hC hs=>?_;unfold th at hC;split at hC
 .rename_i s c;cases hC;obtain⟨h1,h2⟩:=hs _ aOz;have h3:=hs (List.length s<=9223372036854775807) pP;obtain⟨va,_,rfl,ra,vb,_,rfl,rb,hv⟩:=ha;obtain rfl:=xX ra.1;obtain rfl:=xX rb.1;cases hv;exact⟨rfl,rfl,(Any.strings_Trim_laid Tryz.lays160 qB ⟨List.toArray s⟩ ⟨List.toArray c⟩ w h3 h2 (ascii_of_all h1)).mono λe w' ⟨he,hb⟩=>⟨_,he,hb,BV _ _ _,trivial⟩⟩
 cases hC
@[go_sem] def tj:List qP->List qQ->Option r9
 |[(.val (.int .i64) n,none)],[]=>some ⟨[-9223372036854775808<=n/\n<=9223372036854775807],[(.val .str (Lib.itoa n),none)],[]⟩
 |_,_=>none
theorem a9u:z7 prog 131 tj:=by
 refine FF (λ_ _=>rfl) λg w args vals L r hT ha hC hs=>?_;unfold tj at hC;split at hC
 .rename_i n;cases hC;obtain⟨h1,h2⟩:=hs _ aOz;obtain⟨va,_,rfl,ra,hv⟩:=ha;obtain rfl:=vK ra.1;cases hv;refine⟨rfl,rfl,(Any.strconv_Itoa Tryz.lays171M n h1 h2 w (a9s hT)).mono λe w' ⟨he,k,os,hw⟩=>⟨_,he,?_,BV _ _ _,trivial⟩⟩;subst hw;exact⟨rfl,rfl,rfl,by show w.heap.size<=(w.heap++os).size;rw[aP7];omega,λ_ hj=>Sort.heap_grow_old (w.drewN k) os hj⟩
 cases hC
@[go_sem] def tm:List qP->List qQ->Option r9
 |[(.val .str O,none),(.val .str a8,none)],[]=>some ⟨[List.length O<4294967281],[(.val (.int .i64) (G7 O a8),none)],[]⟩
 |_,_=>none
theorem a9v:z7 prog 304 tm:=by
 refine FF (λ_ _=>rfl) λg w args vals L r hT ha hC hs=>?_;unfold tm at hC;split at hC
 .rename_i s c;cases hC;have h1:=hs _ aOz;obtain⟨va,_,rfl,ra,vb,_,rfl,rb,hv⟩:=ha;obtain rfl:=xX ra.1;obtain rfl:=xX rb.1;cases hv;obtain⟨m,hm⟩:=hT.2.2.1;exact⟨rfl,rfl,(cq (Any.stringslite_Index Tryz.lays219 ⟨List.toArray s⟩ ⟨List.toArray c⟩ m w h1 hm)).mono λe w' ⟨he,hb⟩=>⟨_,he,hb,wU _ _ _ _,trivial⟩⟩
 cases hC
def FG (l:pK) (sep:pJ):pJ:=Lib.join l sep
@[go_sem] def tn:List qP->List qQ->Option r9
 |[(.val (.list .str) l,none),(.val .str c,none)],[]=>some ⟨[List.length l<=140737488355328/\List.length (FG l c)<=140737488355328],[(.val .str (FG l c),none)],[]⟩
 |_,_=>none
theorem a9w:z7 prog 59 tn:=by
 refine FF (λ_ _=>rfl) λg w args vals L r hT ha hC hs=>?_;unfold tn at hC;split at hC
 .rename_i l c;cases hC;obtain⟨h1,h2⟩:=hs _ aOz;obtain⟨va,_,rfl,ra,vb,_,rfl,rb,hv⟩:=ha;obtain⟨a,cap,rfl,hcap,hlist⟩:=FA ra.1;obtain rfl:=xX rb.1;cases hv;refine⟨rfl,rfl,?_⟩;unfold FG at h2;have hxm:(l.map λx=>(⟨x.toArray⟩:ByteArray)).map (·.data.toList)=l:=by
   rw[List.map_map];exact(List.map_congr_left λx _=>rfl).trans (List.map_id l)
  rcases l with _|⟨x,_|⟨y,r⟩⟩
  .exact(cq (Any.strings_Join_none Tryz.lays156 Tryz.builderExtraJ a cap ⟨List.toArray c⟩ w)).mono λe w' ⟨he,hb⟩=>⟨_,he,hb,BV _ _ _,trivial⟩
  .rcases hlist with h|⟨b,o,rfl,hL⟩
   .cases h
   obtain⟨cs,k1,k2,k3,k4⟩:=VZ hL (i:=0) (x:=x) rfl;rw[show cs=[.string ⟨List.toArray x⟩] from k4] at k2;have k5:=k2 0 _ rfl;rw[Nat.zero_mul,aPm] at k5;exact(cq (Any.strings_Join_one Tryz.lays156 Tryz.builderExtraJ b o cap ⟨List.toArray x⟩ ⟨List.toArray c⟩ w k5)).mono λe w' ⟨he,hb⟩=>⟨_,he,hb,(by rw[show FG [x] c=x from Lib.join_one x c];exact BV _ _ _),trivial⟩
  rcases hlist with h|⟨b,o,rfl,hL⟩
  .cases h
  have hc: ∀(j:Nat) z,((x::y::r).map λx=>(⟨List.toArray x⟩:ByteArray))[j]? =some z->w.cell? ⟨b,o+j,none⟩=some (.string z):=by
   intro j z hz;rw[List.getElem?_map] at hz;obtain⟨u,hu,rfl⟩:=aOq.1 hz;obtain⟨cs,k1,k2,k3,k4⟩:=VZ hL hu;rw[show cs=[.string ⟨List.toArray u⟩] from k4] at k2;have k5:=k2 0 _ rfl;rw[aPm,show j*Ty.str.cells=j from aQd j] at k5;exact k5
  have h0:=hc 0 _ rfl;have:=Any.strings_Join_many Tryz.lays156 Tryz.builderExtraJ b o cap ((x::y::r).map λx=>(⟨List.toArray x⟩:ByteArray)) ⟨List.toArray c⟩ w hc (World.block_lt_of_cell? _ _ h0) pP (by simpa using h1) (by simpa using hcap) (by rw[hxm];exact h2);rw[hxm] at this;rw[aPa] at this;exact this.mono λe w' ⟨he,hb⟩=>⟨_,he,hb,BV _ _ _,trivial⟩
 cases hC
end Go.Proofs.YtedimeeleabhnaaGreatDoor
namespace Go.Proofs.YtedimeeleabhnaaGreatDoor
open Go.RowKit Go.Shelf Go.Lib
theorem a9x {w:pZ}(hc:w.cell? ⟨5,15,none⟩=some (.int .u8 4)):
  Calls Tryz.prog 323 #[.int .u64 16] w λe w'=>e= .returned (.int .i64 4)/\w'=w:=by
 go_enter Tryz.func323,Tryz.ntmps323
 have k0:bits BinOp.and IntKind.u64 16 (IntKind.u64.wrap (-16))=16:=by decide+kernel
 have k1:IntKind.u64.wrap (16*285870213051353865) /288230376151711744=15:=by decide+kernel
 go_wp2
 go_ret
 exact⟨rfl,rfl⟩
theorem Jl {w:pZ}(hc:w.cell? ⟨5,15,none⟩=some (.int .u8 4)):
  Calls Tryz.prog 309 #[.int .u64 16] w λe w'=>e= .returned (.int .i64 4)/\w'=w:=by
 go_enter Tryz.func309,Tryz.ntmps309
 go_wp2_with fail
 refine(a9x hc).mono ?_;rintro e w' ⟨rfl,rfl⟩
 go_wp2
 go_ret
 exact⟨rfl,rfl⟩
theorem Jm {w:pZ}:
  Calls Tryz.prog 308 #[.int .i64 16] w λe w'=>e= .returned (.bool true)/\w'=w:=by
 have k0:bits BinOp.and IntKind.i64 16 15=0:=by decide+kernel
 go_enter Tryz.func308,Tryz.ntmps308
 go_wp2
 go_ret
 exact⟨rfl,rfl⟩
theorem Jn {w:pZ}{a:Addr}{v:qA}(h:w.cell? a=some v):a.block<w.heap.size:=by
 unfold World.cell? at h;split at h
 .rename_i hb;exact(aOB.1 hb).1
 cases h
def MW (n:Nat):UInt8:=if n<10 then(48+n).toUInt8 else(87+n).toUInt8
theorem a9y (w:pZ) (d:UInt8):(convert 111 9 (.slice (some ⟨w.heap.size,64,none⟩) 1 1)).run Tryz.prog (w.alloc (.cells (Tryz.zeroCells294.setIfInBounds 64 (.int .u8 (d.toNat:Int))) 294))= .ok (.string ⟨#[d]⟩) (w.alloc (.cells (Tryz.zeroCells294.setIfInBounds 64 (.int .u8 (d.toNat:Int))) 294)):=by
 refine run_convert_bytes_back _ _ _ 5 ⟨w.heap.size,64,none⟩ 1 [d] Tryz.underlying111 Tryz.underlying5 Tryz.underlying9 λj hj=>?_;have:j=0:=by simpa using hj
 subst this;simp [Addr.add,aPA]
theorem tp: ∀u:Fin 16,(⟨#[48,49,50,51,52,53,54,55,56,57,97,98,99,100,101,102,103,104,105,106,107,108,109,110,111,112,113,114,115,116,117,118,119,120,121,122]⟩:ByteArray).data[u.val]? =some (MW u.val):=by decide+kernel
theorem a9z {w:pZ}(hc:w.cell? ⟨5,15,none⟩=some (.int .u8 4)) (u:Nat) (hu:u<16):
  Calls Tryz.prog 284 #[.slice none 0 0,.int .u64 u,.int .i64 16,.bool false,.bool false] w λe w'=>e= .returned (.tuple #[.slice none 0 0,.string ⟨#[MW u]⟩])/\Below w.heap.size w w':=by
 have hc2:(w.alloc (.cells Tryz.zeroCells294 294)).cell? ⟨5,15,none⟩=some (.int .u8 4):=by
  rw[aOH (a:=⟨5,15,none⟩) (aOK _ _ _ (Jn hc))];exact hc
 go_enter Tryz.func284,Tryz.ntmps284
 go_wp2_with fail
 refine Jm.mono ?_;rintro e w' ⟨rfl,rfl⟩
 go_wp2_with fail
 refine(Jl hc2).mono ?_;rintro e w' ⟨rfl,rfl⟩
 go_wp2_with fail
 go_rounds 1
 rw[a9y];simp only[Result.andThen];rw[Oper.upon_value]
 go_wp2
 go_ret2
 refine⟨?_,(Below.refl _ _).alloc (aOA _) _⟩;have h:=tp ⟨u,hu⟩;obtain⟨h1,h2⟩:=aOB.1 h;rw[<-h2];rfl
theorem a9A (w:pZ) (d e:UInt8):(convert 111 9 (.slice (some ⟨w.heap.size,63,none⟩) 2 2)).run Tryz.prog (w.alloc (.cells ((Tryz.zeroCells294.setIfInBounds 64 (.int .u8 (e.toNat:Int))).setIfInBounds 63 (.int .u8 (d.toNat:Int))) 294))= .ok (.string ⟨#[d,e]⟩) (w.alloc (.cells ((Tryz.zeroCells294.setIfInBounds 64 (.int .u8 (e.toNat:Int))).setIfInBounds 63 (.int .u8 (d.toNat:Int))) 294)):=by
 refine run_convert_bytes_back _ _ _ 5 ⟨w.heap.size,63,none⟩ 2 [d,e] Tryz.underlying111 Tryz.underlying5 Tryz.underlying9 λj hj=>?_
 match j,hj with
 |0,_=>simp [Addr.add,aPA]
 |1,_=>simp [Addr.add,aPA]
theorem a9B: ∀u:Fin 256,bits BinOp.and IntKind.u64 (u.val:Int) 15=((u.val%16:Nat):Int):=by decide+kernel
theorem a9C {w:pZ}(hc:w.cell? ⟨5,15,none⟩=some (.int .u8 4)) (u:Nat) (hu:16<=u) (hu2:u<256):
  Calls Tryz.prog 284 #[.slice none 0 0,.int .u64 u,.int .i64 16,.bool false,.bool false] w λe w'=>e= .returned (.tuple #[.slice none 0 0,.string ⟨#[MW (u/16),MW (u%16)]⟩])/\Below w.heap.size w w':=by
 have hc2:(w.alloc (.cells Tryz.zeroCells294 294)).cell? ⟨5,15,none⟩=some (.int .u8 4):=by
  rw[aOH (a:=⟨5,15,none⟩) (aOK _ _ _ (Jn hc))];exact hc
 have h15:=a9B ⟨u,hu2⟩;have hm:u%16<16:=Nat.mod_lt _ pO;have hq:u/16<16:=by omega
 have hq2:((u:Int)) /16=((u/16:Nat):Int):=rfl;dsimp only at h15;have H15:=Lib.hid h15;clear h15;obtain⟨m,hmm⟩: ∃m,u%16=m:=⟨_,rfl⟩;obtain⟨q,hqq⟩: ∃q,u/16=q:=⟨_,rfl⟩;rw[hmm] at hm;rw[hqq] at hq hq2;have h15:=H15.out;rw[hmm] at h15;have HM:=Lib.hid hmm;have HQ:=Lib.hid hqq;clear hmm hqq H15
 go_enter Tryz.func284,Tryz.ntmps284
 go_wp2_with fail
 refine Jm.mono ?_;rintro e w' ⟨rfl,rfl⟩
 go_wp2_with fail
 refine(Jl hc2).mono ?_;rintro e w' ⟨rfl,rfl⟩
 go_wp2_with fail
 go_rounds 2
 rw[a9A];simp only[Result.andThen];rw[Oper.upon_value]
 go_wp2
 go_ret2
 refine⟨?_,(Below.refl _ _).alloc (aOA _) _⟩;have h:=tp ⟨m,hm⟩;obtain⟨h1,h2⟩:=aOB.1 h;have k:=tp ⟨q,hq⟩;obtain⟨k1,k2⟩:=aOB.1 k;rw[HM.out,HQ.out,<-h2,<-k2];rfl
def xQ (c _b:Int):pJ:=if c<16 then[MW c.toNat] else[MW (c.toNat/16),MW (c.toNat%16)]
theorem fb {w:pZ}(hc:w.cell? ⟨5,15,none⟩=some (.int .u8 4)) (u:Nat) (hu2:u<256):
  Calls Tryz.prog 284 #[.slice none 0 0,.int .u64 u,.int .i64 16,.bool false,.bool false] w λe w'=>e= .returned (.tuple #[.slice none 0 0,.string ⟨(xQ u 16).toArray⟩])/\Below w.heap.size w w':=by
 unfold xQ;by_cases h:(u:Int)<16
 .rw[aOd h];exact a9z hc u pN
 rw[aOi h];exact a9C hc u pN hu2
theorem a9D {w:pZ}(hc:w.cell? ⟨5,15,none⟩=some (.int .u8 4)) (u:Nat) (hu2:u<256):
  Calls Tryz.prog 241 #[.int .i64 u,.int .i64 16] w λe w'=>e= .returned (.string ⟨(xQ u 16).toArray⟩)/\Below w.heap.size w w':=by
 obtain⟨s,hs⟩: ∃s,xQ u 16=s:=⟨_,rfl⟩;have hfb:=fb hc u hu2;rw[hs] at hfb|-;clear hs;have hk:IntKind.u64.wrap (u:Int)=u:=by rw[IntKind.wrap_u64];omega
 have hn: ¬(u:Int)<0:=by omega
 go_enter Tryz.func241,Tryz.ntmps241
 go_wp2_with fail
 refine hfb.mono ?_;rintro e w' ⟨rfl,hb⟩
 go_wp2
 go_ret
 exact⟨rfl,hb⟩
theorem Jo {w:pZ}(hc:w.cell? ⟨5,15,none⟩=some (.int .u8 4)) (u:Nat) (hu2:u<256):
  Calls Tryz.prog 181 #[.int .i64 u,.int .i64 16] w λe w'=>e= .returned (.string ⟨(xQ u 16).toArray⟩)/\Below w.heap.size w w':=by
 obtain⟨s,hs⟩: ∃s,xQ u 16=s:=⟨_,rfl⟩;have hfb:=a9D hc u hu2;rw[hs] at hfb|-;clear hs
 go_enter Tryz.func181,Tryz.ntmps181
 go_wp2_with fail
 refine hfb.mono ?_;rintro e w' ⟨rfl,hb⟩
 go_wp2
 go_ret
 exact⟨rfl,hb⟩
#print axioms Jo
end Go.Proofs.YtedimeeleabhnaaGreatDoor
namespace Go.Proofs
open Go.RowKit Go.Lib
def Tryz.lays105_ren:Go.Shelf.Ren:=⟨fun|105=>182|212=>243|99=>159|165=>96|166=>92|170=>244|169=>95|263=>285|264=>286|206=>222|240=>129|241=>134|276=>178|277=>183|n=>n,fun|9=>9|3=>3|4=>4|20=>20|0=>0|46=>250|109=>251|5=>5|72=>113|76=>116|51=>276|146=>277|53=>270|148=>279|70=>110|37=>111|75=>115|127=>153|164=>202|80=>120|n=>n,fun|n=>n⟩
theorem Tryz.lays105:Go.Proofs.Lays.n105 Tryz.prog Tryz.lays105_ren:={
 mixed:=by kernel_rfl
 f99:=Tryz.func159.trans (aOI some qB)
 f105:=Tryz.func182.trans (aOI some qB)
 f165:=Tryz.func96.trans (aOI some qB)
 f166:=Tryz.func92.trans (aOI some qB)
 f169:=Tryz.func95.trans (aOI some qB)
 f170:=Tryz.func244.trans (aOI some qB)
 f206:=Tryz.func222.trans (aOI some qB)
 f212:=Tryz.func243.trans (aOI some qB)
 f240:=Tryz.func129.trans (aOI some qB)
 f241:=Tryz.func134.trans (aOI some qB)
 f263:=Tryz.func285.trans (aOI some qB)
 f264:=Tryz.func286.trans (aOI some qB)
 f276:=Tryz.func178.trans (aOI some qB)
 f277:=Tryz.func183.trans (aOI some qB)
 t0:=Tryz.underlying0
 a0:=Tryz.isAgg0
 z0:=Tryz.sizeOf0
 v0:=Tryz.zeroValue0
 t3:=Tryz.underlying3
 a3:=Tryz.isAgg3
 z3:=Tryz.sizeOf3
 v3:=Tryz.zeroValue3
 t4:=Tryz.underlying4
 a4:=Tryz.isAgg4
 z4:=Tryz.sizeOf4
 v4:=Tryz.zeroValue4
 t5:=Tryz.underlying5
 a5:=Tryz.isAgg5
 z5:=Tryz.sizeOf5
 v5:=Tryz.zeroValue5
 t9:=Tryz.underlying9
 a9:=Tryz.isAgg9
 z9:=Tryz.sizeOf9
 v9:=Tryz.zeroValue9
 t20:=Tryz.underlying20
 a20:=Tryz.isAgg20
 z20:=Tryz.sizeOf20
 v20:=Tryz.zeroValue20
 t37:=Tryz.underlying111
 a37:=Tryz.isAgg111
 z37:=Tryz.sizeOf111
 v37:=Tryz.zeroValue111
 t46:=Tryz.underlying250
 a46:=Tryz.isAgg250
 z46:=Tryz.sizeOf250
 v46:=Tryz.zeroValue250
 t51:=Tryz.underlying276
 a51:=Tryz.isAgg276
 z51:=Tryz.sizeOf276
 v51:=Tryz.zeroValue276
 t53:=Tryz.underlying270
 a53:=Tryz.isAgg270
 z53:=Tryz.sizeOf270
 v53:=Tryz.zeroValue270
 t70:=Tryz.underlying110
 a70:=Tryz.isAgg110
 z70:=Tryz.sizeOf110
 v70:=Tryz.zeroValue110
 t72:=Tryz.underlying113
 a72:=Tryz.isAgg113
 z72:=Tryz.sizeOf113
 v72:=Tryz.zeroValue113
 t75:=Tryz.underlying115
 a75:=Tryz.isAgg115
 z75:=Tryz.sizeOf115
 v75:=Tryz.zeroValue115
 t76:=Tryz.underlying116
 a76:=Tryz.isAgg116
 z76:=Tryz.sizeOf116
 v76:=Tryz.zeroValue116
 t109:=Tryz.underlying251
 a109:=Tryz.isAgg251
 z109:=Tryz.sizeOf251
 v109:=Tryz.zeroValue251
 t127:=Tryz.underlying153
 a127:=Tryz.isAgg153
 z127:=Tryz.sizeOf153
 v127:=Tryz.zeroValue153
 t146:=Tryz.underlying277
 a146:=Tryz.isAgg277
 z146:=Tryz.sizeOf277
 v146:=Tryz.zeroValue277
 t148:=Tryz.underlying279
 a148:=Tryz.isAgg279
 z148:=Tryz.sizeOf279
 v148:=Tryz.zeroValue279
 t164:=Tryz.underlying202
 a164:=Tryz.isAgg202
 z164:=Tryz.sizeOf202
 v164:=Tryz.zeroValue202}
theorem Tryz.Builder_Extra_105:Builder.Extra Tryz.prog Tryz.lays105_ren:={
 sizeBuilder:=by kernel_rfl
 liesBuilder:=by kernel_rfl
 t5:=Tryz.underlying5
 a5:=Tryz.isAgg5
 z5:=Tryz.sizeOf5
 v5:=Tryz.zeroValue5
 infoByte:=by kernel_rfl
 cellsByte:=by kernel_rfl
 sizeByte:=by kernel_rfl
 neB5:=by decide}
end Go.Proofs
namespace Go.Proofs.YtedimeeleabhnaaGreatDoor
open Vc Go.RowKit
def tq (n:Int):Prop:=n=16
instance (n:Int):Decidable (tq n):=inferInstanceAs (Decidable (n=16))
@[go_sem] def tt:List qP->List qQ->Option r9
 |[(.val (.int .i64) O,none),(.val (.int .i64) a8,none)],[]=>some ⟨[0<=O/\O<256/\tq a8],[(.val .str (xQ O a8),none)],[]⟩
 |_,_=>none
theorem a9E:z7 Tryz.prog 181 tt:=by
 refine FF (λ_ _=>rfl) λg w args vals L r hT ha hC hs=>?_;unfold tt at hC;split at hC
 .rename_i c d;cases hC;obtain⟨h1,h2,h3⟩:=hs _ aOz;obtain⟨va,_,rfl,ra,vb,_,rfl,rb,hv⟩:=ha;obtain rfl:=vK ra.1;obtain rfl:=vK rb.1;cases hv;obtain⟨u,rfl⟩: ∃u:Nat,c=((u:Nat):Int):=⟨Int.toNat c,(Int.toNat_of_nonneg h1).symm⟩;have h2:(u:Int)<256:=h2;obtain rfl:d=(16:Int):=h3;have hcell:w.cell? ⟨5,15,none⟩=some (.int .u8 4):=(hT.2.2.2.1 _ aOz).2;exact⟨rfl,rfl,(Jo hcell u pN).mono λe w' ⟨he,hb⟩=>⟨_,he,hb,BV _ _ _,trivial⟩⟩
 cases hC
def MX (s:pJ) (c:Int):pJ:=Lib.repeatL s c.toNat
@[go_sem] def tu:List qP->List qQ->Option r9
 |[(.val .str O,none),(.val (.int .i64) a8,none)],[]=>some ⟨[0<=a8/\a8<=140737488355328/\(List.length O:Int)*a8<=140737488355328],[(.val .str (MX O a8),none)],[]⟩
 |_,_=>none
theorem a9F:z7 Tryz.prog 182 tu:=by
 refine FF (λ_ _=>rfl) λg w args vals L r hT ha hC hs=>?_;unfold tu at hC;split at hC
 .rename_i s c;cases hC;obtain⟨h1,h2,h3⟩:=hs _ aOz;obtain⟨va,_,rfl,ra,vb,_,rfl,rb,hv⟩:=ha;obtain rfl:=xX ra.1;obtain rfl:=vK rb.1;cases hv;obtain⟨u,rfl⟩: ∃u:Nat,c=((u:Nat):Int):=⟨Int.toNat c,(Int.toNat_of_nonneg h1).symm⟩;have h2:(u:Int)<=140737488355328:=h2;have h3:((List.length s:Nat):Int)*(u:Int)<=140737488355328:=h3;have h4:List.length s*u<=140737488355328:=by rw[<-Int.natCast_mul] at h3;exact Int.ofNat_le.1 h3
  have h:=Any.strings_Repeat Tryz.lays105 Tryz.Builder_Extra_105 ⟨List.toArray s⟩ u w pN (by show (List.toArray s).size*u<=_;rw[aPg];exact h4);exact⟨rfl,rfl,h.mono λe w' ⟨he,hb⟩=>⟨_,he,hb,BV _ _ _,trivial⟩⟩
 cases hC
def WL (_c:Int):pJ:=[]
@[go_sem] def tx:List qP->List qQ->Option r9
 |[(.val (.int .u8) O,none)],[]=>some ⟨[False],[(.val .str (WL O),none)],[]⟩
 |_,_=>none
theorem a9G:z7 Tryz.prog 93 tx:=by
 refine FF (λ_ _=>rfl) λg w args vals L r hT ha hC hs=>?_;unfold tx at hC;split at hC
 .cases hC;exact(hs _ aOz).elim
 cases hC
@[go_sem] def tz:List qP->List qQ->Option r9
 |[(.val (.int .u8) O,none)],[]=>some ⟨[False],[(.val .str (WL O),none)],[]⟩
 |_,_=>none
theorem a9H:z7 Tryz.prog 138 tz:=by
 refine FF (λ_ _=>rfl) λg w args vals L r hT ha hC hs=>?_;unfold tz at hC;split at hC
 .cases hC;exact(hs _ aOz).elim
 cases hC
end Go.Proofs.YtedimeeleabhnaaGreatDoor
namespace Go.Proofs.YtedimeeleabhnaaGreatDoor
open Vc Go.RowKit
theorem a9I {P:Program}{f:FuncId}{V:Type}{p:V->List qP}{q:V->List qQ}{R:V->r9}{ps:List PK}{gs:List (Nat×Nat×PK)}{same:pY}(hcall: ∀args w,(callFunc f args).run P w= .ok (.enter f args) w) (h: ∀v,¬vB (R v).side):qZ P (f,⟨ps,EE p q R,gs,same,none⟩):=
 ⟨⟨hcall,λg w args vals L r _ _ hC hs=>by
  obtain⟨v,rfl,rfl,rfl⟩:=Ji hC;exact(h v (sq hs)).elim⟩,λ_ h=>by cases h⟩
@[go_sem] def WM (t:Nat):sJ->sJ
 |[]=>[]
 |(k,s)::r=>if k=t then WM t r else(k,s)::WM t r
theorem ua {P:Program}{t:Nat}: ∀{T:sJ},w6 P T->w6 P (WM t T)
 |[],h=>h
 |(k,s)::r,⟨h1,h2⟩=>by
  simp only[WM];split
  .exact ua h2
  exact⟨h1,ua h2⟩
theorem a9J {P:Program}{T:sJ}{Γ:tV}(t:Nat) (h:wY P T Γ):wY P (WM t T) Γ:=⟨ua h.T,h.Γ,h.m⟩
attribute [go_sem] or_true true_or
end Go.Proofs.YtedimeeleabhnaaGreatDoor
namespace Go.Proofs.YtedimeeleabhnaaGreatDoor.Vc
open Go.RowKit
@[go_sem] def ub (np:Nat):DV->Bool
 | .any=>true
 | .nilS=>true
 | .val .ref (some (i,_))=>decide (i<np)
 | .val .ref none=>true
 | .val t _=>t.pure
 |_=>false
@[go_sem] def cr (np:Nat):qP->Bool
 |(d,none)=>ub np d
 |(.val (.list t) _,some k)=>t.pure&&decide (k<np)
 |_=>false
@[go_sem] def WN (np:Nat):List (Nat×qP)->Bool
 |[]=>true
 |(_,s)::r=>cr np s&&WN np r
theorem Jp {np:Nat}: ∀{env:List (Nat×qP)},WN np env=true->∀t,cr np (lk env t)=true
 |[],_,t=>rfl
 |(k,s)::r,h,t=>by
  simp only[WN,aOo] at h;unfold lk;split
  .exact h.1
  exact Jp h.2 t
theorem a9K {np:Nat}{g g':Gh}{w:pZ}(K:g'.S=g.S) (M: ∀i,i<np->g'.J i=g.J i) (Q: ∀i n,i<np->g'.cur i n=g.cur i n) {s:qP}{v:qA}(hp:cr np s=true) (h:rZ g w s v):rZ g' w s v:=by
 have I: ∀{t:Ty}{x:t.den},t.pure=true->sS g w t x v->sS g' w t x v:=λG hv=>by
  rcases hv with⟨j,cs,z,R⟩ |⟨j,z⟩
  .exact .inl ⟨j,cs,z,vJ K G R⟩
  exact .inr ⟨j,vJ K G z⟩
 have O: ∀d,ub np d=true->zG g w d v->zG g' w d v:=by
  intro d D hr;unfold ub at D;split at D
  .trivial
  .exact hr
  .rename_i i o;have hi:=aO3 D;rcases hr with⟨j,_⟩ |⟨j,z⟩
   .cases j
   refine .inr ⟨j,?_⟩;obtain⟨p,F,E⟩:=z;exact⟨p,(M i hi).trans F,E⟩
  .rcases hr with⟨j,_⟩ |⟨j,z⟩
   .cases j
   exact .inr ⟨j,z⟩
  .exact I D hr
  cases D
 obtain⟨d,k⟩:=s;cases k with
 |none=>exact⟨O d hp h.1,trivial⟩
 |some k=>
  unfold cr at hp;split at hp
  .rename_i heq;cases heq
  .rename_i t x k' heq;cases heq;simp only[aOo,aOt] at hp;exact⟨I (t:= .list t) hp.1 h.1,(Q k _ hp.2).trans h.2⟩
  cases hp
theorem a9L {np:Nat}{g g':Gh}{w w':pZ}{env:List (Nat×qP)}{tmps:Array qA}(h:E1 g w env tmps) (hp:WN np env=true) (D: ∀b o,g.S b o->g'.S b o) (z: ∀b o,g.S b o->w'.cell? ⟨b,o,none⟩=w.cell? ⟨b,o,none⟩)
  (E: ∀i p,i<np->g.J i=some p->g'.J i=some p) (F: ∀i n v,i<np->g.cur i n=some v->g'.cur i n=some v):E1 g' w' env tmps:=λt=>by
 have le:Le g w ⟨g'.S,λi=>if i<np then g'.J i else g.J i,λi n=>if i<np then g'.cur i n else g.cur i n⟩ w':=by
  refine⟨D,z,λi p hi=>?_,λi n v hi=>?_⟩
  .show (if i<np then _ else _)=_;split
   .rename_i j;exact E i p j hi
   exact hi
  show (if i<np then _ else _)=_;split
  .rename_i j;exact F i n v j hi
  exact hi
 exact a9K (np:=np) (g:=⟨g'.S,λi=>if i<np then g'.J i else g.J i,λi n=>if i<np then g'.cur i n else g.cur i n⟩) (g':=g') rfl (λi hi=>(aOd hi).symm) (λi n hi=>by show g'.cur i n=(if i<np then g'.cur i n else g.cur i n);rw[aOd hi]) (Jp hp t) (DW le (h t))
theorem tE.inner {A A':Nat->Nat->Prop}{L L':List qQ}{g0 g g':Gh}{w0 w w':pZ}{H H':sA}(h:tE A L g0 w0 g w H) (k:tE A' L' g w g' w' H') (I: ∀b o,A' b o->w.heap.size<=b\/wV g H b o) (K:L.length<=L'.length)
  (G: ∀i,i<L.length->∀b,L'[i]? =some b->qU H i=some b):tE A L g0 w0 g' w' H':=by
 have own: ∀b o,A' b o->w0.heap.size<=b\/A b o:=λb o x=>by
  rcases I b o x with j|⟨i,blk,j,z⟩
  .exact .inl (aOU h.fr.size j)
  exact h.perm i blk b o j z
 refine⟨λb o x=>?_,h.fr.trans k.fr own,λi blk b o j z=>?_,λi p hi hp=>k.J i p pN (h.J i p hi hp),λi hi=>k.live i pN,λi u y us hi F=>?_,λi n v hi hv=>k.cur i n v pN (h.cur i n v hi hv)⟩
 .obtain⟨j,z⟩:=h.shut b o x;obtain⟨k1,k2⟩:=k.shut b o j;exact⟨k1,k2.trans z⟩
 .rcases k.perm i blk b o j z with D|D
  .exact .inl (aOU h.fr.size D)
  exact own b o D
 obtain⟨x,ts,E⟩:=k.ty i u y us pN F;exact h.ty i u x ts hi (G i hi _ E)
theorem tE.start {g:Gh}{w:pZ}{H:sA}{L':List qQ}(hH:sM g w H) (G: ∀i b,L'[i]? =some b->qU H i=some b/\b≠.dead) (D: ∀i,i<L'.length->∀b,qU H i=some b->L'[i]? =some b):tE (wV g H) L' g w g w H:=by
 refine⟨λb o h=>⟨h,rfl⟩,Fr.refl _ _ _,λi blk b o z F=> .inr ⟨i,blk,z,F⟩,λ_ _ _ h=>h,λi hi=>?_,λi u y us hi z=>⟨y,us,D i hi _ z⟩,λ_ _ _ _ h=>h⟩;obtain⟨I,E⟩:=G i L'[i] pP;have j:=hH.blk i _ I;generalize L'[i]=blk at j E;cases blk with
 |cells t x ts=>obtain⟨p,cs,hp,_⟩:=j;exact .inl ⟨p,hp⟩
 |grow e c n=>obtain⟨v,xs,hv,_⟩:=j;exact .inr ⟨n,v,hv⟩
 |row e t l n=>obtain⟨_,v,xs,hv,_⟩:=j;exact .inr ⟨n,v,hv⟩
 |map k v l=>obtain⟨p,es,cl,hp,_⟩:=j;exact .inl ⟨p,hp⟩
 |iter s n=>obtain⟨p,hp,_⟩:=j;exact .inl ⟨p,hp⟩
 |dead=>exact absurd rfl E
section
variable {B:Nat}{A:Nat->Nat->Prop}{L:List qQ}{g0 g:Gh}{w0 w:pZ}{b0 o0 n0:Nat}{cs:pV}{E0:List (Nat×qP)}{tmps:Array qA}{ds:List Deferred}
structure S8 (B:Nat) (A:Nat->Nat->Prop) (L:List qQ) (g0:Gh) (w0:pZ) (g:Gh) (w:pZ) (b0 o0 n0:Nat) (cs:pV) (E0:List (Nat×qP)) (tmps:Array qA) (ds:List Deferred) (g1:Gh) (W:pZ) (H:sA):Prop where
 env:E1 g1 W E0 tmps
 heap:sM g1 W H
 good:tE A L g0 w0 g1 W H
 sld: ∀b o,g.S b o->g1.S b o/\W.cell? ⟨b,o,none⟩=w.cell? ⟨b,o,none⟩
 rng:W.rangeAt b0 o0 cs
 len:cs.length=n0
 lt:0<n0->b0<W.heap.size
 out: ∀o,o0<=o->o<o0+n0->¬wV g1 H b0 o
 defs:zZ B W ds
theorem S8.turn {g1:Gh}{W W2:pZ}{H:sA}(h:S8 B A L g0 w0 g w b0 o0 n0 cs E0 tmps ds g1 W H) (t:wI w0.heap.size W W2) {ds':List Deferred}(z:zZ B W2 ds'):S8 B A L g0 w0 g w b0 o0 n0 cs E0 tmps ds' g1 W2 H:=by
 refine⟨λx=>DW (t.le h.heap.sl) (h.env x),t.heapOk h.heap,h.good.turn h.heap.sl t,λb o x=>⟨(h.sld b o x).1,(t.cell (h.heap.sl b o (h.sld b o x).1) o).1.trans (h.sld b o x).2⟩,λj v hv=>?_,h.len,λx=>aOS (h.lt x) t.size,h.out,z⟩;have D:j<cs.length:=(aOw.1 hv).1;have:=h.len;exact(t.cell (h.lt pN) _).1.trans (h.rng j v hv)
theorem S8.inner {g1 g2:Gh}{W W2:pZ}{H H2:sA}{L':List qQ}{np':Nat}(h:S8 B A L g0 w0 g w b0 o0 n0 cs E0 tmps ds g1 W H) (k:tE (wV g1 H) L' g1 W g2 W2 H2) (hH:sM g2 W2 H2) (F:WN np' E0=true) (I:np'=L'.length) (M:L.length<=L'.length)
  (O: ∀i,i<L.length->∀b,L'[i]? =some b->qU H i=some b):S8 B A L g0 w0 g w b0 o0 n0 cs E0 tmps ds g2 W2 H2:=by
 subst I;refine⟨a9L h.env F (λb o x=>(k.shut b o x).1) (λb o x=>(k.shut b o x).2) (λi p hi x=>k.J i p hi x) (λi n v hi x=>k.cur i n v hi x),hH,h.good.inner k (λb o x=> .inr x) M O,λb o x=>?_,λj v hv=>?_,h.len,λx=>aOS (h.lt x) k.fr.size,λo z E ⟨i,blk,R,Q⟩=>?_,h.defs.same λD G=>?_⟩
 .obtain⟨z,E⟩:=h.sld b o x;exact⟨(k.shut b o z).1,(k.shut b o z).2.trans E⟩
 .have U:j<cs.length:=(aOw.1 hv).1;have:=h.len;exact(k.fr.cell _ _ (h.lt pN) (h.out _ pN pN)).1.trans (h.rng j v hv)
 .rcases k.perm i blk _ _ R Q with K|K
  .have:=h.lt pN;omega
  exact h.out o z E K
 rw[k.fr.blk D (aOB.1 G).1 (λo ⟨i,blk,z,E⟩=>bw (h.heap.blk i blk z) E G rfl)];exact G
end
theorem wI.put {B:Nat}{W:pZ}{l:Nat}{o o':Obj}(h:W.heap[l]? =some o) (E:B<=l) (D:NG<=l) (hm:JP o=true) (j:JP o'=true):wI B W (W.putObj l o'):=by
 have z:=(aOB.1 h).1;refine⟨rfl,rfl,rfl,by simp [World.putObj],λb hb=>?_⟩;by_cases e:b=l
 .subst e;exact .inr ⟨E,D,_,_,h,World.putObj_heap_same z,hm,j⟩
 exact .inl (World.putObj_heap_other e)
theorem wI.new (B:Nat) (W:pZ) (o:Obj):wI B W (W.alloc o):=by
 refine⟨rfl,rfl,rfl,by simp,λb hb=> .inl ?_⟩;exact aOK W o b hb
end Go.Proofs.YtedimeeleabhnaaGreatDoor.Vc
namespace Go.Proofs.YtedimeeleabhnaaGreatDoor.Vc
open Go.RowKit
open Go.ChangeMaps (setBlock)
@[go_sem] def a9M:Option qQ->Bool
 |some .dead=>false
 |none=>false
 |_=>true
@[go_sem] def AN (H:List (Nat×qQ)):Nat->Bool
 |0=>true
 |n+1=>AN H n&&a9M (qU H n)
theorem uc {H:List (Nat×qQ)}: ∀{n:Nat},AN H n=true->∃L:List qQ,L.length=n/\∀i b,L[i]? =some b->qU H i=some b/\b≠.dead
 |0,_=>⟨[],rfl,λi b h=>by simp at h⟩
 |n+1,h=>by
  simp only[AN,aOo] at h;obtain⟨L,h1,h2⟩:=uc h.1;cases hb:qU H n with
  |none=>rw[hb] at h;cases h.2
  |some b=>
   refine⟨L++[b],by simp [h1],λi c hc=>?_⟩;by_cases hi:i<L.length
   .rw[aOy hi] at hc;exact h2 i c hc
   have hlt:=(aOw.1 hc).1;simp only[aOg,aOe,aOh] at hlt;obtain rfl:i=L.length:=by omega
   simp only[List.getElem?_concat_length,aOf] at hc;subst hc;rw[h1];exact⟨hb,λe=>by subst e;rw[hb] at h;cases h.2⟩
def JT (g:Gh) (w:pZ) (g':Gh) (w':pZ):Prop:= ∀b o,g.S b o->g'.S b o/\w'.cell? ⟨b,o,none⟩=w.cell? ⟨b,o,none⟩
def S9 (g g':Gh):Gh:=⟨g'.S,g.J,g.cur⟩
theorem Jq {g g':Gh}{w w':pZ}(hs:JT g w g' w'):Le g w (S9 g g') w':=⟨λb o h=>(hs b o h).1,λb o h=>(hs b o h).2,λ_ _ h=>h,λ_ _ _ h=>h⟩
theorem ud {g g':Gh}{w w':pZ}{k v:Ty}(hk:k.pure=true) (hv:v.pure=true) {l:List (k.den×v.den)}{es:List MapEntry}(h:xN g w k v l es) (hs:JT g w g' w'):xN g' w' k v l es:=
 ME (g:=S9 g g') (g':=g') rfl hk hv (VU (g':=S9 g g') (Jq hs) h)
theorem ct {g g':Gh}{w w':pZ}{k:Ty}(hk:k.pure=true) {x:k.den}{v:qA}(h:sS g w k x v) (hs:JT g w g' w'):sS g' w' k x v:=by
 have h1:sS (S9 g g') w' k x v:=MC (Jq hs) h;exact h1.imp (λ⟨a,cs,e,q⟩=>⟨a,cs,e,vJ (g:=S9 g g') (g':=g') rfl hk q⟩) (λ⟨a,q⟩=>⟨a,vJ (g:=S9 g g') (g':=g') rfl hk q⟩)
section
variable {R:Bool}{P:Program}{k v:Ty}
theorem a9N {c:Code}{s:St}{Q:Ex->St->Prop}(h:Ev R P c s Q) (hl:AN s.H s.np=true) {ro:pX}(hro:ro.isSome=R) {A:Nat->Nat->Prop}{L:List qQ}{g0:Gh}{w0:pZ}{g:Gh}{a:Act}{w:pZ}{B:Nat}(hB:B<=w0.heap.size)
  (hr:uC B g w s a) (hg:tE A L g0 w0 g w s.H) (hn:s.np=L.length):
  c.wpIn (zA ro) 0 P (λx a' w'=> ∃e g' s',BC x=some e/\Q e s'/\uC B g' w' s' a'/\tE A L g0 w0 g' w' s'.H/\s'.np=L.length/\JT g w g' w'/\∀b,b<w.heap.size->(∀o,¬wV g s.H b o)->w'.heap[b]? =w.heap[b]? /\∀o,¬wV g' s'.H b o) a w:=by
 obtain⟨L',hlen,hL⟩:=uc hl;have hty: ∀i,i<L'.length->∀b,qU s.H i=some b->L'[i]? =some b:=λi hi b hb=>by
  obtain⟨c,hc⟩: ∃c,L'[i]? =some c:=⟨_,aOn hi⟩;have:=(hL i c hc).1;rw[hb] at this;rw[hc,aOj this]
 refine aPw (h ro hro (wV g s.H) L' g w g a w B (aOU hB hg.fr.size) hr (tE.start hr.heap hL hty) hlen.symm) λx a' w' hp=>?_;obtain⟨e,g',s',h1,h2,h3,h4,h5⟩:=hp;refine⟨e,g',s',h1,h2,h3,hg.inner h4 (λb o x=> .inr x) pN (λi _ b hb=>(hL i b hb).1),pN,λb o x=>h4.shut b o x,λb hb hno=>⟨h4.fr.blk b hb hno,λo ⟨i,blk,k1,k2⟩=>?_⟩⟩;rcases h4.perm i blk b o k1 k2 with k3|k3
 .omega
 exact hno o k3
structure MS (k v:Ty) where
 it:Nat
 rem:List (k.den×v.den)
 cur:Option (k.den×v.den)
def cz (g:Gh) (w:pZ) (k v:Ty) (es:Array MapEntry) (seen:Array Nat):Option (k.den×v.den)->Prop
 |none=>True
 |some (x,y)=> ∃(e:MapEntry) (sn:Array Nat),e∈es.toList/\seen=sn.push e.born/\sS g w k x e.key/\sS g w v y e.val
theorem cz.shut {g g':Gh}{w w':pZ}{es:Array MapEntry}{seen:Array Nat}{cu:Option (k.den×v.den)}(h:cz g w k v es seen cu) (hk:k.pure=true) (hv:v.pure=true) (hs:JT g w g' w'):cz g' w' k v es seen cu:=by
 cases cu with
 |none=>trivial
 |some q=>
  obtain⟨e,sn,h1,h2,h3,h4⟩:=h;exact⟨e,sn,h1,h2,ct hk h3 hs,ct hv h4 hs⟩
structure SA (B0:Nat) (m:MS k v) (g:Gh) (w:pZ) (H:List (Nat×qQ)) (bm:Nat) (es:Array MapEntry) (cl:Nat) (seen:Array Nat):Prop where
 hm:w.heap[bm]? =some (.map es cl)
 hi:w.heap[m.it]? =some (.mapIter (some bm) cl seen cl)
 nm: ∀o,¬wV g H bm o
 b0:B0<=m.it
 ng:NG<=m.it
 st:JL es cl
 rd:xN g w k v m.rem (leftOf es seen).toList
 cu:cz g w k v es seen m.cur
def HK (B0:Nat) (m:MS k v) (g:Gh) (w:pZ) (H:List (Nat×qQ)):Prop:= ∃bm es cl seen,SA B0 m g w H bm es cl seen
theorem SA.frame {B0:Nat}{m:MS k v}{g g':Gh}{w w':pZ}{H H':List (Nat×qQ)}{bm:Nat}{es:Array MapEntry}{cl:Nat}{seen:Array Nat}(hk:k.pure=true) (hv:v.pure=true) (hH:sM g w H) (h:SA B0 m g w H bm es cl seen) (hs:JT g w g' w')
  (hU: ∀b,b<w.heap.size->(∀o,¬wV g H b o)->w'.heap[b]? =w.heap[b]? /\∀o,¬wV g' H' b o):SA B0 m g' w' H' bm es cl seen:=by
 have hb:=hU bm (aOB.1 h.hm).1 h.nm;have hi:=hU m.it (aOB.1 h.hi).1 (λo ⟨i,blk,h1,h2⟩=>bw (hH.blk i blk h1) h2 h.hi rfl);exact⟨hb.1.trans h.hm,hi.1.trans h.hi,hb.2,h.b0,h.ng,h.st,ud hk hv h.rd hs,h.cu.shut hk hv hs⟩
def A1 (R:Bool) (P:Program) (c:Code) (s:St) (m:MS k v) (Q:Ex->St->MS k v->Prop):Prop:=
 ∀(ro:pX),ro.isSome=R->
 ∀(A:Nat->Nat->Prop) (L:List qQ) (g0:Gh) (w0:pZ) (g:Gh) (a:Act) (w:pZ) (B:Nat),B<=w0.heap.size->uC B g w s a->tE A L g0 w0 g w s.H->s.np=L.length->HK w0.heap.size m g w s.H->
  c.wpIn (zA ro) 0 P (λx a' w'=> ∃e g' s' m',BC x=some e/\Q e s' m'/\uC B g' w' s' a'/\tE A L g0 w0 g' w' s'.H/\s'.np=L.length/\HK w0.heap.size m' g' w' s'.H) a w
def Jr (R:Bool) (P:Program) (c:Code) (s:St) (m:MS k v) (Q:Ex->St->Prop):Prop:=
 ∀(ro:pX),ro.isSome=R->
 ∀(A:Nat->Nat->Prop) (L:List qQ) (g0:Gh) (w0:pZ) (g:Gh) (a:Act) (w:pZ) (B:Nat),B<=w0.heap.size->uC B g w s a->tE A L g0 w0 g w s.H->s.np=L.length->HK w0.heap.size m g w s.H->c.wpIn (zA ro) 0 P (rr B A L g0 w0 Q) a w
theorem a9O {id:Nat}{s:St}{m:MS k v}{Q:Ex->St->MS k v->Prop}(h:Q (.exit id) s m):A1 R P (.exit id) s m Q:=λ_ _ _ _ _ _ g _ _ _ _ hr hg hn hM=>wpIn_exit ⟨.exit id,g,s,m,rfl,h,hr,hg,hn,hM⟩
theorem a9P {s:St}{m:MS k v}{Q:Ex->St->MS k v->Prop}(h:Q .normal s m):A1 R P .skip s m Q:=λ_ _ _ _ _ _ g _ _ _ _ hr hg hn hM=>wpIn_skip ⟨.normal,g,s,m,rfl,h,hr,hg,hn,hM⟩
theorem a9Q {c:Code}{s:St}{m:MS k v}{Q:Ex->St->Prop}{Q1:Ex->St->MS k v->Prop}(h:A1 R P c s m Q1) (hq: ∀e s' m',Q1 e s' m'->∃kq:uA,Q e (s'.keep kq)):Jr R P c s m Q:=by
 intro ro hro A L g0 w0 g a w B hB hr hg hnp hM;refine aPw (h ro hro A L g0 w0 g a w B hB hr hg hnp hM) λx a' w' hp=>?_;obtain⟨e,g',s',m',h1,h2,h3,h4,h5,_⟩:=hp;obtain⟨kq,hk⟩:=hq e s' m' h2;obtain⟨g1,k1,k2,k3,_⟩:=MN h3 h4 h5 kq;exact⟨e,g1,s'.keep kq,h1,hk,k1,k2,k3⟩
theorem a9R {c:Code}{s:St}{m:MS k v}{Q:Ex->St->MS k v->Prop}(hk:k.pure=true) (hv:v.pure=true) (hl:AN s.H s.np=true) (h:Ev R P c s λe s'=>Q e s' m):A1 R P c s m Q:=by
 intro ro hro A L g0 w0 g a w B hB hr hg hn ⟨bm,es,cl,seen,hm⟩;refine aPw (a9N h hl hro hB hr hg hn) λx a' w' hp=>?_;obtain⟨e,g',s',h1,h2,h3,h4,h5,h6,h7⟩:=hp;exact⟨e,g',s',m,h1,h2,h3,h4,h5,bm,es,cl,seen,hm.frame hk hv hr.heap h6 h7⟩
theorem da {x y:Code}{s:St}{m:MS k v}{Q Q1:Ex->St->MS k v->Prop}(h:A1 R P x s m Q1) (hn: ∀s' m',Q1 .normal s' m'->A1 R P y s' m' Q) (hx: ∀e s' m',e≠.normal->Q1 e s' m'->Q e s' m'):A1 R P (.seq x y) s m Q:=by
 intro ro hro A L g0 w0 g a w B hB hr hg hnp hM;refine wpIn_seq (aPw (h ro hro A L g0 w0 g a w B hB hr hg hnp hM) λe a' w' hp=>?_);obtain⟨e',g',s',m',h1,h2,h3,h4,h5,h6⟩:=hp;cases e<;>simp only[BC,aOf] at h1
 case normal=>subst h1;exact hn s' m' h2 ro hro A L g0 w0 g' a' w' B hB h3 h4 h5 h6
 case exit id=>subst h1;exact⟨.exit id,g',s',m',rfl,hx _ _ _ pP h2,h3,h4,h5,h6⟩
 case ret=>subst h1;exact⟨.ret,g',s',m',rfl,hx _ _ _ pP h2,h3,h4,h5,h6⟩
 all_goals cases h1
theorem Js {c:Operand}{x y:Code}{s:St}{m:MS k v}{Q:Ex->St->MS k v->Prop}{b:Bool}{k0:pX}(h:tB s.env c=(.val .bool b,k0)) (ht:b=true->A1 R P x s m Q) (hf:b=false->A1 R P y s m Q):A1 R P (.cond c x y) s m Q:=by
 intro ro hro A L g0 w0 g a w B hB hr hg hn hM;have hc:=z8 hr.env c;rw[h] at hc;exact wpIn_cond_split (vT hc.1) (λe=>ht e ro hro A L g0 w0 g a w B hB hr hg hn hM) (λe=>hf e ro hro A L g0 w0 g a w B hB hr hg hn hM)
theorem Ju {id:Nat}{c:Code}{s:St}{m:MS k v}{Q Q1:Ex->St->MS k v->Prop}(h:A1 R P c s m Q1) (hn: ∀s' m',Q1 .normal s' m'\/Q1 (.exit id) s' m'->Q .normal s' m') (hx: ∀j s' m',j≠id->Q1 (.exit j) s' m'->Q (.exit j) s' m') (hret: ∀s' m',Q1 .ret s' m'->Q .ret s' m'):A1 R P (.block id c) s m Q:=by
 intro ro hro A L g0 w0 g a w B hB hr hg hnp hM;refine wpIn_block (aPw (h ro hro A L g0 w0 g a w B hB hr hg hnp hM) λe a' w' hp=>?_);obtain⟨e',g',s',m',h1,h2,h3⟩:=hp;cases e<;>simp only[BC,aOf] at h1
 case normal=>subst h1;exact⟨.normal,g',s',m',rfl,hn _ _ (.inl h2),h3⟩
 case exit j=>
  subst h1;simp only[Exit.inBlock];split
  .rename_i hj;subst hj;exact⟨.normal,g',s',m',rfl,hn _ _ (.inr h2),h3⟩
  rename_i hj;exact⟨.exit j,g',s',m',rfl,hx _ _ _ hj h2,h3⟩
 case ret=>subst h1;exact⟨.ret,g',s',m',rfl,hret _ _ h2,h3⟩
 all_goals cases h1
theorem a9S {c:Code}{s:St}{m:MS k v}{Q:Ex->St->MS k v->Prop}(hk:k.pure=true) (hv:v.pure=true) (I:Nat->St->MS k v->Prop) (n0:Nat) (h0:I n0 s m)
  (h: ∀n s m,I n s m->A1 R P c s m (λe s' m'=>match e with| .normal=> ∃(kp:uA) (n':Nat),n'<n/\vN s'.np kp.ids=true/\I n' (s'.keep kp) m'|e=>Q e s' m')):A1 R P (.loop c) s m Q:=by
 intro ro hro A L g0 w0 g a w B hB hr hg hn hM
 let J:Act->pZ->Nat->Prop:=λa w n=> ∃g s m,I n s m/\uC B g w s a/\tE A L g0 w0 g w s.H/\s.np=L.length/\HK w0.heap.size m g w s.H
 refine wpIn_loop (λa w=> ∃n,J a w n) (λa w=>RZ (J a w)) ⟨n0,g,s,m,h0,hr,hg,hn,hM⟩ (λa w hI=>?_);obtain⟨⟨g2,s2,m2,i1,i3,i4,i5,i6⟩,_⟩:=S0 hI;refine aPw (h _ s2 m2 i1 ro hro A L g0 w0 g2 a w B hB i3 i4 i5 i6) λe a' w' hp=>?_;obtain⟨e',g',s',m',h1,h2,h3,h4,h5,bm,es,cl,seen,h6⟩:=hp;cases e<;>simp only[BC,aOf] at h1
 case normal=>
  subst h1;obtain⟨kp,n',j1,j2,j3⟩:=h2;obtain⟨l1,l2,l3,_⟩:=cd h3 h4 h5 kp j2;have hno: ∀b,(∀o,¬wV g' s'.H b o)->∀o,¬wV (uN g' s'.np kp.ids) (s'.keep kp).H b o:=by
   rintro b hno o ⟨i,blk,k1,k2⟩;have k1':qU (RE s' kp (vN s'.np kp.ids)).H i=some blk:=k1;rw[j2] at k1';obtain⟨o',k3,rfl⟩:=HH k1';obtain⟨c1,k4,k5⟩:=(JQ j2 k3 λc1 hc1=>h3.heap.blk o' c1 hc1).2 _ _ k2;exact hno o ⟨o',c1,k4,k5⟩
  have hM':HK w0.heap.size m' (uN g' s'.np kp.ids) w' (s'.keep kp).H:=⟨bm,es,cl,seen,h6.hm,h6.hi,hno _ h6.nm,h6.b0,h6.ng,h6.st,ud hk hv h6.rd (λb o x=>⟨x,rfl⟩),h6.cu.shut hk hv λb o x=>⟨x,rfl⟩⟩;have hR:J a' w' n':=⟨_,s'.keep kp,m',j3,l1,l2,l3,hM'⟩;exact⟨⟨_,hR⟩,Nat.lt_of_le_of_lt ((S0 ⟨_,hR⟩).2 _ hR) j1⟩
 case exit id=>subst h1;exact⟨.exit id,g',s',m',rfl,h2,h3,h4,h5,bm,es,cl,seen,h6⟩
 case ret=>subst h1;exact⟨.ret,g',s',m',rfl,h2,h3,h4,h5,bm,es,cl,seen,h6⟩
 all_goals cases h1
end
theorem a9T {g:Gh}{w:pZ}{k v:Ty}{l:List (k.den×v.den)}(h:xN g w k v l []):l=[]:=by
 cases l with
 |nil=>rfl
 |cons q l=>obtain⟨e,es',h1,_⟩:=h;cases h1
theorem Jv {g:Gh}{w:pZ}{k v:Ty}{e:MapEntry}: ∀{l:List (k.den×v.den)}{es:List MapEntry},xN g w k v l es->(es.map (·.born)).Nodup->e∈es->
  ∃x y l',l.Perm ((x,y)::l')/\sS g w k x e.key/\sS g w v y e.val/\xN g w k v l' (es.filter λz=> !(z.born==e.born))
 |[],es,h,_,he=>by rw[show es=[] from h] at he;cases he
 |(a,b)::l,_,⟨z,es',rfl,h1,h2,h3⟩,hn,he=>by
  simp only[aO7,List.nodup_cons] at hn;by_cases hz:z.born=e.born
  .have:z=e:=by
    rcases aOv.1 he with rfl|h
    .rfl
    exact absurd (List.mem_map.2 ⟨e,h,hz.symm⟩) hn.1
   subst this;refine⟨a,b,l,List.Perm.refl _,h1,h2,?_⟩;rw[List.filter_cons_of_neg pP,List.filter_eq_self.2]
   .exact h3
   intro q hq;simp only[aO1,beq_eq_false_iff_ne];intro e1;exact hn.1 (List.mem_map.2 ⟨q,hq,e1⟩)
  have he':e∈es':=by
   rcases aOv.1 he with rfl|h
   .exact absurd rfl hz
   exact h
  obtain⟨x,y,l',p1,p2,p3,p4⟩:=Jv h3 hn.2 he';refine⟨x,y,(a,b)::l',(List.Perm.cons _ p1).trans (List.Perm.swap _ _ _),p2,p3,?_⟩;rw[List.filter_cons_of_pos (by simpa using hz)];exact⟨z,_,rfl,h1,h2,p4⟩
theorem a9U (es:Array MapEntry) (seen:Array Nat) (b:Nat):(leftOf es (seen.push b)).toList=(leftOf es seen).toList.filter λz=> !(z.born==b):=by
 unfold leftOf;simp only[Array.toList_filter,List.filter_filter];congr 1;funext z;rw[contains_push,Bool.not_or,Bool.and_comm]
theorem a9V {es:Array MapEntry}{seen:Array Nat}(h:(es.toList.map (·.born)).Nodup):((leftOf es seen).toList.map (·.born)).Nodup:=by
 unfold leftOf;rw[Array.toList_filter];exact List.Nodup.sublist (List.Sublist.map _ List.filter_sublist) h
theorem a9W (es:Array MapEntry):(leftOf es #[]).toList=es.toList:=by
 unfold leftOf;rw[Array.toList_filter];exact List.filter_eq_self.2 λx _=>by simp
section
variable {B:Nat}{P:Program}{T:sJ}{Γ:tV}(hE:wY P T Γ) {A:Nat->Nat->Prop}{L:List qQ}{g0:Gh}{w0:pZ}{Q:Exit->Act->pZ->Prop}
include hE
theorem ue {ro:pX}{ops:Array Oper}{l:List Oper}{x y:uR}{a:Act}{w:pZ}{g:Gh}(h:tR T Γ ops.toList l (some x)=some y) (hs: ∀p∈y.side,p) (hl:AN x.s.H x.s.np=true) (hr:uC B g w x.s a) (hg:tE A L g0 w0 g w x.s.H) (hn:L.length=x.s.np)
  (hQ: ∀g' a' w',uC B g' w' y.s a'->tE A L g0 w0 g' w' y.s.H->JT g w g' w'->(∀b,b<w.heap.size->(∀o,¬wV g x.s.H b o)->w'.heap[b]? =w.heap[b]? /\∀o,¬wV g' y.s.H b o)->Q .normal a' w'):wpListIn (zA ro) 0 P ops Q l a w:=by
 obtain⟨L',hlen,hL⟩:=uc hl;have hty: ∀i,i<L'.length->∀b,qU x.s.H i=some b->L'[i]? =some b:=λi hi b hb=>by
  obtain⟨c,hc⟩: ∃c,L'[i]? =some c:=⟨_,aOn hi⟩;have:=(hL i c hc).1;rw[hb] at this;rw[hc,aOj this]
 refine qw hE.T hE.Γ h hs hr (tE.start hr.heap hL hty) hlen λg' a' w' h3 h4=>hQ g' a' w' h3 (hg.inner h4 (λb o x=> .inr x) pN (λi _ b hb=>(hL i b hb).1)) (λb o x=>h4.shut b o x) λb hb hno=>⟨h4.fr.blk b hb hno,λo ⟨i,blk,k1,k2⟩=>?_⟩;rcases h4.perm i blk b o k1 k2 with k3|k3
 .omega
 exact hno o k3
theorem Jw {ro:pX}{ops:Array Oper}{l2:List Oper}: ∀{l:List Oper}{x y:uR}{a:Act}{w:pZ}{g:Gh},tR T Γ ops.toList l (some x)=some y->(∀p∈y.side,p)->uC B g w x.s a->tE A L g0 w0 g w x.s.H->L.length=x.s.np->
  (∀g' a' w',uC B g' w' y.s a'->tE A L g0 w0 g' w' y.s.H->wpListIn (zA ro) 0 P ops Q l2 a' w')->wpListIn (zA ro) 0 P ops Q (l++l2) a w
 |[],x,y,a,w,g,h,hs,hr,hg,hn,hQ=>by
  simp only[tR,aOf] at h;subst h;exact hQ g a w hr hg
 |o::l,x,y,a,w,g,h,hs,hr,hg,hn,hQ=>by
  obtain⟨e,h1,h2,h3,h4⟩:=ce h;have hside: ∀p∈e.side,p:=λp hp=>hs p ((BY h4).1 p (wX.2 (.inr (wX.2 (.inr hp)))));have key:=qn hE.T hE.Γ (ops:=ops.toList) (o:=o) (a:=a) (K:=wpListIn (zA ro) 0 P ops Q (l++l2)) (Q:=Q) hr.env hr.heap h1 hside (Hh hE.T hE.Γ hr e) (λg' w' v k=>Jw h4 hs (hr.step k h2 h3) (hg.eff k (hn▸(RV h1).2)) hn hQ);simp only[aPv] at key;rw[List.cons_append];unfold wpListIn;split at key
  .rename_i hw;rw[aOd hw];exact cf (qv h1) key
  rename_i hw;rw[aOi hw];exact⟨λ_ _=>trivial,key⟩
omit hE in
theorem db {ro:pX}{ops:Array Oper}{o:Oper}{l:List Oper}{a:Act}{w w':pZ}{v:qA}(hg:o.guard=none) (hd: ∀c,o.op≠.defer c) (hr:(execOp a.eval o).run P w= .ok (.value v) w') (h:wpListIn (zA ro) 0 P ops Q l (a.put o.dst v) w'):wpListIn (zA ro) 0 P ops Q (o::l) a w:=by
 have hw:Region.wanted o (yielded ops a.tmps)=true:=by unfold Region.wanted;rw[hg]
 unfold wpListIn;rw[aOd hw];refine cf hd ?_;unfold Oper.wp;rw[hr];exact h
omit hE in
theorem uC.put {g:Gh}{w:pZ}{s:St}{a:Act}(h:uC B g w s a) {o:Oper}{sl:qP}{x:qA}(hs:rZ g w sl x) (hd:zV s.N o.dst=true):uC B g w ⟨tH o.dst sl s.env,s.H,s.nb,s.N,s.np⟩ (a.put o.dst x):=
 ⟨qr h.env (Le.refl g w) hs h.size hd,h.heap,(qt _ _ _).trans h.size,h.nb,by rw[qu];exact h.def_,h.np⟩
omit hE in
theorem uC.turnW {g:Gh}{w w':pZ}{s:St}{a:Act}(h:uC B g w s a) {B':Nat}(t:wI B' w w') (hd:zZ B w' a.defers):uC B g w' s a:=
 ⟨λx=>DW (t.le h.heap.sl) (h.env x),t.heapOk h.heap,h.size,h.nb,hd,h.np⟩
end
section
variable {R:Bool}{P:Program}{k v:Ty}{T:sJ}{Γ:tV}
@[go_sem] def dc:qP:=(.tup [(⟨.bool,false⟩,none)],none)
@[go_sem] def t8 (k v:Ty) (x:k.den) (y:v.den):qP:=(.tup [(⟨.bool,true⟩,none),(⟨k,x⟩,none),(⟨v,y⟩,none)],none)
@[go_sem] def WO (k v:Ty) (x:k.den) (y:v.den):qP:=(.tup [(⟨k,x⟩,none),(⟨v,y⟩,none)],none)
theorem a9X (hE:wY P T Γ) (hk:k.pure=true) (hv:v.pure=true) {id:Nat}{ops:Array Oper}{o:Oper}{l:List Oper}{it:Operand}{s:St}{m:MS k v}{Q:Ex->St->MS k v->Prop}(hops:ops.toList=o::l) (hgd:o.guard=none) (hop:o.op= .next it false) (hx:tB s.env it=(.itr m.it,none))
  (hd:zV s.N o.dst=true) (hl:AN s.H s.np=true)
  (hend:m.rem=[]->∃y,tR T Γ ops.toList l (some ⟨⟨tH o.dst dc s.env,s.H,s.nb,s.N,s.np⟩,[],[]⟩)=some y/\vB y.side/\Q .normal y.s m)
  (hpick: ∀x z rem,m.rem.Perm ((x,z)::rem)->∃y,tR T Γ ops.toList l (some ⟨⟨tH o.dst (t8 k v x z) s.env,s.H,s.nb,s.N,s.np⟩,[],[]⟩)=some y/\vB y.side/\Q .normal y.s ⟨m.it,rem,some (x,z)⟩):
  A1 R P (.region id ops false) s m Q:=by
 intro ro hro A L g0 w0 g a w B hB hr hg hn ⟨bm,es,cl,seen,hM⟩;refine wpIn_region_list ?_;rw[hops];have hev:a.eval it= .pointer (some ⟨m.it,0,none⟩):=by
  have:=(z8 hr.env it).1;rw[hx] at this;exact this
 have hexe: ∀{val:qA}{w':pZ},(Instr.next (.pointer (some ⟨m.it,0,none⟩)) false o.type).run P w= .ok val w'->(execOp a.eval o).run P w= .ok (.value val) w':=by
  intro val w' h;unfold execOp;rw[hop];simp only[hev,aOr,h,aOl,aOD]
 rcases run_next_at (P:=P) w o.type m.it bm cl cl seen es cl hM.hi hM.hm hM.st.1 (aOA _) with⟨h0,hrun⟩ |⟨e,he,w1,hw1,hrun⟩
 .have hrem:m.rem=[]:=by
   have:=hM.rd;rw[show (leftOf es seen).toList=[] by simp [Array.eq_empty_of_size_eq_zero h0]] at this;exact a9T this
  obtain⟨y,y1,y2,y3⟩:=hend hrem;refine db hgd aQz (hexe hrun) ?_;have hr2:=hr.put (o:=o) (sl:=dc) (x:= .tuple #[.bool false]) ⟨⟨[_],rfl,_,[],rfl,wA g w false,trivial,rfl⟩,trivial⟩ hd;exact ue hE y1 (MP y2) hl hr2 hg hn.symm λg' a' w' h3 h4 h5 h6=>⟨.normal,g',y.s,m,rfl,y3,h3,h4,(BY y1).2.2.trans hn,bm,es,cl,seen,hM.frame hk hv hr.heap h5 h6⟩
 obtain⟨x,z,rem,p1,p2,p3,p4⟩:=Jv hM.rd (a9V hM.st.2) he;obtain⟨y,y1,y2,y3⟩:=hpick x z rem p1;refine db hgd aQz (hexe hrun) ?_;have hi1:w1.heap=w.heap:=by rcases hw1 with rfl|rfl<;>rfl
 have hlt:m.it<w.heap.size:=(aOB.1 hM.hi).1;have hoth: ∀b,b≠m.it->(setBlock w1 m.it (.mapIter (some bm) cl (seen.push e.born) cl)).heap[b]? =w.heap[b]? :=λb hne=>by
  show (w1.heap.setIfInBounds m.it _)[b]? =_;rw[hi1,aO9 (Ne.symm hne)]
 have hnew:(setBlock w1 m.it (.mapIter (some bm) cl (seen.push e.born) cl)).heap[m.it]? =some (.mapIter (some bm) cl (seen.push e.born) cl):=by
  show (w1.heap.setIfInBounds m.it _)[m.it]? =_;rw[hi1,Array.getElem?_setIfInBounds_self_of_lt hlt]
 generalize hW:setBlock w1 m.it (.mapIter (some bm) cl (seen.push e.born) cl)=W at hoth hnew hrun;have t:wI w0.heap.size w W:=by
  refine⟨?_,?_,?_,?_,λb hb=>?_⟩
  .rw[<-hW];rcases hw1 with rfl|rfl<;>rfl
  .rw[<-hW];rcases hw1 with rfl|rfl<;>rfl
  .rw[<-hW];rcases hw1 with rfl|rfl<;>rfl
  .rw[<-hW];show w.heap.size<=(w1.heap.setIfInBounds _ _).size;rw[Array.size_setIfInBounds,hi1];exact aOA _
  by_cases hb2:b=m.it
  .subst hb2;exact .inr ⟨hM.b0,hM.ng,_,_,hM.hi,hnew,rfl,rfl⟩
  exact .inl (hoth b hb2)
 have hbm:bm≠m.it:=λe1=>by
  have:=hM.hm;rw[e1,hM.hi] at this;cases this
 have hdefs:zZ B W a.defers:=hr.def_.same λD hD=>(hoth D (λe1=>by rw[e1,hM.hi] at hD;cases hD)).trans hD;have hrW:=hr.turnW t hdefs;have le:Le g w g W:=t.le hr.heap.sl;have hgW:tE A L g0 w0 g W s.H:=hg.turn hr.heap.sl t;have hr2:=hrW.put (o:=o) (sl:=t8 k v x z) (x:= .tuple #[.bool true,e.key,e.val]) ⟨⟨[_,_,_],rfl,_,[_,_],rfl,wA g W true,trivial,_,[_],rfl,MC le p2,trivial,_,[],rfl,MC le p3,trivial,rfl⟩,trivial⟩ hd;have hshut:JT g w g W:=λb o h=>⟨h,le.cell b o h⟩;have hM2:SA w0.heap.size (⟨m.it,rem,some (x,z)⟩:MS k v) g W s.H bm es cl (seen.push e.born):=by
  refine⟨(hoth bm hbm).trans hM.hm,hnew,hM.nm,hM.b0,hM.ng,hM.st,?_,?_⟩
  .rw[a9U];exact ud hk hv p4 hshut
  exact⟨e,seen,(mem_left he).1,rfl,ct hk p2 hshut,ct hv p3 hshut⟩
 exact ue hE y1 (MP y2) hl hr2 hgW hn.symm λg' a' w' h3 h4 h5 h6=>⟨.normal,g',y.s,_,rfl,y3,h3,h4,(BY y1).2.2.trans hn,bm,es,cl,seen.push e.born,hM2.frame hk hv hrW.heap h5 h6⟩
theorem a9Y (hE:wY P T Γ) (hk:k.pure=true) (hv:v.pure=true) {id:Nat}{ops:Array Oper}{o:Oper}{l:List Oper}{it:Operand}{s:St}{m:MS k v}{Q:Ex->St->MS k v->Prop}{x:k.den}{z:v.den}{y:uR}(hops:ops.toList=o::l) (hgd:o.guard=none) (hop:o.op= .entry it) (hx:tB s.env it=(.itr m.it,none))
  (hd:zV s.N o.dst=true) (hl:AN s.H s.np=true) (hc:m.cur=some (x,z)) (hy:tR T Γ ops.toList l (some ⟨⟨tH o.dst (WO k v x z) s.env,s.H,s.nb,s.N,s.np⟩,[],[]⟩)=some y) (hs:vB y.side) (hq:Q .normal y.s m):A1 R P (.region id ops false) s m Q:=by
 intro ro hro A L g0 w0 g a w B hB hr hg hn ⟨bm,es,cl,seen,hM⟩;refine wpIn_region_list ?_;rw[hops];have hev:a.eval it= .pointer (some ⟨m.it,0,none⟩):=by
  have:=(z8 hr.env it).1;rw[hx] at this;exact this
 have hcu:=hM.cu;rw[hc] at hcu;obtain⟨e,sn,c1,c2,c3,c4⟩:=hcu;have hi:=hM.hi;rw[c2] at hi;have hrun:=run_entry_at (P:=P) w m.it bm cl sn es cl e hi hM.hm c1 hM.st.2;refine db hgd aQz (v:= .tuple #[e.key,e.val]) (w':=w) ?_ ?_
 .unfold execOp;rw[hop];simp only[hev,aOr,hrun,aOl,aOD]
 have hr2:=hr.put (o:=o) (sl:=WO k v x z) (x:= .tuple #[e.key,e.val]) ⟨⟨[_,_],rfl,_,[_],rfl,c3,trivial,_,[],rfl,c4,trivial,rfl⟩,trivial⟩ hd;exact ue hE hy (MP hs) hl hr2 hg hn.symm λg' a' w' h3 h4 h5 h6=>⟨.normal,g',y.s,m,rfl,hq,h3,h4,(BY hy).2.2.trans hn,bm,es,cl,seen,hM.frame hk hv hr.heap h5 h6⟩
@[go_sem] def MY:List Oper->Option (List Oper×Oper)
 |[]=>none
 |[o]=>some ([],o)
 |o::p::r=>match MY (p::r) with
  |some (l,q)=>some (o::l,q)
  |none=>none
theorem Jy: ∀(l:List Oper) {m:List Oper}{o:Oper},MY l=some (m,o)->l=m++[o]
 |[],m,o,h=>by unfold MY at h;cases h
 |a::l,m,o,h=>by
  cases l with
  |nil=>
   unfold MY at h;injection h with h
   injection h with h1 h2
   rw[<-h1,<-h2];rfl
  |cons b r=>
   unfold MY at h;cases hq:MY (b::r) with
   |none=>rw[hq] at h;cases h
   |some q=>
    rw[hq] at h;injection h with h
    injection h with h1 h2
    rw[Jy (b::r) hq,<-h1,<-h2];rfl
theorem a9Z (hE:wY P T Γ) (hk:k.pure=true) (hv:v.pure=true) {id:Nat}{ops:Array Oper}{l:List Oper}{o:Oper}{ty:TypeId}{mo:Operand}{c2:Code}{s:St}{Q:Ex->St->Prop}{y:uR}{c:Nat}{k0:pX}{rem:List (k.den×v.den)}{kt vt:TypeId}(hops:ops.toList=l++[o]) (hgd:o.guard=none) (hop:o.op= .range ty mo)
  (hy:tR T Γ ops.toList l (some ⟨s,[],[]⟩)=some y) (hs:vB y.side) (hx:tB y.s.env mo=(.val .mp (some c),k0)) (hc:qU y.s.H c=some (.map k v rem)) (hu:P.underlying ty=some (.map kt vt)) (hd:zV y.s.N o.dst=true)
  (kp:uA) (hkp:vN y.s.np kp.ids=true) (hkc:kp.ids.all (λq=>decide (q.2≠c))=true)
  (h: ∀it,Jr R P c2 (St.keep ⟨tH o.dst (.itr it,none) y.s.env,y.s.H,y.s.nb,y.s.N,y.s.np⟩ kp) (⟨it,rem,none⟩:MS k v) Q):Ev R P (.seq (.region id ops false) c2) s Q:=by
 intro ro hro A L g0 w0 g a w B hB hr hg hn;refine wpIn_seq (wpIn_region_list ?_);rw[hops];refine Jw hE hy (MP hs) hr hg hn.symm λg1 a1 w1 r1 d1=>?_;obtain⟨p,es,cl,hp,hp0,hh,hM,hS⟩:=r1.heap.blk c _ hc;have hev:a1.eval mo= .map (some p.1):=by
  have:=z8 r1.env mo;rw[hx] at this;obtain⟨p',h1,h2⟩:=pu hE.T r1.heap this;rw[hp] at h1;obtain rfl:=aOj h1;exact h2
 have hrun:=run_range_map (P:=P) w1 ty kt vt p.1 es cl hu hh;refine db hgd aQz (v:= .pointer (some ⟨w1.heap.size,0,none⟩)) (w':=w1.alloc (.mapIter (some p.1) cl #[] cl)) ?_ ?_
 .unfold execOp;rw[hop];simp only[hev,aOr,hrun,aOl,aOD]
 have t:wI w0.heap.size w1 (w1.alloc (.mapIter (some p.1) cl #[] cl)):=wI.new _ _ _;have hdefs:zZ B (w1.alloc (.mapIter (some p.1) cl #[] cl)) a1.defers:=r1.def_.same λD hD=>(aOK _ _ D (aOB.1 hD).1).trans hD;have r2:=(r1.turnW t hdefs).put (o:=o) (sl:=(.itr w1.heap.size,none)) (x:= .pointer (some ⟨w1.heap.size,0,none⟩)) ⟨rfl,trivial⟩ hd;have d2:=d1.turn r1.heap.sl t;have hnp:y.s.np=L.length:=(BY hy).2.2.trans hn;obtain⟨r3,d3,n3,_⟩:=cd r2 d2 hnp kp hkp;have hm:SA w0.heap.size (⟨w1.heap.size,rem,none⟩:MS k v) (uN g1 y.s.np kp.ids) (w1.alloc (.mapIter (some p.1) cl #[] cl)) (St.keep ⟨tH o.dst (.itr w1.heap.size,none) y.s.env,y.s.H,y.s.nb,y.s.N,y.s.np⟩ kp).H p.1 es cl #[]:=by
  refine⟨(aOK _ _ _ (aOB.1 hh).1).trans hh,World.alloc_heap_new _ _,?_,d1.fr.size,r1.heap.tab.1.1,hp0.2,?_,trivial⟩
  .rintro b ⟨i,blk,k1,k2⟩;have k1':qU (RE (⟨tH o.dst (.itr w1.heap.size,none) y.s.env,y.s.H,y.s.nb,y.s.N,y.s.np⟩:St) kp (vN y.s.np kp.ids)).H i=some blk:=k1;rw[hkp] at k1';obtain⟨o',k3,rfl⟩:=HH k1';obtain⟨c1,k4,k5⟩:=(JQ hkp k3 λc1 hc1=>r1.heap.blk o' c1 hc1).2 _ _ k2;exact r1.heap.dis o' c c1 _ p.1 b (aO3 (aPh.1 hkc _ k3)) k4 hc k5 ⟨p,hp,rfl⟩
  rw[a9W];exact ME (g:=g1) (g':=uN g1 y.s.np kp.ids) rfl hk hv (VU (t.le r1.heap.sl) hM)
 exact h w1.heap.size ro hro A L g0 w0 _ _ _ B hB r3 d3 n3 ⟨p.1,es,cl,#[],hm⟩
end
def HL {ι σ:Type}(f:ι->σ->Option σ):List ι->σ->Option σ
 |[],x=>some x
 |i::r,x=>(f i x).bind (HL f r)
def JU {ι σ:Type}(f:ι->σ->Option σ) (l:List ι) (x y:σ):Prop:= ∀l',l'.Perm l->HL f l' x=some y
open Classical in
noncomputable def SB {ι σ:Type}(f:ι->σ->Option σ) (l:List ι) (x:σ):Option σ:=if∀l',List.Perm l' l->HL f l' x=HL f l x then HL f l x else none
theorem a90 {ι σ:Type}{f:ι->σ->Option σ}{l:List ι}{x y:σ}(h:SB f l x=some y):JU f l x y:=by
 unfold SB at h;split at h
 .rename_i h1;exact λl' hl=>(h1 l' hl).trans h
 cases h
theorem JU.pick {ι σ:Type}{f:ι->σ->Option σ}{l l':List ι}{q:ι}{x y:σ}(h:JU f l x y) (hp:l.Perm (q::l')): ∃x',f q x=some x'/\JU f l' x' y:=by
 have h1: ∀r,r.Perm l'->(f q x).bind (HL f r)=some y:=λr hr=>h (q::r) ((List.Perm.cons q hr).trans hp.symm);cases hf:f q x with
 |none=>have:=h1 l' (List.Perm.refl _);rw[hf] at this;cases this
 |some x'=>exact⟨x',rfl,λr hr=>by have:=h1 r hr;rw[hf] at this;exact this⟩
def CZ {ι σ ρ:Type}(f:ι->σ->Option (σ⊕ρ)) (i:ι) (x:σ):Option σ:=(f i x).bind λw=>match w with
 | .inl x'=>some x'
 | .inr _=>none
theorem a91 {ι σ ρ:Type}{f:ι->σ->Option (σ⊕ρ)}{i:ι}{x x':σ}(h:CZ f i x=some x'):f i x=some (.inl x'):=by
 unfold CZ at h;cases hf:f i x with
 |none=>rw[hf] at h;cases h
 |some w=>
  rw[hf] at h;cases w with
  |inl z=>cases h;rfl
  |inr z=>cases h
def qM {σ:Type}(enc:σ->St) (b4:Nat) (x':σ):Ex->St->Prop
 | .normal,s=> ∃kp:uA,vN s.np kp.ids=true/\s.keep kp=enc x'
 | .exit j,s=>j=b4/\∃kp:uA,vN s.np kp.ids=true/\s.keep kp=enc x'
 | .ret,_=>False
theorem Jz {σ:Type}{enc:σ->St}{b4:Nat}{x':σ}{s:St}(kp:uA) (h1:vN s.np kp.ids=true) (h2:s.keep kp=enc x'):qM enc b4 x' .normal s:=⟨kp,h1,h2⟩
section
variable {R:Bool}{P:Program}{k v:Ty}{T:sJ}{Γ:tV}
theorem a92 (hE:wY P T Γ) (hk:k.pure=true) (hv:v.pure=true) {id8 id9 b3 b4 it:Nat}{ops8 ops9:Array Oper}{l8 l9:List Oper}{o8 o9:Oper}{tb:Nat}{tI:Operand}{body:Code}{l:List (k.den×v.den)}{σ ρ:Type}{f:k.den×v.den->σ->Option (σ⊕ρ)}{x0 y:σ}
  (hy:JU (CZ f) l x0 y) (enc:σ->St) (tQ:σ->St) (h8:ops8.toList=o8::l8) (g8:o8.guard=none) (p8:o8.op= .next tI false) (h9:ops9.toList=o9::l9) (g9:o9.guard=none) (p9:o9.op= .entry tI)
  (m8: ∀x,tB (enc x).env tI=(.itr it,none)) (d8: ∀x,zV (enc x).N o8.dst=true) (v8: ∀x,AN (enc x).H (enc x).np=true) (hb:b4≠b3)
  (hend: ∀x,∃a,tR T Γ ops8.toList l8 (some ⟨⟨tH o8.dst dc (enc x).env,(enc x).H,(enc x).nb,(enc x).N,(enc x).np⟩,[],[]⟩)=some a/\vB a.side/\tB a.s.env (.tmp tb)=(.val .bool false,none)/\∃kq:uA,a.s.keep kq=tQ x)
  (hround: ∀i j x x',f (i,j) x=some (.inl x')->∃a,tR T Γ ops8.toList l8 (some ⟨⟨tH o8.dst (t8 k v i j) (enc x).env,(enc x).H,(enc x).nb,(enc x).N,(enc x).np⟩,[],[]⟩)=some a/\vB a.side/\tB a.s.env (.tmp tb)=(.val .bool true,none)/\tB a.s.env tI=(.itr it,none)/\zV a.s.N o9.dst=true/\AN a.s.H a.s.np=true/\
   ∃a9,tR T Γ ops9.toList l9 (some ⟨⟨tH o9.dst (WO k v i j) a.s.env,a.s.H,a.s.nb,a.s.N,a.s.np⟩,[],[]⟩)=some a9/\vB a9.side/\AN a9.s.H a9.s.np=true/\Ev R P body a9.s (qM enc b4 x')):
  A1 R P (.block b3 (.loop (.seq (.region id8 ops8 false) (.seq (.cond (.tmp tb) .skip (.exit b3)) (.block b4 (.seq (.region id9 ops9 false) body)))))) (enc x0) (⟨it,l,none⟩:MS k v) (λe s' _=>e= .normal/\∃kq:uA,s'.keep kq=tQ y):=by
 refine Ju (Q1:=λe s' _=>e= .exit b3/\∃kq:uA,s'.keep kq=tQ y) ?_ (λs' m' h=>⟨rfl,h.elim (λh=>by cases h.1) λh=>h.2⟩) (λj s' m' hj h=>absurd (Ex.exit.inj h.1) hj) (λs' m' h=>by cases h.1);refine a9S hk hv (λn s m=> ∃x,s=enc x/\m.it=it/\m.rem.length=n/\JU (CZ f) m.rem x y) l.length ⟨x0,rfl,rfl,rfl,hy⟩ λn s m ⟨x,e1,e2,e3,e4⟩=>?_;subst e1;refine da (Q1:=λe s' m'=>e= .normal/\((tB s'.env (.tmp tb)=(.val .bool false,none)/\∃kq:uA,s'.keep kq=tQ y)\/
   ∃i j rem x',rem.length+1=n/\JU (CZ f) rem x' y/\m'=⟨it,rem,some (i,j)⟩/\tB s'.env (.tmp tb)=(.val .bool true,none)/\tB s'.env tI=(.itr it,none)/\zV s'.N o9.dst=true/\AN s'.H s'.np=true/\
    ∃a9,tR T Γ ops9.toList l9 (some ⟨⟨tH o9.dst (WO k v i j) s'.env,s'.H,s'.nb,s'.N,s'.np⟩,[],[]⟩)=some a9/\vB a9.side/\AN a9.s.H a9.s.np=true/\Ev R P body a9.s (qM enc b4 x'))) ?_ ?_ (λe s' m' hne h=>absurd h.1 hne)
 .refine a9X hE hk hv h8 g8 p8 (by rw[e2];exact m8 x) (d8 x) (v8 x) (λh0=>?_) (λi j rem hp=>?_)
  .obtain⟨a,a1,a2,a3,a4⟩:=hend x;have hxy:x=y:=by
    rw[h0] at e4;exact aOj (e4 [] (List.Perm.refl _))
   subst hxy;exact⟨a,a1,a2,rfl,.inl ⟨a3,a4⟩⟩
  obtain⟨x',f1,f2⟩:=e4.pick hp;obtain⟨a,a1,a2,a3,a4,a5,a6,a7⟩:=hround i j x x' (a91 f1);refine⟨a,a1,a2,rfl,.inr ⟨i,j,rem,x',?_,f2,by rw[e2],a3,a4,a5,a6,a7⟩⟩;rw[<-e3,hp.length_eq,aOe]
 rintro s1 m1 ⟨-,(⟨q1,q2⟩ |⟨i,j,rem,x',q1,q2,rfl,q3,q4,q5,q6,a9,q7,q8,q9,q10⟩)⟩
 .refine da (Q1:=λe s' _=>e= .exit b3/\∃kq:uA,s'.keep kq=tQ y) (Js q1 (λh=>by cases h) λ_=>a9O ⟨rfl,q2⟩) (λs' m' h=>by cases h.1) (λe s' m' hne h=>?_);obtain⟨rfl,h⟩:=h;exact⟨rfl,h⟩
 refine da (Q1:=λe s' m'=>e= .normal/\s'=s1/\m'=⟨it,rem,some (i,j)⟩) (Js q3 (λ_=>a9P ⟨rfl,rfl,rfl⟩) λh=>by cases h) ?_ (λe s' m' hne h=>absurd h.1 hne);rintro s2 m2 ⟨-,rfl,rfl⟩;have hfin: ∀s' m',(qM enc b4 x' .normal s'/\m'=(⟨it,rem,some (i,j)⟩:MS k v))->∃(kp:uA) (n':Nat),n'<n/\vN s'.np kp.ids=true/\∃x,s'.keep kp=enc x/\m'.it=it/\m'.rem.length=n'/\JU (CZ f) m'.rem x y:=by
  rintro s' m' ⟨⟨kp,k1,k2⟩,rfl⟩;exact⟨kp,rem.length,pN,k1,x',k2,rfl,rfl,q2⟩
 refine Ju (Q1:=λe s' m'=>qM enc b4 x' e s'/\m'=(⟨it,rem,some (i,j)⟩:MS k v)) ?_ (λs' m' h=>hfin s' m' (h.elim id λh=>⟨h.1.2,h.2⟩)) (λj' s' m' hj h=>absurd h.1.1 hj) (λs' m' h=>h.1.elim);refine da (Q1:=λe s' m'=>e= .normal/\s'=a9.s/\m'=(⟨it,rem,some (i,j)⟩:MS k v)) (a9Y hE hk hv h9 g9 p9 q4 q5 q6 rfl q7 q8 ⟨rfl,rfl,rfl⟩) ?_ (λe s' m' hne h=>absurd h.1 hne);rintro s3 m3 ⟨-,rfl,rfl⟩;exact a9R hk hv q9 (MR q10 λe s' h=>⟨h,rfl⟩)
theorem a93 (hE:wY P T Γ) (hk:k.pure=true) (hv:v.pure=true) {id1 id8 id9 b3 b4:Nat}{ops1 ops8 ops9:Array Oper}{l1 l8 l9:List Oper}{o1 o8 o9:Oper}{tb:Nat}{tI mo:Operand}{ty el fl:TypeId}{ar:Bool}{ls:List (Nat×TypeId×Nat)}{body:Code}{s:St}{Q:Ex->St->Prop}{y1:uR}{c:Nat}{k0:pX}
  {l:List (k.den×v.den)}{σ ρ:Type}{f:k.den×v.den->σ->Option (σ⊕ρ)}{x0 y:σ}(hy:SB (CZ f) l x0=some y)
  (h1:MY ops1.toList=some (l1,o1)) (g1:o1.guard=none) (p1:o1.op= .range ty mo) (h8:ops8.toList=o8::l8) (g8:o8.guard=none) (p8:o8.op= .next tI false) (h9:ops9.toList=o9::l9) (g9:o9.guard=none) (p9:o9.op= .entry tI) (hb:b4≠b3)
  (e1:tR T Γ ops1.toList l1 (some ⟨s,[],[]⟩)=some y1) (s1:vB y1.side) (m1:tB y1.s.env mo=(.val .mp (some c),k0)) (c1:qU y1.s.H c=some (.map k v l)) (u1:s4 T ty=some ⟨.mp,el,fl,ar,ls⟩) (d1:zV y1.s.N o1.dst=true)
  (kp:uA) (hkp:vN y1.s.np kp.ids=true) (hkc:kp.ids.all (λq=>decide (q.2≠c))=true) (enc:Nat->σ->St) (tQ:σ->St) (h0: ∀it,St.keep ⟨tH o1.dst (.itr it,none) y1.s.env,y1.s.H,y1.s.nb,y1.s.N,y1.s.np⟩ kp=enc it x0)
  (m8: ∀it x,tB (enc it x).env tI=(.itr it,none)) (d8: ∀it x,zV (enc it x).N o8.dst=true) (v8: ∀it x,AN (enc it x).H (enc it x).np=true)
  (hend: ∀it x,∃a,tR T Γ ops8.toList l8 (some ⟨⟨tH o8.dst dc (enc it x).env,(enc it x).H,(enc it x).nb,(enc it x).N,(enc it x).np⟩,[],[]⟩)=some a/\vB a.side/\tB a.s.env (.tmp tb)=(.val .bool false,none)/\∃kq:uA,a.s.keep kq=tQ x)
  (hround: ∀it i j x x',f (i,j) x=some (.inl x')->∃a,tR T Γ ops8.toList l8 (some ⟨⟨tH o8.dst (t8 k v i j) (enc it x).env,(enc it x).H,(enc it x).nb,(enc it x).N,(enc it x).np⟩,[],[]⟩)=some a/\vB a.side/\tB a.s.env (.tmp tb)=(.val .bool true,none)/\tB a.s.env tI=(.itr it,none)/\zV a.s.N o9.dst=true/\AN a.s.H a.s.np=true/\
   ∃a9,tR T Γ ops9.toList l9 (some ⟨⟨tH o9.dst (WO k v i j) a.s.env,a.s.H,a.s.nb,a.s.N,a.s.np⟩,[],[]⟩)=some a9/\vB a9.side/\AN a9.s.H a9.s.np=true/\Ev R P body a9.s (qM (enc it) b4 x'))
  (hrest:Q .normal (tQ y)):
  Ev R P (.seq (.region id1 ops1 false) (.block b3 (.loop (.seq (.region id8 ops8 false) (.seq (.cond (.tmp tb) .skip (.exit b3)) (.block b4 (.seq (.region id9 ops9 false) body))))))) s Q:=by
 have hu:P.underlying ty=some (.map el fl):=by
  have hm:=(t7 hE.T u1).2;simpa only[xO] using hm
 refine a9Z hE hk hv (Jy _ h1) g1 p1 e1 s1 m1 c1 hu d1 kp hkp hkc λit=>?_;rw[h0 it];refine a9Q (a92 hE hk hv (a90 hy) (enc it) tQ h8 g8 p8 h9 g9 p9 (m8 it) (d8 it) (v8 it) hb (hend it) (hround it)) λe s' m' h=>?_;obtain⟨rfl,kq,hq⟩:=h;exact⟨kq,by rw[hq];exact hrest⟩
end
end Go.Proofs.YtedimeeleabhnaaGreatDoor.Vc
namespace Go.Proofs.YtedimeeleabhnaaGreatDoor
open Go.RowKit Go.Shelf Vc
open Tryz
abbrev WP:Type:=Int×Int×Int×Unit
def HN (s:ByteArray):Nat->Nat->Int->Int->List WP
 |0,_,_,_=>[]
 |n+1,i,L,C=>if i<s.size then((i:Int),L,C,())::(if (Utf8.decode s i).1=10 then HN s n (i+(Utf8.decode s i).2) (L+1) 1 else HN s n (i+(Utf8.decode s i).2) L (C+1)) else[((s.size:Int),L,C,())]
def A2 (s:ByteArray):List WP:=HN s (s.size+1) 0 1 1
def SC (it:WP):pV:=[.agg #[.int .i64 it.1,.int .i64 it.2.1,.int .i64 it.2.2.1]]
theorem a94 {P:Program}(w:pZ) (r:Nat) (s:ByteArray) (i:Nat) (ty:TypeId) (hh:w.heap[r]? =some (.stringIter s i)) (hi:i<s.size) {c k:Nat}(hd:Utf8.decode s i=(c,k)):
  (Instr.next (.pointer (some ⟨r,0,none⟩)) true ty).run P w= .ok (.tuple #[.bool true,.int .i64 i,.int .i32 c]) {w with heap:=w.heap.setIfInBounds r (.stringIter s (i+k))}:=by
 simp [Instr.next,getObj,setObj,Sem.run,hh,hi,hd,goInt]
theorem a95 {P:Program}(w:pZ) (r:Nat) (s:ByteArray) (i:Nat) (ty:TypeId) (hh:w.heap[r]? =some (.stringIter s i)) (hi: ¬i<s.size):
  (Instr.next (.pointer (some ⟨r,0,none⟩)) true ty).run P w= .ok (.tuple #[.bool false]) w:=by
 simp [Instr.next,getObj,Sem.run,hh,hi]
theorem D0 {w:pZ}{b:Nat}{arr:Array qA}{T:TypeId}(h:w.heap[b]? =some (.cells arr T)) (o:Nat) (v:qA):(w.setCell ⟨b,o,none⟩ v).heap[b]? =some (.cells (arr.setIfInBounds o v) T):=by
 simp [World.setCell,aPK,h]
theorem a96 (s:ByteArray) (i:Nat) (hi:i<s.size):1<=(Utf8.decode s i).2/\i+(Utf8.decode s i).2<=s.size:=by
 unfold Utf8.decode;simp only[aPm,aOo,aOt]
 repeat' split
 all_goals (simp only;omega)
theorem EG {w:pZ}{b:Nat}{arr:Array qA}{T:TypeId}(h:w.heap[b]? =some (.cells arr T)) (o:Nat):w.frozen? ⟨b,o,none⟩=false:=by
 simp [World.frozen?,h]
theorem Ka {N:Nat}{W V:pZ}{o:Obj}(h:Below N W V):Below N W (V.putObj (N+4) o):=h.trans ⟨rfl,rfl,rfl,by simp [World.putObj],λk hk=>World.putObj_heap_other pN⟩
theorem a97 {B r:Nat}{a w:pZ}{o:Obj}(h:Below B a w) (hr:B<=r):Below B a {w with heap:=w.heap.setIfInBounds r o}:=
 ⟨h.os,h.tape,h.output,by simpa using h.size,λk hk=>by
  show (w.heap.setIfInBounds r o)[k]? =_;rw[aO9 pN];exact h.block k hk⟩
section
attribute [local go_sem] Oper.semAt_some
theorem a98 (s:ByteArray) (hs:s.size<=4611686018427387904) (l n0:Nat) (J:Nat->pZ->Prop) (Jx:pZ->Prop) (hJo: ∀i W W',J i W->Below n0 W W'->J i W') (_: ∀W W',Jx W->Below n0 W W'->Jx W')
  (hY: ∀i it W,(A2 s)[i]? =some it->J i W->n0<=W.heap.size->YieldAt Fence.wide 0 prog l (SC it).toArray W λe W'=>((e= .returned (.bool true)/\J (i+1) W')\/(e= .returned (.bool false)/\Jx W'))/\W.heap.size<=W'.heap.size/\∀D,n0<=D->D<W.heap.size->W'.heap[D]? =W.heap[D]?) (W:pZ) (hW:n0<=W.heap.size) (h0:J 0 W):
  Calls prog 201 #[.string s,.func (.yield l) #[] #[]] W λe W'=>(∃v,e= .returned v)/\(J (A2 s).length W'\/Jx W'):=by
 refine(callsIn_wide (n:=0)).1 (callsIn_of_wp func201 rfl trivial ?_);simp only[Tryz.ntmps201,aPg,aOe,aOh,Nat.reduceAdd,Nat.reduceSub,Array.replicate_succ,Array.replicate_zero,List.push_toArray,List.append_toArray,List.nil_append,List.cons_append]
 gi_wp2
 gi_loopg [] s.size (λm wr=> ∃i k n:Nat,∃o L C:Int,i+m=s.size/\s.size<n+i/\(A2 s).drop k=HN s n i L C/\k<=(A2 s).length/\1<=L/\L<=i+1/\1<=C/\C<=i+1/\J k wr/\W.heap.size+1<wr.heap.size/\
  wr.heap[W.heap.size]? =some (.cells #[.int .i64 o,.int .i64 L,.int .i64 C] 90)/\wr.heap[W.heap.size+1]? =some (.stringIter s i))
 case atStart=>
  refine⟨0,0,s.size+1,0,1,1,pN,pN,rfl,aPL _,pO,pO,pO,pO,hJo _ _ _ h0 ?_,?_,?_,?_⟩
  .exact((Below.refl _ _).alloc hW _).alloc pQ _
  .simp [World.iter]
  .exact(aOK _ _ _ pP).trans (World.alloc_heap_new W _)
  have:=World.iter_heap (W.alloc (Obj.cells #[Value.int IntKind.i64 0,Value.int IntKind.i64 1,Value.int IntKind.i64 1] 90)) s 0;rwa [World.size_alloc] at this
 case round=>
  obtain⟨i,k,n,o,L,C,hm,hn,hdrop,hk,hL1,hL2,hC1,hC2,hJs,hsz,hcell,hiter⟩:=hrel;obtain⟨n',rfl⟩: ∃n',n=n'+1:=⟨n-1,pN⟩;by_cases hi:i<s.size
  .obtain⟨c,kk,hd⟩: ∃c kk,Utf8.decode s i=(c,kk):=⟨_,_,rfl⟩;have hnx:=λty=>a94 (P:=prog) wr (W.heap.size+1) s i ty hiter hi hd;obtain⟨w1,hw1⟩: ∃w1:pZ,{wr with heap:=wr.heap.setIfInBounds (W.heap.size+1) (.stringIter s (i+kk))}=w1:=⟨_,rfl⟩
   have h1cell:w1.heap[W.heap.size]? =some (.cells #[.int .i64 o,.int .i64 L,.int .i64 C] 90):=by
    rw[<-hw1];show (wr.heap.setIfInBounds _ _)[_]? =_;rw[aO9 pN];exact hcell
   have h1iter:w1.heap[W.heap.size+1]? =some (.stringIter s (i+kk)):=by
    rw[<-hw1];show (wr.heap.setIfInBounds _ _)[_]? =_;simp [hsz]
   have h1c0:w1.cell? ⟨W.heap.size,0,none⟩=some (.int .i64 o):=Lib.cell_of_heap h1cell 0;have h1c1:w1.cell? ⟨W.heap.size,1,none⟩=some (.int .i64 L):=Lib.cell_of_heap h1cell 1;have h1c2:w1.cell? ⟨W.heap.size,2,none⟩=some (.int .i64 C):=Lib.cell_of_heap h1cell 2;have h1f:w1.frozen? ⟨W.heap.size,0,none⟩=false:=EG h1cell 0;have h1s:w1.heap.size=wr.heap.size:=by rw[<-hw1];simp
   have hb1:Below n0 wr w1:=by rw[<-hw1];exact a97 (Below.refl _ _) pN
   rw[hw1] at hnx;have hJ2:J k (w1.setCell ⟨W.heap.size,0,none⟩ (.int .i64 i)):=hJo _ _ _ hJs (hb1.setCell hW _);have h2b:=D0 h1cell 0 (.int .i64 i);have h2i:(w1.setCell ⟨W.heap.size,0,none⟩ (.int .i64 i)).heap[W.heap.size+1]? =some (.stringIter s (i+kk)):=(Go.Deep.blk_setCell_other _ _ _ _ (by show W.heap.size+1≠W.heap.size;omega)).trans h1iter;have h2s:(w1.setCell ⟨W.heap.size,0,none⟩ (.int .i64 i)).heap.size=wr.heap.size:=by rw[Go.Deep.nblk_setCell,h1s]
   have hq:(A2 s)[k]? =some ((i:Int),L,C,()):=by
    have:=aOI (·[0]?) hdrop;rw[HN,aOd hi] at this;simpa using this
   have hd2:(A2 s).drop (k+1)=(if c=10 then HN s n' (i+kk) (L+1) 1 else HN s n' (i+kk) L (C+1)):=by
    have:=aOI (List.drop 1) hdrop;rw[HN,aOd hi,hd] at this;simpa[aPj,Nat.add_comm] using this
   have hk2:k+1<=(A2 s).length:=(aOw.1 hq).1;obtain⟨fn,tmps,assign,body,hy,hQ⟩:=hY _ _ _ hq hJ2 (by rw[h2s];omega);dsimp only[SC] at hy;clear hcell hiter hdrop hb1 hJs hJ2
   gi_wp2
   refine⟨rfl,hQ.mono ?_⟩;clear hQ hy;rintro e W2 ⟨h12,hsz2,hkeep⟩;rw[h2s] at hsz2 hkeep;have hblk:=(hkeep W.heap.size hW pN).trans h2b;have hitr:=(hkeep (W.heap.size+1) pN hsz).trans h2i;have hc1:W2.cell? ⟨W.heap.size,1,none⟩=some (.int .i64 L):=Lib.cell_of_heap hblk 1;have hc2:W2.cell? ⟨W.heap.size,2,none⟩=some (.int .i64 C):=Lib.cell_of_heap hblk 2;have hf1:W2.frozen? ⟨W.heap.size,1,none⟩=false:=EG hblk 1;have hf2:W2.frozen? ⟨W.heap.size,2,none⟩=false:=EG hblk 2;clear hkeep h2b h2i h2s h1cell h1iter h1c0 h1c1 h1c2 hnx;rcases h12 with⟨rfl,hJ3⟩ |⟨rfl,hJx⟩
   .have hkk:=a96 s i hi;rw[hd] at hkk;obtain⟨hk3,hk4⟩:1<=kk/\i+kk<=s.size:=hkk;by_cases hc:c=10
    .subst hc;rw[aOd rfl] at hd2
     gi_wp2
     gi_roundg (gk-kk)
     case measure=>omega
     case rel=>
      refine⟨i+kk,k+1,n',i,L+1,1,pN,pN,hd2,hk2,pN,pN,pN,pN,hJo _ _ _ hJ3 ((((Below.refl _ _).setCell hW _).setCell hW _).setCell hW _),by simp only[Go.Deep.nblk_setCell];omega,?_,?_⟩
      .exact D0 (D0 (D0 hblk 2 (.int .i64 (C+1))) 1 (.int .i64 (L+1))) 2 (.int .i64 1)
      rw[Go.Deep.blk_setCell_other _ _ _ _ pP,Go.Deep.blk_setCell_other _ _ _ _ pP,Go.Deep.blk_setCell_other _ _ _ _ pP];exact hitr
    have hcd:decide ((c:Int)=10)=false:=decide_eq_false pN;rw[aOi hc] at hd2
    gi_wp2
    gi_roundg (gk-kk)
    case measure=>omega
    case rel=>
     refine⟨i+kk,k+1,n',i,L,C+1,pN,pN,hd2,hk2,pN,pN,pN,pN,hJo _ _ _ hJ3 ((Below.refl _ _).setCell hW _),by simp only[Go.Deep.nblk_setCell];omega,?_,?_⟩
     .exact D0 hblk 2 (.int .i64 (C+1))
     rw[Go.Deep.blk_setCell_other _ _ _ _ pP];exact hitr
   gi_wp2
   refine bodyPost_ret (results_none rfl _ _ _) rfl ?_;exact⟨⟨_,rfl⟩,.inr hJx⟩
  obtain rfl:i=s.size:=by omega
  have hnx:=λty=>a95 (P:=prog) wr (W.heap.size+1) s s.size ty hiter hi;rw[HN,aOi hi] at hdrop;have hq:(A2 s)[k]? =some ((s.size:Int),L,C,()):=by
   have:=aOI (·[0]?) hdrop;simpa using this
  have hkk:k+1=(A2 s).length:=by
   have h1:=aOI List.length hdrop;rw[aON] at h1;simp only[aOe,aOh] at h1;omega
  have h1f:wr.frozen? ⟨W.heap.size,0,none⟩=false:=EG hcell 0;have h1c0:wr.cell? ⟨W.heap.size,0,none⟩=some (.int .i64 o):=Lib.cell_of_heap hcell 0;have h1c1:wr.cell? ⟨W.heap.size,1,none⟩=some (.int .i64 L):=Lib.cell_of_heap hcell 1;have h1c2:wr.cell? ⟨W.heap.size,2,none⟩=some (.int .i64 C):=Lib.cell_of_heap hcell 2;have hJ2:J k (wr.setCell ⟨W.heap.size,0,none⟩ (.int .i64 s.size)):=hJo _ _ _ hJs ((Below.refl _ _).setCell hW _);obtain⟨fn,tmps,assign,body,hy,hQ⟩:=hY _ _ _ hq hJ2 (by rw[Go.Deep.nblk_setCell];omega);dsimp only[SC] at hy;clear hcell hiter hdrop hJs hJ2
  gi_wp2
  refine⟨rfl,hQ.mono ?_⟩;clear hQ hy;rintro e W2 ⟨h12,-⟩;rcases h12 with⟨rfl,hJ3⟩ |⟨rfl,hJx⟩
  .gi_wp2
   go_end0
   exact⟨⟨_,rfl⟩,.inl (hkk▸hJ3)⟩
  gi_wp2
  go_end0
  exact⟨⟨_,rfl⟩,.inr hJx⟩
theorem a99 (s:ByteArray) (hs:s.size<=4611686018427387904) (l n0:Nat) (J:Nat->pZ->Prop) (Jx:pZ->Prop) (hJo: ∀i W W',J i W->Below n0 W W'->J i W') (hJxo: ∀W W',Jx W->Below n0 W W'->Jx W')
  (hY: ∀i it W,(A2 s)[i]? =some it->J i W->n0<=W.heap.size->YieldAt Fence.wide 0 prog l (SC it).toArray W λe W'=>((e= .returned (.bool true)/\J (i+1) W')\/(e= .returned (.bool false)/\Jx W'))/\W.heap.size<=W'.heap.size/\∀D,n0<=D->D<W.heap.size->W'.heap[D]? =W.heap[D]?) (W:pZ) (hW:n0<=W.heap.size) (h0:J 0 W) (b o:Nat) (hc:W.cell? ⟨b,o,none⟩=some (.string s)):
  Calls prog 200 #[.func (.yield l) #[] #[],.pointer (some ⟨b,o,none⟩)] W λe W'=>(∃v,e= .returned v)/\(J (A2 s).length W'\/Jx W'):=by
 have hcall:=a98 s hs l n0 J Jx hJo hJxo hY W hW h0;refine(callsIn_wide (n:=0)).1 (callsIn_of_wp func200 rfl trivial ?_);simp only[Tryz.ntmps200,aPg,aOe,aOh,Nat.reduceAdd,Nat.reduceSub,Array.replicate_succ,Array.replicate_zero,List.push_toArray,List.append_toArray,List.nil_append,List.cons_append];clear hY
 gi_wp2
 refine⟨trivial,rfl,(callsIn_wide.2 hcall).mono ?_⟩;rintro e w' ⟨⟨v,rfl⟩,hr⟩
 gi_wp2
 go_end0
 exact⟨⟨_,rfl⟩,hr⟩
theorem MZ {A:pZ}{o:Obj}{i:Nat}(h:i=A.heap.size):(A.alloc o).heap[i]? =some o:=by subst h;exact World.alloc_heap_new A o
theorem HO {A:pZ}{o x:Obj}{i:Nat}(h:A.heap[i]? =some x):(A.alloc o).heap[i]? =some x:=(aOK _ _ _ (aOB.1 h).1).trans h
theorem aAa {P:Program}{fo:Operand}{ps:Array Tmp}{assign body:Code}{Q:Exit->Act->pZ->Prop}{a:Act}{w:pZ}{gf:Nat}{lb:Array qA}(hg:a.eval fo= .func (.func gf) #[] lb) (eg: ∀args w,(callFunc gf args).run P w= .ok (.enter gf args) w) {ι:Type}{items:List ι}{vl:ι->pV}(hps: ∀it,(vl it).toArray.size=ps.size)
  (call: ∀(l n0:Nat) (J:Nat->pZ->Prop) (Jx:pZ->Prop),(∀i W W',J i W->Below n0 W W'->J i W')->(∀W W',Jx W->Below n0 W W'->Jx W')->
   (∀i it W,items[i]? =some it->J i W->n0<=W.heap.size->YieldAt Fence.wide 0 P l (vl it).toArray W λe W'=>((e= .returned (.bool true)/\J (i+1) W')\/(e= .returned (.bool false)/\Jx W'))/\W.heap.size<=W'.heap.size/\∀D,n0<=D->D<W.heap.size->W'.heap[D]? =W.heap[D]?)->
   ∀W,Below w.heap.size w W->n0<=W.heap.size->J 0 W->Calls P gf (#[.func (.yield l) #[] #[]]++lb) W λe W'=>(∃v,e= .returned v)/\(J items.length W'\/Jx W'))
  (R:Nat->Prop) (h0:R 0) (Ix:pZ->Prop) (hIx: ∀W W',Ix W->Below w.heap.size W W'->Ix W')
  (hround: ∀(l i:Nat) (it:ι) (V:pZ),items[i]? =some it->R i->Below w.heap.size w V->w.heap.size+2<=V.heap.size->
   assign.wpIn (Fence.wide.inRound l) 0 P (λe a1 Va=>e= .normal/\Below V.heap.size V Va/\∀Vb,(∀D,V.heap.size<=D->Vb.heap[D]? =Va.heap[D]?)->Below w.heap.size Va Vb->Vb.heap.size=Va.heap.size->
    body.wpIn (Fence.wide.inRound l) 0 P (λe _ Vc=>(e= .normal/\Below Vb.heap.size Vb Vc/\R (i+1))\/(e= .ret/\Ix Vc/\Vb.heap.size<=Vc.heap.size/\∀D,w.heap.size<=D->D<Vb.heap.size->Vc.heap[D]? =Vb.heap[D]?)) a1 Vb) {tmps:=(ps.zip (vl it).toArray).foldl (λt (p,v)=>t.setIfInBounds p v) a.tmps,defers:=[]} V)
  (hdone: ∀V,R items.length->Below w.heap.size w V->V.heap[w.heap.size]? =some (.deferred (some []))->Q .normal {a with defers:={target:= .collected w.heap.size,args:= #[]}::a.defers} V)
  (hstop: ∀V,Ix V->V.heap[w.heap.size]? =some (.deferred (some []))->(Code.ret).wpIn Fence.wide 0 P Q {a with defers:={target:= .collected w.heap.size,args:= #[]}::a.defers} V):
  (Code.rangeFunc fo ps assign body).wpIn Fence.wide 0 P Q a w:=by
 refine wpIn_rangeFunc λfn _=>?_;obtain⟨rec,hrec⟩: ∃rec:LoopState->Option Code->Loop,rec=λst pe=>{state:=st,pending:=pe,fn,tmps:=a.tmps,params:=ps,assign,body,defers:=w.heap.size}:=⟨_,rfl⟩;obtain⟨W1,hW1⟩: ∃W1,(w.alloc (.deferred (some []))).alloc (.loop (rec .ready none))=W1:=⟨_,rfl⟩;have hL1:W1.heap[w.heap.size+1]? =some (.loop (rec .ready none)):=by rw[<-hW1];exact MZ pP
 have hK1:W1.heap[w.heap.size]? =some (.deferred (some [])):=by rw[<-hW1];exact HO (MZ rfl)
 have hs1:W1.heap.size=w.heap.size+2:=by rw[<-hW1];simp
 have b1:Below w.heap.size w W1:=by rw[<-hW1];exact((Below.refl _ _).alloc (aOA _) _).alloc pP _
 let l:=w.heap.size+1
 let J:Nat->pZ->Prop:=λi V=>R i/\Below w.heap.size w V/\w.heap.size+2<=V.heap.size/\V.heap[w.heap.size]? =some (.deferred (some []))/\V.heap[l]? =some (.loop (rec .ready none))
 let Jx:pZ->Prop:=λV=>Ix V/\w.heap.size+2<=V.heap.size/\V.heap[w.heap.size]? =some (.deferred (some []))/\V.heap[l]? =some (.loop (rec .done (some .ret)))
 have hJo: ∀i V V',J i V->Below (w.heap.size+2) V V'->J i V':=λi V V' ⟨h1,h2,h3,h4,h5⟩ hb=>⟨h1,h2.trans (hb.mono pN),aOU h3 hb.size,(hb.block _ pN).trans h4,(hb.block _ aQA).trans h5⟩;have hJxo: ∀V V',Jx V->Below (w.heap.size+2) V V'->Jx V':=λV V' ⟨h1,h3,h4,h5⟩ hb=>⟨hIx _ _ h1 (hb.mono pN),aOU h3 hb.size,(hb.block _ pN).trans h4,(hb.block _ aQA).trans h5⟩;have hY: ∀i it V,items[i]? =some it->J i V->w.heap.size+2<=V.heap.size->YieldAt Fence.wide 0 P l (vl it).toArray V λe V'=>((e= .returned (.bool true)/\J (i+1) V')\/(e= .returned (.bool false)/\Jx V'))/\V.heap.size<=V'.heap.size/\∀D,w.heap.size+2<=D->D<V.heap.size->V'.heap[D]? =V.heap[D]? :=by
  rintro i it V hi ⟨h1,h2,h3,h4,h5⟩-;have hyl:=run_yield (P:=P) (args:=(vl it).toArray) h5 (by rw[hrec];exact hps it);rw[hrec] at hyl;refine⟨fn,_,assign,body,hyl,roundIn_of_wpIn trivial ?_⟩;refine aPw (hround l i it V hi h1 h2 h3) λe a1 Va hp=>?_;obtain⟨rfl,ha,hb⟩:=hp;have hla:Va.heap[l]? =some (.loop (rec .ready none)):=(ha.block _ (aOB.1 h5).1).trans h5;have hka:Va.heap[w.heap.size]? =some (.deferred (some [])):=(ha.block _ pN).trans h4;refine⟨_,run_beginRound hla (by rw[hrec]),?_⟩;obtain⟨Vb,hVb⟩: ∃Vb,Va.putObj l (.loop {rec .ready none with state:= .busy})=Vb:=⟨_,rfl⟩
  have hlt:=(aOB.1 hla).1;have hlb:Vb.heap[l]? =some (.loop {rec .ready none with state:= .busy}):=by rw[<-hVb];exact World.putObj_heap_same hlt
  have hkb:Vb.heap[w.heap.size]? =some (.deferred (some [])):=by rw[<-hVb];exact(World.putObj_heap_other aQB).trans hka
  have hsb:Vb.heap.size=Va.heap.size:=by rw[<-hVb];simp [World.putObj]
  have hob: ∀D,D≠l->Vb.heap[D]? =Va.heap[D]? :=λD hD=>by rw[<-hVb];exact World.putObj_heap_other hD
  have tH: ∀(X:pZ) (o:Obj),Below w.heap.size X (X.putObj l o):=λX o=>⟨rfl,rfl,rfl,by simp [World.putObj],λk hk=>World.putObj_heap_other aQC⟩;have hbb:Below w.heap.size Va Vb:=by rw[<-hVb];exact tH _ _
  rw[hVb];refine aPw (hb Vb (λD hD=>hob D aQD) hbb hsb) λe a2 Vc hq=>?_;have hva:=ha.size;rcases hq with⟨rfl,hc,hR⟩ |⟨rfl,hx,hcs,hck⟩
  .have hlc:Vc.heap[l]? =some (.loop {rec .ready none with state:= .busy}):=(hc.block _ aQA).trans hlb
   have hkc:Vc.heap[w.heap.size]? =some (.deferred (some [])):=(hc.block _ pN).trans hkb;have hltc:=(aOB.1 hlc).1;have hcz:=hc.size;refine⟨_,_,(by have:=run_endRound (P:=P) none hlc;rw[hrec] at this;exact this),.inl ⟨rfl,hR,?_,?_,?_,?_⟩,?_,?_⟩
   .exact((((h2.trans (ha.mono pN)).trans hbb).trans (hc.mono pN)).trans (tH _ _))
   .simp [World.putObj];omega
   .exact(World.putObj_heap_other aQB).trans hkc
   .have:=World.putObj_heap_same (o:= .loop (rec .ready none)) hltc;rw[hrec] at this;rw[hrec];exact this
   .simp [World.putObj];omega
   intro D h6 h7;rw[World.putObj_heap_other aQD,hc.block D pN,hob D aQD,ha.block D h7]
  have hlc:Vc.heap[l]? =some (.loop {rec .ready none with state:= .busy}):=(hck l (by show w.heap.size<=w.heap.size+1;omega) aQA).trans hlb
  have hkc:Vc.heap[w.heap.size]? =some (.deferred (some [])):=(hck _ pN pN).trans hkb;have hltc:=(aOB.1 hlc).1;refine⟨_,_,(by have:=run_endRound (P:=P) (some .ret) hlc;rw[hrec] at this;exact this),.inr ⟨rfl,hIx _ _ hx (tH _ _),?_,?_,?_⟩,?_,?_⟩
  .simp [World.putObj];omega
  .exact(World.putObj_heap_other aQB).trans hkc
  .have:=World.putObj_heap_same (o:= .loop (rec .done (some .ret))) hltc;rw[hrec] at this;rw[hrec];exact this
  .simp [World.putObj];omega
  intro D h6 h7;rw[World.putObj_heap_other aQD,hck D pN pN,hob D aQD,ha.block D h7]
 refine⟨l,[{target:= .collected w.heap.size,args:= #[]}],W1,{target:= .fn (.func gf) lb,args:= #[.func (.yield l) #[] #[]]},W1,gf,#[.func (.yield l) #[] #[]]++lb,W1,?_,?_,λ_ _=>trivial,?_,λh=>aQy,?_⟩
 .rw[<-hW1,hrec];exact run_enterLoop_outer _ _ _ _ _
 .simp only[resolve,hg];simp [go_sem]
 .simp [invoke,go_sem,eg]
 refine(callsIn_wide.2 (call l _ J Jx hJo hJxo hY W1 b1 pN ⟨h0,b1,pN,hK1,hL1⟩)).mono ?_;rintro e W2 ⟨⟨v,rfl⟩,(⟨h1,h2,h3,h4,h5⟩ |⟨h1,h3,h4,h5⟩)⟩
 .refine⟨none,W2.putObj l (.loop {rec .ready none with state:= .exhausted}),by have:=run_endLoop (P:=P) h5 (by rw[hrec];simp);rw[hrec] at this|-;exact this,?_⟩
  exact hdone _ h1 (h2.trans ⟨rfl,rfl,rfl,by simp [World.putObj],λk hk=>World.putObj_heap_other aQC⟩) ((World.putObj_heap_other aQB).trans h4)
 refine⟨some .ret,W2.putObj l (.loop {rec .done (some .ret) with state:= .exhausted}),by have:=run_endLoop (P:=P) h5 (by rw[hrec];simp);rw[hrec] at this|-;exact this,?_⟩
 exact hstop _ (hIx _ _ h1 ⟨rfl,rfl,rfl,by simp [World.putObj],λk hk=>World.putObj_heap_other aQC⟩) ((World.putObj_heap_other aQB).trans h4)
def HP (s:ByteArray) (off:Int):WP×Int:=match (A2 s).find? (λit=>decide (it.1=off)) with
 |some it=>(it,0)
 |none=>((0,0,0,()),2)
theorem Kb {R:Ending->pZ->Prop}{tmps:Array qA}{N:Nat}{V:pZ}{x y z k:Int}(hp:tmps[4]? =some (.pointer (some ⟨N+2,0,none⟩))) (hq:tmps[5]? =some (.pointer (some ⟨N+3,0,none⟩))) (hD:V.heap[N+4]? =some (.deferred (some [])))
  (b2:V.heap[N+2]? =some (.cells #[.int .i64 x,.int .i64 y,.int .i64 z] 90)) (b3:V.heap[N+3]? =some (.cells #[.int .i64 k] 30))
  (hR:R (.returned (.tuple #[.agg #[.int .i64 x,.int .i64 y,.int .i64 z],.int .i64 k])) (V.putObj (N+4) (.deferred none))):LeavesInM Fence.wide 0 prog Tryz.f147 tmps R [{target:= .collected (N+4),args:= #[]}] .returning V:=by
 refine⟨by simp,.inl ⟨N+4,_,rfl,run_takeDeferred hD,?_⟩⟩;have e2:(V.putObj (N+4) (.deferred none)).heap[N+2]? =some (.cells #[.int .i64 x,.int .i64 y,.int .i64 z] 90):=(World.putObj_heap_other pN).trans b2;have e3:(V.putObj (N+4) (.deferred none)).heap[N+3]? =some (.cells #[.int .i64 k] 30):=(World.putObj_heap_other pN).trans b3;refine⟨_,Jh (ts:=[(4,some 90),(5,some 30)]) rfl (vs:=[.agg #[.int .i64 x,.int .i64 y,.int .i64 z],.int .i64 k]) ?_,hR⟩;have c0:=Lib.cell_of_heap e2 0;have c1:=Lib.cell_of_heap e2 1;have c2:=Lib.cell_of_heap e2 2;have c3:=Lib.cell_of_heap e3 0;have hp':tmps.getD 4 undef= .pointer (some ⟨N+2,0,none⟩):=by simp [aOG,hp]
 have hq':tmps.getD 5 undef= .pointer (some ⟨N+3,0,none⟩):=by simp [aOG,hq]
 simp only[List.mapM_cons,List.mapM_nil,JS,C0,hp',hq',asAddr];simp [go_sem,c0,c1,c2,c3]
theorem aAb (s:ByteArray) (hs:s.size<=4611686018427387904) (off:Int) (W:pZ):
  Calls prog 147 #[.string s,.int .i64 off] W λe W'=>Below W.heap.size W W'/\e= .returned (.tuple #[.agg #[.int .i64 (HP s off).1.1,.int .i64 (HP s off).1.2.1,.int .i64 (HP s off).1.2.2.1],.int .i64 (HP s off).2]):=by
 refine(callsIn_wide (n:=0)).1 (callsIn_of_wp_marks func147 rfl trivial ?_);simp only[Tryz.ntmps147,aPg,aOe,aOh,Nat.reduceAdd,Nat.reduceSub,Array.replicate_succ,Array.replicate_zero,List.push_toArray,List.append_toArray,List.nil_append,List.cons_append]
 gi_wp2
 obtain⟨w,hw⟩: ∃w,(((W.alloc (Obj.cells #[Value.string s] 9)).alloc (Obj.cells #[Value.int IntKind.i64 off] 3)).alloc (Obj.cells #[Value.int IntKind.i64 0,Value.int IntKind.i64 0,Value.int IntKind.i64 0] 90)).alloc (Obj.cells #[Value.int IntKind.i64 0] 30)=w:=⟨_,rfl⟩;have hsz:w.heap.size=W.heap.size+4:=by rw[<-hw];simp
 have hbw:Below W.heap.size W w:=by rw[<-hw];exact((((Below.refl _ _).alloc (aOA _) _).alloc pP _).alloc pQ _).alloc pQ _
 have k0:w.heap[W.heap.size]? =some (.cells #[.string s] 9):=by rw[<-hw];exact HO (HO (HO (MZ rfl)))
 have k1:w.heap[W.heap.size+1]? =some (.cells #[.int .i64 off] 3):=by rw[<-hw];exact HO (HO (MZ pP))
 have k2:w.heap[W.heap.size+2]? =some (.cells #[.int .i64 0,.int .i64 0,.int .i64 0] 90):=by rw[<-hw];exact HO (MZ pP)
 have k3:w.heap[W.heap.size+3]? =some (.cells #[.int .i64 0] 30):=by rw[<-hw];exact MZ pP
 rw[hw];simp only[aOX,Nat.reduceAdd];clear hw;generalize hN:W.heap.size=N at*;refine aAa (gf:=200) (lb:= #[.pointer (some ⟨N,0,none⟩)]) rfl (λ_ _=>rfl) (items:=A2 s) (vl:=SC) (λ_=>rfl) ?call (λi=> ∀j it,j<i->(A2 s)[j]? =some it->it.1≠off) (λ_ _ h=>absurd h (Nat.not_lt_zero _))
  (λV=> ∃it,(A2 s).find? (λit=>decide (it.1=off))=some it/\Below N W V/\V.heap[N+2]? =some (.cells #[.int .i64 it.1,.int .i64 it.2.1,.int .i64 it.2.2.1] 90)/\V.heap[N+3]? =some (.cells #[.int .i64 0] 30)) ?ix ?round ?done ?stop
 case call=>
  intro l n0 J Jx hJ hJx hY V hV hn h0;have hcl:V.cell? ⟨N,0,none⟩=some (.string s):=Lib.cell_of_heap ((hV.block N pN).trans k0) 0;exact a99 s hs l n0 J Jx hJ hJx hY V hn h0 N 0 hcl
 case ix=>
  rintro V V' ⟨it,h1,h2,h3,h4⟩ hb;exact⟨it,h1,h2.trans (hb.mono pN),(hb.block _ pN).trans h3,(hb.block _ pN).trans h4⟩
 case round=>
  intro l i it V hi hR hb hz;dsimp only[SC];simp only[List.zip_toArray,List.zip_cons_cons,List.zip_nil_right,List.foldl_toArray,List.foldl_cons,List.foldl_nil]
  gi_wp2
  refine⟨(Below.refl _ _).alloc (aOA _) _,λVb h1 h2 h3=>?_⟩;have hbV:Below (N+4) w Vb:=((hsz▸hb:Below (N+4) w V).trans ((Below.refl _ _).alloc pN _)).trans h2;have c6:Vb.heap[V.heap.size]? =some (.cells #[.int .i64 it.1,.int .i64 it.2.1,.int .i64 it.2.2.1] 90):=(h1 _ (aOA _)).trans (MZ rfl);have c60:Vb.cell? ⟨V.heap.size,0,none⟩=some (.int .i64 it.1):=Lib.cell_of_heap c6 0;have c61:Vb.cell? ⟨V.heap.size,1,none⟩=some (.int .i64 it.2.1):=Lib.cell_of_heap c6 1;have c62:Vb.cell? ⟨V.heap.size,2,none⟩=some (.int .i64 it.2.2.1):=Lib.cell_of_heap c6 2;have b2:=(hbV.block (N+2) pN).trans k2;have b3:=(hbV.block (N+3) pN).trans k3;have c10:Vb.cell? ⟨N+1,0,none⟩=some (.int .i64 off):=Lib.cell_of_heap ((hbV.block (N+1) pN).trans k1) 0;have f20:Vb.frozen? ⟨N+2,0,none⟩=false:=EG b2 0;have f21:Vb.frozen? ⟨N+2,1,none⟩=false:=EG b2 1;have f22:Vb.frozen? ⟨N+2,2,none⟩=false:=EG b2 2;have f30:Vb.frozen? ⟨N+3,0,none⟩=false:=EG b3 0;have c20:Vb.cell? ⟨N+2,0,none⟩=some (.int .i64 0):=Lib.cell_of_heap b2 0;have c21:Vb.cell? ⟨N+2,1,none⟩=some (.int .i64 0):=Lib.cell_of_heap b2 1;have c22:Vb.cell? ⟨N+2,2,none⟩=some (.int .i64 0):=Lib.cell_of_heap b2 2;have c30:Vb.cell? ⟨N+3,0,none⟩=some (.int .i64 0):=Lib.cell_of_heap b3 0;clear h1 h2 k0 k1 k2 k3 c6;by_cases he:it.1=off
  .have hed:decide (it.1=off)=true:=aO4 he;have hfind:(A2 s).find? (λit=>decide (it.1=off))=some it:=by
    rw[List.find?_eq_some_iff_getElem];obtain⟨hl,hg⟩:=aOw.1 hi;exact⟨hed,i,hl,hg,λj hj=>by
     have:=hR j _ hj (aOn (Nat.lt_trans hj hl));simpa using this⟩
   gi_wp2
   subst he;obtain⟨p1,p2,p3,p4⟩:=it;refine⟨⟨p1,p2,p3,⟨_,rfl⟩,?_,?_,?_⟩,?_⟩
   .exact(((((hbw.trans (hbV.mono pN)).setCell pP _).setCell pP _).setCell pP _).setCell pP _)
   .rw[Go.Deep.blk_setCell_other _ _ _ _ pP];exact D0 (D0 (D0 b2 0 _) 1 _) 2 _
   .refine D0 (arr:= #[.int .i64 0]) ?_ 0 (.int .i64 0);rw[Go.Deep.blk_setCell_other _ _ _ _ pP,Go.Deep.blk_setCell_other _ _ _ _ pP,Go.Deep.blk_setCell_other _ _ _ _ pP];exact b3
   intro D h1 h2;rw[Go.Deep.blk_setCell_other _ _ _ _ pQ,Go.Deep.blk_setCell_other _ _ _ _ pQ,Go.Deep.blk_setCell_other _ _ _ _ pQ,Go.Deep.blk_setCell_other _ _ _ _ pQ]
  have hed:decide (it.1=off)=false:=decide_eq_false he
  gi_wp2
  refine⟨Below.refl _ _,λj a b c d hj hg=>?_⟩;rcases aPs j i with h|h
  .exact hR j _ h hg
  obtain rfl:j=i:=by omega
  rw[hi] at hg;cases hg;exact he
 case done=>
  intro V hR hb hD;have hbV:Below (N+4) w V:=hsz▸hb;have b2:=(hbV.block (N+2) pN).trans k2;have b3:=(hbV.block (N+3) pN).trans k3;have f20:V.frozen? ⟨N+2,0,none⟩=false:=EG b2 0;have f21:V.frozen? ⟨N+2,1,none⟩=false:=EG b2 1;have f22:V.frozen? ⟨N+2,2,none⟩=false:=EG b2 2;have f30:V.frozen? ⟨N+3,0,none⟩=false:=EG b3 0;have c20:V.cell? ⟨N+2,0,none⟩=some (.int .i64 0):=Lib.cell_of_heap b2 0;have c21:V.cell? ⟨N+2,1,none⟩=some (.int .i64 0):=Lib.cell_of_heap b2 1;have c22:V.cell? ⟨N+2,2,none⟩=some (.int .i64 0):=Lib.cell_of_heap b2 2;have c30:V.cell? ⟨N+3,0,none⟩=some (.int .i64 0):=Lib.cell_of_heap b3 0;have hnone:(A2 s).find? (λit=>decide (it.1=off))=none:=by
   rw[List.find?_eq_none];intro it hit;obtain⟨j,hj,rfl⟩:=aPD hit;simpa using hR j _ hj (aOn hj)
  have hat:HP s off=((0,0,0,()),2):=by unfold HP;rw[hnone]
  dsimp only;have hDV:V.heap[N+4]? =some (.deferred (some [])):=hsz▸hD;rw[hsz]
  gi_wp2
  have z2:=D0 (D0 (D0 b2 0 (.int .i64 0)) 1 (.int .i64 0)) 2 (.int .i64 0);have hfin:Below N W ((((V.setCell ⟨N+2,0,none⟩ (.int .i64 0)).setCell ⟨N+2,1,none⟩ (.int .i64 0)).setCell ⟨N+2,2,none⟩ (.int .i64 0)).setCell ⟨N+3,0,none⟩ (.int .i64 2)):=((((hbw.trans (hbV.mono (Nat.le_add_right _ _))).setCell (Nat.le_add_right N 2) _).setCell (Nat.le_add_right N 2) _).setCell (Nat.le_add_right N 2) _).setCell (Nat.le_add_right N 3) _;refine Kb (N:=N) (x:=0) (y:=0) (z:=0) (k:=2) rfl rfl ?_ ?_ ?_ ?_
  .rw[Go.Deep.blk_setCell_other _ _ _ _ pP,Go.Deep.blk_setCell_other _ _ _ _ pP,Go.Deep.blk_setCell_other _ _ _ _ pP,Go.Deep.blk_setCell_other _ _ _ _ pP];exact hDV
  .rw[Go.Deep.blk_setCell_other _ _ _ _ pP];exact z2
  .refine D0 (arr:= #[.int .i64 0]) ?_ 0 (.int .i64 2);rw[Go.Deep.blk_setCell_other _ _ _ _ pP,Go.Deep.blk_setCell_other _ _ _ _ pP,Go.Deep.blk_setCell_other _ _ _ _ pP];exact b3
  rw[hat];exact⟨by rw[hN];exact Ka hfin,rfl⟩
 case stop=>
  rintro V ⟨it,hf,hb,b2,b3⟩ hD;have hat:HP s off=(it,0):=by unfold HP;rw[hf]
  have c20:V.cell? ⟨N+2,0,none⟩=some (.int .i64 it.1):=Lib.cell_of_heap b2 0;have c21:V.cell? ⟨N+2,1,none⟩=some (.int .i64 it.2.1):=Lib.cell_of_heap b2 1;have c22:V.cell? ⟨N+2,2,none⟩=some (.int .i64 it.2.2.1):=Lib.cell_of_heap b2 2;have c30:V.cell? ⟨N+3,0,none⟩=some (.int .i64 0):=Lib.cell_of_heap b3 0;have hDV:V.heap[N+4]? =some (.deferred (some [])):=hsz▸hD;rw[hsz]
  gi_wp2
  refine Kb (N:=N) rfl rfl hDV b2 b3 ?_;rw[hat];exact⟨by rw[hN];exact Ka hb,rfl⟩
end
def de (s:pJ) (n:Int):WP×Int:=HP ⟨s.toArray⟩ n
@[go_sem] def uf:List qP->List qQ->Option r9
 |[(.val .str O,none),(.val (.int .i64) a8,none)],[]=>some ⟨[List.length O<=4611686018427387904],[(.val (.pair (.int .i64) (.pair (.int .i64) (.pair (.int .i64) .unit))) (de O a8).1,none),(.val (.int .i64) (de O a8).2,none)],[]⟩
 |_,_=>none
theorem aAc:z7 prog 147 uf:=by
 refine FF (λ_ _=>rfl) λg w args vals L r hT ha hC hs=>?_;unfold uf at hC;split at hC
 .rename_i s n;cases hC;have h1:List.length s<=4611686018427387904:=hs _ aOz;obtain⟨va,_,rfl,ra,vb,_,rfl,rb,hv⟩:=ha;obtain rfl:=xX ra.1;obtain rfl:=vK rb.1;cases hv;refine⟨rfl,rfl,(aAb ⟨s.toArray⟩ (show s.toArray.size<=_ by rw[aPg];exact h1) n w).mono λe w' ⟨hb,he⟩=>⟨_,he,hb,?_⟩⟩;refine⟨[_,_],rfl,_,_,rfl,⟨.inl ⟨rfl,[_,_,_],rfl,[_],[_,_],rfl,rfl,[_],[_],rfl,rfl,[_],[],rfl,rfl,rfl⟩,trivial⟩,_,_,rfl,⟨wU _ _ _ _,trivial⟩,rfl⟩
 cases hC
end Go.Proofs.YtedimeeleabhnaaGreatDoor
namespace Go.Proofs.YtedimeeleabhnaaGreatDoor
open Vc Go.RowKit
end Go.Proofs.YtedimeeleabhnaaGreatDoor
namespace Go.Proofs.YtedimeeleabhnaaGreatDoor.Vc
open Go.RowKit
@[go_sem] def ug:pW->pY
  |some (i,_)=>[i]
  |none=>[]
@[go_sem] def Kc:Option (Nat×pT)->pY
  |some (_,l)=>fsts l
  |none=>[]
where
  fsts:pT->pY
    |[]=>[]
    |(i,_)::r=>i::fsts r
attribute [go_sem] Kc.fsts
@[go_sem] def idO:pX->pY
  |some i=>[i]
  |none=>[]
@[go_sem] def Kd:pY->pY->pY
  |[],l=>l
  |a::r,l=>a::Kd r l
@[go_sem] def SD:(t:Ty)->t.den->pY
  | .ref,x=>ug x
  | .clo,x=>Kc x
  | .mp,x=>idO x
  | .pair a b,x=>Kd (SD a x.1) (SD b x.2)
  | .rl _ _,x=>ug x
  | .mref,x=>ug x
  | .list _,_=>[]
  | .bool,_=>[]
  | .int _,_=>[]
  | .str,_=>[]
  | .unit,_=>[]
  | .fn,_=>[]
  | .part,_=>[]
@[go_sem] def uh:pY->pY->pT->pT
  |a::r,b::s,l=>(a,b)::uh r s l
  |_,_,l=>l
@[go_sem] def ui:pX->pX->pT->pT
  |some a,some b,l=>(a,b)::l
  |_,_,l=>l
@[go_sem] def uj (l:pT):qP->qP->pT
  |(.own k _,_),(.own j _,_)=>(k,j)::l
  |(.val t x,a),(.val u y,b)=>ui a b (uh (SD t x) (SD u y) l)
  |(.val t x,a),(.own j _,_)=>ui a (some j) l
  |_,_=>l
@[go_sem] def Ke (l:pT):pT->pT->pT
  |[],_=>l
  |(q,a)::r,s=>ui (some a) (xK s q) (Ke l r s)
@[go_sem] def aAe (l:pT):Option qQ->Option qQ->pT
  |some (.cells t x a),some (.cells u y b)=>Ke (uh (SD t x) (SD u y) l) a b
  |_,_=>l
@[go_sem] def uk (n:Nat):pT->Bool
  |[]=>false
  |(a,_)::r=>if a=n then true else uk n r
@[go_sem] def ul:Bool->pT->pT->pT
  |true,l,_=>l
  |false,_,l=>l
@[go_sem] def um (H J:List (Nat×qQ)):Nat->pT->pT->pT
  |0,_,d=>d
  |_+1,[],d=>d
  |f+1,(a,b)::r,d=>um H J f (ul (uk a d) r (aAe r (qU H a) (qU J b))) (ul (uk a d) d ((a,b)::d))
@[go_sem] def Kf (e:List (Nat×qP)):List (Nat×qP)->pT
  |[]=>[]
  |(t,s)::r=>uj (Kf e r) s (lk e t)
@[go_sem] def df (np:Nat) (l:pT):List (Nat×qQ)->pT
  |[]=>l
  |(i,_)::r=>ul (decide (i<np)) ((i,i)::df np l r) (df np l r)
@[go_sem] def WQ (m:pT):List (Nat×qQ)->pT
  |[]=>[]
  |(i,_)::r=>idsZ1 i (look i m) (WQ m r)
where
  look (i:Nat):pT->pX
    |[]=>none
    |(a,b)::r=>if a=i then some b else look i r
  idsZ1 (i:Nat):pX->pT->pT
    |some j,l=>(i,j)::l
    |none,l=>l
attribute [go_sem] WQ.look WQ.idsZ1
@[go_sem] def Kg:List (Nat×qP)->pY
  |[]=>[]
  |(t,_)::r=>t::Kg r
@[go_sem] def aAf (s s':St):uA:=⟨Kg s'.env,WQ (um s'.H s.H 200 (df s.np (Kf s.env s'.env) s'.H) []) s'.H⟩
@[go_sem] def dg (T:sJ) (s:St):List (Nat×Option TypeId)->List qP->pT->pT
  |(t,none)::r,x::y,l=>uj (dg T s r y l) x (lk s.env t)
  |(t,some u)::r,x::y,l=>uj (dg T s r y l) x (sOf (sj (WI s.H (s4 T u) (lk s.env t))))
  |_,_,l=>l
where
  sOf:Option qP->qP
    |some x=>x
    |none=>(.any,none)
attribute [go_sem] dg.sOf
@[go_sem] def Kh (T:sJ) (ts:List (Nat×Option TypeId)) (q:r9) (s:St):pT:=
  WQ (um (tD 0 q.H) s.H 200 (df s.np (dg T s ts q.ret []) (tD 0 q.H)) []) (tD 0 q.H)
def Gl {α:Type}(x r:α) (G:Prop):Prop:=x=r->G
section
variable {ρ:Type}{r:ρ}{G:Prop}
theorem aAg {p:Prop}[Decidable p] {x:Option ρ}{r:Option ρ}(hr:r.isSome=true) (h:p->Gl x r G):Gl (if p then x else none) r G:=by
  intro e;split at e
  .rename_i hp;exact h hp e
  subst e;cases hr
theorem aAh {σ:Type}[Inhabited σ] {y:Option σ}{k:σ->Option ρ}{r:ρ}(h: ∀v,y.isSome=true->val y=v->Gl (k v) (some r) G):Gl (y.bind k) (some r) G:=by
  intro e;obtain⟨v,h1,h2,h3⟩:=AL e;exact h v (AK h1) h2 h3
theorem aAi {σ:Type}[Inhabited σ] {y:Option σ}{k:σ->Option ρ}{z:ρ}{u:σ}(hw:val y=u) (h:y.isSome=true->Gl (k u) (some z) G):Gl (y.bind k) (some z) G:=λe=>by
  obtain⟨v,h1,h2,h3⟩:=AL e;subst hw;exact h (AK h1) (h2▸h3)
theorem aAj {α σ:Type}{y:σ}{k:σ->α}{r:α}(h: ∀v,y=v->Gl (k v) r G):Gl (WH y k) r G:=λe=>h y rfl e
theorem aAk {r:ρ}:Gl none (some r) G:=λe=>by cases e
def EH {σ τ α:Type}(f:σ->α) (g:τ->α):σ⊕τ->α
  | .inl v=>f v
  | .inr v=>g v
theorem aAl {σ:Type}{x:Option (σ⊕ρ)}{k:σ->Option ρ}{r:Option ρ}(h:Gl (rD x (EH k some)) r G):Gl (sK x k) r G:=λe=>h (e▸(by
  cases x with
  |none=>rfl
  |some v=>cases v<;>rfl))
theorem aAm {σ τ α:Type}{f:σ->α}{g:τ->α}{v:σ}{r:α}(h:Gl (f v) r G):Gl (EH f g (.inl v)) r G:=h
theorem aAn {σ τ α:Type}{f:σ->α}{g:τ->α}{v:τ}{r:α}(h:Gl (g v) r G):Gl (EH f g (.inr v)) r G:=h
theorem aAo {σ:Type}{v:σ}{k:σ->Option ρ}{r:Option ρ}(h:Gl (k v) r G):Gl (rD (some v) k) r G:=h
theorem dh {σ:Type}{c:Prop}[Decidable c] {x y:Option σ}{k:σ->Option ρ}{r:Option ρ}(h:Gl (if c then rD x k else rD y k) r G):Gl (rD (if c then x else y) k) r G:=by
  intro e;apply h;split at e<;>(rename_i hc;simp only[hc,aPl,aPq];exact e)
theorem aAp {σ:Type}{c:Prop}[Decidable c] {x:Option σ}{k:σ->Option ρ}{r:Option ρ}(h:Gl (if c then rD x k else none) r G):Gl (rD (if c then x else none) k) r G:=dh h
theorem aAq {σ:Type}{k:σ->Option ρ}{r:ρ}:Gl (rD none k) (some r) G:=λe=>by cases e
theorem aAr {σ τ:Type}{y:Option τ}{j:τ->Option σ}{k:σ->Option ρ}{r:Option ρ}(h:Gl (y.bind λv=>rD (j v) k) r G):Gl (rD (y.bind j) k) r G:=by
  intro e;apply h;cases y with
  |none=>exact e
  |some v=>exact e
theorem aAs {σ τ:Type}{y:Option τ}{j:τ->Option σ}{k:σ->Option ρ}{r:Option ρ}(h:Gl (rD y λv=>rD (j v) k) r G):Gl (rD (rD y j) k) r G:=by
  intro e;apply h;cases y with
  |none=>exact e
  |some v=>exact e
theorem aAt {σ τ:Type}{y:τ}{j:τ->Option σ}{k:σ->Option ρ}{r:Option ρ}(h:Gl (WH y λv=>rD (j v) k) r G):Gl (rD (WH y j) k) r G:=h
theorem aAu {σ τ:Type}{y:Option (τ⊕σ)}{j:τ->Option σ}{k:σ->Option ρ}{r:Option ρ}(h:Gl (rD y (EH (λv=>rD (j v) k) k)) r G):Gl (rD (sK y j) k) r G:=λe=>h (e▸(by
  cases y with
  |none=>rfl
  |some v=>cases v<;>rfl))
end
section
variable {P:Program}{T:sJ}{Γ:tV}{R:Bool}{s:St}{Q:Ex->St->Prop}{α ρ:Type}{r x:α}
theorem aAv {c y:Code}(h:Gl x r (Ev R P c s (HB (λs'=>Ev R P y s' Q) Q))):Gl x r (Ev R P (.seq c y) s Q):=λe=>tW (h e)
theorem aAw {id:Nat}{c:Code}(h:Gl x r (Ev R P c s (DT id Q))):Gl x r (Ev R P (.block id c) s Q):=λe=>xE (h e)
theorem aAx (h:Gl x r (Q .normal s)):Gl x r (Ev R P .skip s Q):=λe=>vQ (h e)
theorem aAy {l:Nat}(h:Gl x r (Q .normal s)):Gl x r (Ev R P (.label l) s Q):=λe=>a83 (h e)
theorem aAz {c:Code}(h:Gl x r (Ev false P c s Q)):Gl x r (Ev false P (.scope c) s Q):=λe=>a85 (h e)
theorem aAA {id:Nat}(h:Gl x r (Q (.exit id) s)):Gl x r (Ev R P (.exit id) s Q):=λe=>EB (h e)
theorem aAB (h:Gl x r (Q .ret s)):Gl x r (Ev R P .ret s Q):=λe=>EC (h e)
def Ki (s:St) (c:Operand) (b':Bool):Prop:= ∃b k,tB s.env c=(.val .bool b,k)/\b=b'
theorem aAC {c:Operand}{b b':Bool}{k:pX}(h:tB s.env c=(.val .bool b,k)) (hb:b=b'):Ki s c b':=⟨b,k,h,hb⟩
theorem aAD {c:Operand}{y z:Code}{b':Bool}{X Y:α}(h:Ki s c b') (ht:b'=true->Gl X r (Ev R P y s Q)) (hf:b'=false->Gl Y r (Ev R P z s Q)):Gl (if b'=true then X else Y) r (Ev R P (.cond c y z) s Q):=by
  intro e;obtain⟨b,k,h,hb⟩:=h;exact Is h (λh1=>ht (hb▸h1) (Jb e (hb▸h1))) (λh1=>hf (hb▸h1) (Jc e (hb▸h1)))
theorem aAE {c:Operand}{y z:Code}{p q:Prop}{k:pX}(ht:p->Gl x r (Ev R P y s Q)) (hf:q->Gl x r (Ev R P z s Q))
    (h:tB s.env c=(.flag p q,k):=by simp only[go_sem];rfl):Gl x r (Ev R P (.cond c y z) s Q):=λe=>a84 h (λh1=>ht h1 e) (λh1=>hf h1 e)
theorem uo {p:Prop}[Decidable p] {X Y:α}{G:Prop}(ht:p->Gl X r G) (hf: ¬p->Gl Y r G):Gl (if p then X else Y) r G:=by
  intro e;split at e
  .rename_i h;exact ht h e
  rename_i h;exact hf h e
structure CJ (l:List Prop):Prop where
  h:vB l
theorem Kj:CJ []:=⟨trivial⟩
theorem Kk {p:Prop}(h:p):CJ [p]:=⟨h⟩
theorem Kl {p q:Prop}{l:List Prop}(h:p) (h2:CJ (q::l)):CJ (p::q::l):=⟨h,h2.h⟩
theorem N0 (E:wY P T Γ) {id:Nat}{ops:Array Oper}{a:uR}{y:Code}(h:tR T Γ ops.toList ops.toList (some ⟨s,[],[]⟩)=some a) (hp:CJ a.side) (hq:Gl x r (Ev R P y a.s Q)):Gl x r (Ev R P (.seq (.region id ops false) y) s Q):=
  λe=>tW (co E h hp.h (hq e))
theorem N1 (E:wY P T Γ) {id:Nat}{ops:Array Oper}{a:uR}{y:Code}(h:tR T Γ ops.toList ops.toList (some ⟨s,[],[]⟩)=some a) (hp:CJ a.side) (hf:JJ ops s.nb a.es.reverse=true) (hq:Gl x r (Ev R P y a.s Q)):Gl x r (Ev R P (.seq (.region id ops true) y) s Q):=
  λe=>tW (sh E h hf hp.h (hq e))
theorem N2 (E:wY P T Γ) {id:Nat}{ops:Array Oper}{a:uR}(h:tR T Γ ops.toList ops.toList (some ⟨s,[],[]⟩)=some a) (hp:CJ a.side) (hq:Gl x r (Q .normal a.s)):Gl x r (Ev R P (.region id ops false) s Q):=
  λe=>co E h hp.h (hq e)
theorem N3 (E:wY P T Γ) {id:Nat}{ops:Array Oper}{a:uR}(h:tR T Γ ops.toList ops.toList (some ⟨s,[],[]⟩)=some a) (hp:CJ a.side) (hf:JJ ops s.nb a.es.reverse=true) (hq:Gl x r (Q .normal a.s)):Gl x r (Ev R P (.region id ops true) s Q):=
  λe=>sh E h hf hp.h (hq e)
theorem SE {c:Code}(k:Nat) {e:TypeId}{t:Ty}{l:List t.den}{n:Nat}(hk:qU s.H k=some (.row e t l n)) (hok:WF k n s.env)
    (h:Gl x r (Ev R P c ⟨MT k t l s.env,(k,.grow e t.cells (List.length l))::s.H,s.nb,s.N,s.np⟩ Q)):Gl x r (Ev R P c s Q):=λe=>Iw k hk hok (h e)
theorem aAF (i:Nat) {k:Nat}{o:pX}{e:TypeId}{t:Ty}{l:List t.den}{n m:Nat}(h0:lk s.env i=(.own k m,o)) (hk:qU s.H k=some (.row e t l n)) (hok:WF k n s.env)
    (h:Gl x r (Ev R P .ret ⟨MT k t l s.env,(k,.grow e t.cells (List.length l))::s.H,s.nb,s.N,s.np⟩ Q)):Gl x r (Ev R P .ret s Q):=λe=>Iw k hk hok (h e)
theorem aAG {f:St->Prop}(h:Gl x r (f s)):Gl x r (HB f Q .normal s):=h
theorem aAH {f:St->Prop}{j:Nat}(h:Gl x r (Q (.exit j) s)):Gl x r (HB f Q (.exit j) s):=h
theorem aAI {f:St->Prop}(h:Gl x r (Q .ret s)):Gl x r (HB f Q .ret s):=h
theorem aAJ {id:Nat}(h:Gl x r (Q .normal s)):Gl x r (DT id Q .normal s):=h
theorem aAK {id:Nat}(h:Gl x r (Q .normal s)):Gl x r (DT id Q (.exit id) s):=λe=>E7 (h e)
theorem aAL {id j:Nat}(h:Gl x r (Q (.exit j) s)) (hne:Nat.beq j id=false):Gl x r (DT id Q (.exit j) s):=λe=>a80 (Nat.ne_of_beq_eq_false hne) (h e)
theorem aAM {id:Nat}(h:Gl x r (Q .ret s)):Gl x r (DT id Q .ret s):=h
end
section
variable {P:Program}{T:sJ}{R:Bool}{s:St}{Q:Ex->St->Prop}{σ τ ρ:Type}{r:ρ}
theorem aAN {c:Prop}[Decidable c] {X Y:Option σ}{k:σ->Option ρ}{o:Operand}{y z:Code}{r:Option ρ}(h:Gl (if c then rD X k else rD Y k) r (Ev R P (.cond o y z) s Q)):Gl (rD (if c then X else Y) k) r (Ev R P (.cond o y z) s Q):=dh h
def qR (enc:σ->St) (w:σ⊕τ) (K:τ->Option ρ) (r:ρ) (Q:Ex->St->Prop):Ex->St->Prop
  | .normal,s=> ∃(k:uA) (x:σ),s.keep k=enc x/\w= .inl x
  | .exit j,s=> ∃y,w= .inr y/\Gl (K y) (some r) (Q (.exit j) s)
  | .ret,s=> ∃y,w= .inr y/\Gl (K y) (some r) (Q .ret s)
structure LE {σ τ:Type}(f:σ->Option (σ⊕τ)) where
  e:σ->St
structure JE (n:Nat) (σ:Type) where
  e:σ->St
structure XE {σ τ:Type}(f:σ->Option (σ⊕τ)) (n:Nat) (υ:Type) where
  e:υ->St
theorem HR {f:σ->Option (σ⊕τ)}{x0:σ}{K:τ->Option ρ}{c:Code}(l:LE f) (h0: ∃k:uA,s.keep k=l.e x0)
    (round: ∀x w g s',f x=g->l.e x=s'->Gl g (some w) (Ev R P c s' (qR l.e w K r Q))):Gl (rD (rC f x0) K) (some r) (Ev R P (.loop c) s Q):=by
  intro e;obtain⟨y,hy,hk⟩:=qK e;obtain⟨k,h0⟩:=h0;refine ED hy l.e k h0 λx w n hf hN=>?_;refine MR (round x w _ _ rfl rfl hf) λex s' hq=>?_;cases ex with
  |normal=>obtain⟨k,x',h1,rfl⟩:=hq;exact⟨k,x',h1,hN⟩
  |exit j=>obtain⟨y',rfl,h1⟩:=hq;have:y'=y:=hN;subst this;exact h1 hk
  |ret=>obtain⟨y',rfl,h1⟩:=hq;have:y'=y:=hN;subst this;exact h1 hk
theorem JV {f:σ->Option (σ⊕ρ)}{x0:σ}{c:Code}(l:LE f) (h0: ∃k:uA,s.keep k=l.e x0)
    (round: ∀x w g s',f x=g->l.e x=s'->Gl g (some w) (Ev R P c s' (qR l.e w some r Q))):Gl (rC f x0) (some r) (Ev R P (.loop c) s Q):=λe=>HR l h0 round (by rw[e];rfl)
theorem A3 {s s':St}{k:uA}(hk:aAf s s'=k:=by simp (zetaDelta:=true) only[go_sem];rfl) (h:s.keep k=s':=by rfl): ∃k:uA,s.keep k=s':=⟨k,h⟩
theorem aAO {enc:σ->St}{w:σ⊕τ}{K:τ->Option ρ}{x':σ}(h: ∃k:uA,s.keep k=enc x'):Gl (some (.inl x')) (some w) (qR enc w K r Q .normal s):=λe=>h.elim λk h=>⟨k,x',h,(aOj e).symm⟩
theorem aAP {enc:σ->St}{w:σ⊕τ}{K:τ->Option ρ}{y:τ}{j:Nat}(h:Gl (K y) (some r) (Q (.exit j) s)):Gl (some (.inr y)) (some w) (qR enc w K r Q (.exit j) s):=λe=>⟨y,(aOj e).symm,h⟩
theorem aAQ {enc:σ->St}{w:σ⊕τ}{K:τ->Option ρ}{y:τ}(h:Gl (K y) (some r) (Q .ret s)):Gl (some (.inr y)) (some w) (qR enc w K r Q .ret s):=λe=>⟨y,(aOj e).symm,h⟩
def SF {υ ρ:Type}(enc:υ->St) (w:υ⊕ρ) (s:St):Prop:= ∃v,w= .inl v/\∃k:uA,s.keep k=enc v
def SG (enc:σ->St) (w:σ) (s:St):Prop:= ∃k:uA,s.keep k=enc w
def qJ (N:σ->St->Prop) (w:σ) (K:σ->Option ρ) (r:ρ) (Q:Ex->St->Prop):Ex->St->Prop
  | .normal,s=>N w s
  | .exit j,s=>Gl (K w) (some r) (Q (.exit j) s)
  | .ret,s=>Gl (K w) (some r) (Q .ret s)
theorem aAR {enc:σ->St}{w x':σ}{K:σ->Option ρ}(h: ∃k:uA,s.keep k=enc x'):Gl (some x') (some w) (qJ (SG enc) w K r Q .normal s):=λe=>by cases e;exact h
theorem aAS {υ:Type}{enc:υ->St}{w:υ⊕ρ}{x':υ}{K:υ⊕ρ->Option ρ}(h: ∃k:uA,s.keep k=enc x'):Gl (some (.inl x')) (some w) (qJ (SF enc) w K r Q .normal s):=λe=>by cases e;exact⟨x',rfl,h⟩
theorem aAT {N:σ->St->Prop}{w x':σ}{K:σ->Option ρ}{j:Nat}(h:Gl (K x') (some r) (Q (.exit j) s)):Gl (some x') (some w) (qJ N w K r Q (.exit j) s):=λe=>by cases e;exact h
theorem aAU {N:σ->St->Prop}{w x':σ}{K:σ->Option ρ}(h:Gl (K x') (some r) (Q .ret s)):Gl (some x') (some w) (qJ N w K r Q .ret s):=λe=>by cases e;exact h
theorem Km {c:Code}{X:Option σ}{K:σ->Option ρ}(enc:σ->St) (seg: ∀w,Gl X (some w) (Ev R P c s (qJ (SG enc) w K r Q)))
    (next: ∀x s' g,enc x=s'->K x=g->Gl g (some r) (Q .normal s')):Gl (rD X K) (some r) (Ev R P c s Q):=by
  intro e;obtain⟨y,h1,h2⟩:=qK e;refine S4 (λs'=>s'=enc y) (MR (seg y h1) λex s' hq=>?_) λs' hs=>next y s' _ hs.symm rfl h2
  cases ex with
  |normal=>exact hq
  |exit j=>exact hq h2
  |ret=>exact hq h2
theorem Kn {υ:Type}{c:Code}{X:Option (υ⊕ρ)}{K:υ->Option ρ}(enc:υ->St) (seg: ∀w,Gl X (some w) (Ev R P c s (qJ (SF enc) w (EH K some) r Q)))
    (next: ∀x s' g,enc x=s'->K x=g->Gl g (some r) (Q .normal s')):Gl (rD X (EH K some)) (some r) (Ev R P c s Q):=by
  intro e;obtain⟨y,h1,h2⟩:=qK e;refine S4 (λs'=> ∃v,y= .inl v/\s'=enc v) (MR (seg y h1) λex s' hq=>?_) λs' ⟨v,hv,hs⟩=>next v s' _ hs.symm rfl (by subst hv;exact h2)
  cases ex with
  |normal=>obtain⟨v,h1,k,h2⟩:=hq;exact⟨k,v,h1,h2⟩
  |exit j=>exact hq h2
  |ret=>exact hq h2
theorem di {n:Nat}{y z:Code}{X:Option σ}{K:σ->Option ρ}(j:JE n σ) (seg: ∀w,Gl X (some w) (Ev R P (.cond (.tmp n) y z) s (qJ (SG j.e) w K r Q)))
    (next: ∀x s' g,j.e x=s'->K x=g->Gl g (some r) (Q .normal s')):Gl (rD X K) (some r) (Ev R P (.cond (.tmp n) y z) s Q):=Km j.e seg next
theorem dj {n:Nat}{y:Code}{X:Option σ}{K:σ->Option ρ}(j:JE n σ) (seg: ∀w,Gl X (some w) (Ev R P (.block n y) s (qJ (SG j.e) w K r Q)))
    (next: ∀x s' g,j.e x=s'->K x=g->Gl g (some r) (Q .normal s')):Gl (rD X K) (some r) (Ev R P (.block n y) s Q):=Km j.e seg next
theorem dk {n:Nat}{υ:Type}{y z:Code}{X:Option (υ⊕ρ)}{K:υ->Option ρ}(j:JE n υ) (seg: ∀w,Gl X (some w) (Ev R P (.cond (.tmp n) y z) s (qJ (SF j.e) w (EH K some) r Q)))
    (next: ∀x s' g,j.e x=s'->K x=g->Gl g (some r) (Q .normal s')):Gl (rD X (EH K some)) (some r) (Ev R P (.cond (.tmp n) y z) s Q):=Kn j.e seg next
theorem dl {n:Nat}{υ:Type}{y:Code}{X:Option (υ⊕ρ)}{K:υ->Option ρ}(j:JE n υ) (seg: ∀w,Gl X (some w) (Ev R P (.block n y) s (qJ (SF j.e) w (EH K some) r Q)))
    (next: ∀x s' g,j.e x=s'->K x=g->Gl g (some r) (Q .normal s')):Gl (rD X (EH K some)) (some r) (Ev R P (.block n y) s Q):=Kn j.e seg next
def qY (n:Nat) (N:τ->St->Prop) (w:τ) (K:τ->Option ρ) (r:ρ) (Q:Ex->St->Prop):Ex->St->Prop
  | .normal,_=>False
  | .exit j,s=>(j=n/\N w s)\/(j≠n/\Gl (K w) (some r) (Q (.exit j) s))
  | .ret,s=>Gl (K w) (some r) (Q .ret s)
theorem aAV {n:Nat}{enc:τ->St}{w x':τ}{K:τ->Option ρ}(h: ∃k:uA,s.keep k=enc x'):Gl (some x') (some w) (qY n (SG enc) w K r Q (.exit n) s):=λe=>by cases e;exact .inl ⟨rfl,h⟩
theorem aAW {n:Nat}{υ:Type}{enc:υ->St}{w:υ⊕ρ}{x':υ}{K:υ⊕ρ->Option ρ}(h: ∃k:uA,s.keep k=enc x'):Gl (some (.inl x')) (some w) (qY n (SF enc) w K r Q (.exit n) s):=λe=>by cases e;exact .inl ⟨rfl,x',rfl,h⟩
theorem aAX {n j:Nat}{N:τ->St->Prop}{w x':τ}{K:τ->Option ρ}(hne:Nat.beq j n=false) (h:Gl (K x') (some r) (Q (.exit j) s)):Gl (some x') (some w) (qY n N w K r Q (.exit j) s):=λe=>by cases e;exact .inr ⟨Nat.ne_of_beq_eq_false hne,h⟩
theorem aAY {n:Nat}{N:τ->St->Prop}{w x':τ}{K:τ->Option ρ}(h:Gl (K x') (some r) (Q .ret s)):Gl (some x') (some w) (qY n N w K r Q .ret s):=λe=>by cases e;exact h
theorem JW {f:σ->Option (σ⊕τ)}{x0:σ}{K:τ->Option ρ}{c:Code}{n:Nat}(x:XE f n τ) (lp: ∀w,Gl (rC f x0) (some w) (Ev R P (.loop c) s (qY n (SG x.e) w K r Q)))
    (next: ∀v s' g,x.e v=s'->K v=g->Gl g (some r) (Q (.exit n) s')):Gl (rD (rC f x0) K) (some r) (Ev R P (.loop c) s Q):=by
  intro e;obtain⟨y,h1,h2⟩:=qK e;refine CW n (λs'=>s'=x.e y) (MR (lp y h1) λex s' hq=>?_) λs' hs=>next y s' _ hs.symm rfl h2
  cases ex with
  |normal=>exact hq.elim
  | exit j=>
    rcases hq with⟨rfl,h⟩ |⟨h,h'⟩
    .exact CX h
    .exact Ja h (h' h2)
  |ret=>exact hq h2
theorem JX {υ:Type}{f:σ->Option (σ⊕(υ⊕ρ))}{x0:σ}{K:υ->Option ρ}{c:Code}{n:Nat}(x:XE f n υ) (lp: ∀w,Gl (rC f x0) (some w) (Ev R P (.loop c) s (qY n (SF x.e) w (EH K some) r Q)))
    (next: ∀v s' g,x.e v=s'->K v=g->Gl g (some r) (Q (.exit n) s')):Gl (rD (rC f x0) (EH K some)) (some r) (Ev R P (.loop c) s Q):=by
  intro e;obtain⟨y,h1,h2⟩:=qK e;refine CW n (λs'=> ∃v,y= .inl v/\s'=x.e v) (MR (lp y h1) λex s' hq=>?_) λs' ⟨v,hv,hs⟩=>next v s' _ hs.symm rfl (by subst hv;exact h2)
  cases ex with
  |normal=>exact hq.elim
  | exit j=>
    rcases hq with⟨rfl,v,h1,k,h2⟩ |⟨h,h'⟩
    .exact CX ⟨k,v,h1,h2⟩
    .exact Ja h (h' h2)
  |ret=>exact hq h2
section
variable {α:Type}{x z:α}
theorem aAZ {c:Code}(h:Gl x z (Ev R P (.loop c) s Q)):Gl x z (Ev R P (.loop c) s Q):=h
theorem aA0 {c:Operand}{y u:Code}{X:Option σ}{K:σ->Option ρ}{z:Option ρ}(h:Gl (rD X K) z (Ev R P (.cond c y u) s Q)):Gl (rD X K) z (Ev R P (.cond c y u) s Q):=h
theorem aA1 {n:Nat}{y:Code}{X:Option σ}{K:σ->Option ρ}{z:Option ρ}(h:Gl (rD X K) z (Ev R P (.block n y) s Q)):Gl (rD X K) z (Ev R P (.block n y) s Q):=h
theorem aA2 {c:Operand}{y u:Code}(h:Gl x z (Ev R P (.cond c y u) s Q)):Gl x z (Ev R P (.cond c y u) s Q):=h
theorem aA3 {id:Nat}{ops:Array Oper}{b:Bool}{y:Code}(h:Gl x z (Ev R P (.seq (.region id ops b) y) s Q)):Gl x z (Ev R P (.seq (.region id ops b) y) s Q):=h
theorem aA4 {id:Nat}{ops:Array Oper}{b:Bool}(h:Gl x z (Ev R P (.region id ops b) s Q)):Gl x z (Ev R P (.region id ops b) s Q):=h
theorem aA5 (h:Gl x z (Ev R P .ret s Q)):Gl x z (Ev R P .ret s Q):=h
theorem aA6 {ts:List (Nat×Option TypeId)}{q:r9}{e:Ex}(h:Gl x z (MV T ts q e s)):Gl x z (MV T ts q e s):=h
end
theorem aA7 {ts:List (Nat×Option TypeId)}{q:r9}{m:pT}(hm:Kh T ts q s=m) (h1:vN s.np m=true) (h2:CY (wR q.H) 0 (s.keep ⟨[],m⟩).H=tD 0 q.H) (h3:G6 T s m ts=some q.ret):MV T ts q .ret s:=⟨m,h1,h2,h3⟩
theorem aA8 {ts:List (Nat×Option TypeId)}{q:r9}{m:pT}(hm:Kh T ts q s=m) (h1:vN s.np m=true) (h2:CY (wR q.H) 0 (s.keep ⟨[],m⟩).H=tD 0 q.H) (h3:G6 T s m ts=some q.ret):MV T ts q .normal s:=⟨m,h1,h2,h3⟩
end
abbrev sv (t:Ty) (x:t.den):qP:=(.val t x,none)
abbrev iv (x:Int):qP:=(.val (.int .i64) x,none)
abbrev tv (x:pJ):qP:=(.val .str x,none)
abbrev bv (x:Bool):qP:=(.val .bool x,none)
abbrev rs (i o:Nat):qP:=(.val .ref (some (i,o)),none)
theorem a4o {p q:Prop}(a:p) (b:q):p/\q:=⟨a,b⟩
@[go_sem] def rv {ρ:Type}[Inhabited ρ] (l:List Prop) (x:Option ρ) (k:ρ->List qP×List qQ):r9:=⟨rL l [x.isSome=true],(k (val x)).1,(k (val x)).2⟩
@[reducible,go_sem] noncomputable def mE (n:Nat) (ps:List PK) {V:Type}(p:V->List qP) (q:V->List qQ) (R:V->r9) (gs:List (Nat×Nat×PK):=[]) (same:pY:=[]):Nat×r8:=(n,⟨ps,EE p q R,gs,same,none⟩)
theorem uZ {P:Program}{f:FuncId}{V:Type}{p:V->List qP}{q:V->List qQ}{R:V->r9}{ps:List PK}{gs:List (Nat×Nat×PK)}{same:pY}(h: ∀v,¬vB (R v).side:=by
  (repeat (refine Prod.forall.2 λa=>?_));intro v hz;simp only[go_sem] at hz
  first|exact aPS hz|exact aPS hz.2|exact aPS hz.2.2|exact aPS hz.2.2.2|exact aPS hz.2.2.2.2) (hcall: ∀args w,(callFunc f args).run P w= .ok (.enter f args) w:=by intros;rfl):qZ P (f,⟨ps,EE p q R,gs,same,none⟩):=a9I hcall h
theorem yO {p:Prop}(h:p:=by repeat' (first|exact trivial|apply And.intro|kernel_rfl|exact rfl)):p:=h
theorem C1 {p:Prop}(h:p:=by exact⟨qB,(show _/\_/\_ from⟨qB,qB,qB⟩)⟩):p:=h
abbrev qV {V:Type}(_:V):List qQ:=[]
theorem rI {V:Type}(p:V->List qP) (q:V->List qQ) (R:V->r9) (v:V) (inj: ∀v v',p v=p v'->q v=q v'->v=v':=by
  (repeat (refine Prod.forall.2 λa=>?_));intro a
  (repeat (refine Prod.forall.2 λb=>?_));intro b h1 h2
  cases h1;cases h2;rfl):EE p q R (no_index (p v)) (no_index (q v))=some (R v):=sp inj v
theorem rG {P:Program}:w6 P []:=trivial
theorem qO {P:Program}{x:Nat×TI}{l:sJ}(h:sY P x.1 x.2) (hl:w6 P l):w6 P (x::l):=⟨h,hl⟩
theorem rJ {P:Program}{T:sJ}{Γ:tV}(hE:wY P T Γ) {f:FuncId}{fn:Func}{c:Code}{V:Type}{p:V->List qP}{q:V->List qQ}{R:V->r9}{ps:List PK}{gs:List (Nat×Nat×PK)}{same:pY}(hf:P.funcs[f]? =some fn) (N:Nat) (ts:List (Nat×Option TypeId)) (hb:fn.body=some c)
    (h:wY P T Γ->∀v,vB (R v).side->E9 (q v)->Ev false P c ⟨E8 0 (p v),tD 0 (q v),wR (q v),N,wR (q v)⟩ (MV T ts (R v))) (hN:fn.ntmps=N:=by kernel_rfl)
    (hres:fn.results.toList=ts.map C0:=by rfl) (hcall: ∀args w,(callFunc f args).run P w= .ok (.enter f args) w:=by intros;rfl)
    (h1: ∀v,Nat.ble (p v).length N=true:=by intro _;rfl)
    (h2: ∀v,S1 (vP 0 (q v)) (p v):=by intro _;repeat (first|exact trivial|refine ⟨rfl,?_⟩))
    (h3: ∀v,S2 (vP 0 (q v)) (q v):=by intro _;repeat (first|exact trivial|refine ⟨rfl,?_⟩)):qZ P (f,⟨ps,EE p q R,gs,same,none⟩):=WK hE hf hb hN hres hcall (h hE) h1 h2 h3
theorem AO {a b:Option uR}(h:a=b:=by simp only[go_sem,W];rfl):a=b:=h
theorem EI {a b:Option uR}(h:a=b:=by simp (zetaDelta:=true) only[go_sem,W];rfl):a=b:=h
theorem AP {l:List Prop}(h:CJ l:=by(repeat' first|exact Kj|refine Kl ?_ ?_ |refine Kk ?_ |with_reducible assumption|with_reducible exact rfl|with_reducible exact λhh=>hh|exact S6|exact BZ|exact cn|exact Je|exact Jd|exact λ_=>S6|exact λ_=>BZ|exact trivial|assumption|exact rfl|exact λhh=>hh|exact λ_=>rfl|exact λ_=>trivial|(intro hh;assumption) |decide);fail_if_success refine id ?_):CJ l:=h
theorem EJ {l:List Prop}(h:CJ l:=by(repeat' first|exact Kj|refine Kl ?_ ?_ |refine Kk ?_ |with_reducible assumption|with_reducible exact rfl|with_reducible exact λhh=>hh|exact S6|exact BZ|exact cn|exact Je|exact Jd|exact λ_=>S6|exact λ_=>BZ|exact trivial|assumption|exact rfl|exact λhh=>hh|exact λ_=>rfl|exact λ_=>trivial|(intro hh;assumption) |exact Bool.eq_false_iff.2 hG|exact Bool.of_not_eq_false (λhh=>hG (by rw[hh];rfl)) |exact Bool.of_not_eq_true (λhh=>hG (by rw[hh];rfl)) |simpa using hG|simpa[vB] using hG|exact(λhF=>Bool.of_not_eq_false (λhh=>hG (by rw[hF,hh];rfl))) |exact(λhF=>Bool.of_not_eq_true (λhh=>hG (by rw[hF,hh];rfl))) |simp_all|decide);fail_if_success refine id ?_):CJ l:=h
theorem N4 {p:Prop}(h:p:=by repeat' (first|exact trivial|apply And.intro|exact(λ_=>rfl) |exact(λh=>absurd h pO))):p:=h
theorem Ko {a b:pT}(h:a=b:=by simp (zetaDelta:=true) only[go_sem,tD];rfl):a=b:=h
theorem Kp {p:Prop}(h:p:=by
 have W:val (some ())=():=rfl
 repeat' first
  |with_reducible exact aAk
  |with_reducible exact aAq
  |with_reducible refine aAm ?_
  |with_reducible refine aAn ?_
  |with_reducible refine aAo ?_
  |with_reducible refine aAl ?_
  |with_reducible refine aAu ?_
  |with_reducible refine aAs ?_
  |((with_reducible refine aA0 ?_);(first|refine dk (j1 ..) ?_ ?_ |refine di (j1 ..) ?_ ?_ |refine dk (j2 ..) ?_ ?_ |refine di (j2 ..) ?_ ?_ |refine dk (j3 ..) ?_ ?_ |refine di (j3 ..) ?_ ?_ |refine dk (j4 ..) ?_ ?_ |refine di (j4 ..) ?_ ?_);intro w;rotate_left;(repeat (refine Prod.forall.2 λa=>?_));intro a s g hs hg;(try dsimp only at hg);dsimp(zetaDelta:=true) only at hs;subst hg;subst hs;rotate_left)
  |((with_reducible refine aA1 ?_);(first|refine dl (j1 ..) ?_ ?_ |refine dj (j1 ..) ?_ ?_ |refine dl (j2 ..) ?_ ?_ |refine dj (j2 ..) ?_ ?_ |refine dl (j3 ..) ?_ ?_ |refine dj (j3 ..) ?_ ?_ |refine dl (j4 ..) ?_ ?_ |refine dj (j4 ..) ?_ ?_);intro w;rotate_left;(repeat (refine Prod.forall.2 λa=>?_));intro a s g hs hg;(try dsimp only at hg);dsimp(zetaDelta:=true) only at hs;subst hg;subst hs;rotate_left)
  |with_reducible refine aAN ?_
  |((with_reducible refine aAD ?_ ?_ ?_);exact aAC aQE (by first|rfl|simp);intro hc;rotate_left;intro hc;rotate_left)
  |with_reducible refine aAt ?_
  |with_reducible refine aAp ?_
  |with_reducible refine aAr ?_
  |((with_reducible refine aAi (by assumption) ?_);intro hv)
  |((with_reducible refine aAh ?_);intro v hv hw;(try simp only[go_sem] at hw);replace W:=a4o hw W)
  |((with_reducible refine aAj ?_);intro v hw;(try simp only[go_sem] at hw);replace W:=a4o hw W)
  |((with_reducible refine aAg rfl ?_);intro hg;have hn:=hg;(try simp only[go_sem] at hn))
  |((with_reducible refine aA2 ?_);refine aAE ?_ ?_ <;>intro hnil;(try subst hnil))
  |((with_reducible refine aA3 ?_);(first|refine N0 E AO AP ?_ |refine N1 E AO AP qB ?_ |(have hq: ¬_:=hG;first|refine N0 (EA (l:=s1) E qC) EI EJ ?_ |refine N1 (EA (l:=s1) E qC) EI EJ qB ?_ |refine N0 (EA (l:=s2) E qC) EI EJ ?_ |refine N1 (EA (l:=s2) E qC) EI EJ qB ?_ |refine N0 (EA (l:=s3) E qC) EI EJ ?_ |refine N1 (EA (l:=s3) E qC) EI EJ qB ?_) |refine N0 E2 AO AP ?_ |refine N1 E2 AO AP qB ?_ |refine N0 E3 AO AP ?_ |refine N1 E3 AO AP qB ?_ |refine N0 E4 AO AP ?_ |refine N1 E4 AO AP qB ?_ |(with_reducible refine uo ?_ ?_ <;>intro hG) |with_reducible refine dh ?_ |refine SE (sl.getD 0 999) rfl N4 ?_ |refine SE (sl.getD 1 999) rfl N4 ?_ |refine SE (sl.getD 2 999) rfl N4 ?_))
  |((with_reducible refine aA4 ?_);(first|refine N2 E AO AP ?_ |refine N3 E AO AP qB ?_ |(have hq: ¬_:=hG;first|refine N2 (EA (l:=s1) E qC) EI EJ ?_ |refine N3 (EA (l:=s1) E qC) EI EJ qB ?_ |refine N2 (EA (l:=s2) E qC) EI EJ ?_ |refine N3 (EA (l:=s2) E qC) EI EJ qB ?_ |refine N2 (EA (l:=s3) E qC) EI EJ ?_ |refine N3 (EA (l:=s3) E qC) EI EJ qB ?_) |refine N2 E2 AO AP ?_ |refine N3 E2 AO AP qB ?_ |refine N2 E3 AO AP ?_ |refine N3 E3 AO AP qB ?_ |refine N2 E4 AO AP ?_ |refine N3 E4 AO AP qB ?_ |(with_reducible refine uo ?_ ?_ <;>intro hG) |with_reducible refine dh ?_ |refine SE (sl.getD 0 999) rfl N4 ?_ |refine SE (sl.getD 1 999) rfl N4 ?_ |refine SE (sl.getD 2 999) rfl N4 ?_))
  |with_reducible refine aAv ?_
  |with_reducible refine aAw ?_
  |with_reducible refine aAx ?_
  |with_reducible refine aAy ?_
  |with_reducible refine aAA ?_
  |with_reducible refine aAz ?_
  |((with_reducible refine aA5 ?_);first|refine aAF rt qC rfl N4 ?_ |refine aAB ?_)
  |with_reducible refine aAG ?_
  |with_reducible refine aAH ?_
  |with_reducible refine aAI ?_
  |with_reducible refine aAJ ?_
  |with_reducible refine aAK ?_
  |((with_reducible refine aAL ?_ ?_);rotate_left;rfl)
  |with_reducible refine aAM ?_
  |((first|with_reducible refine aAV ?_ |with_reducible refine aAW ?_ |with_reducible refine aAO ?_ |with_reducible refine aAR ?_ |with_reducible refine aAS ?_);exact A3)
  |((with_reducible refine aAX ?_ ?_);rfl)
  |with_reducible refine aAY ?_
  |with_reducible refine aAP ?_
  |with_reducible refine aAQ ?_
  |with_reducible refine aAT ?_
  |with_reducible refine aAU ?_
  |((with_reducible refine aAZ ?_);(first|((first|refine JX (x1 ..) ?_ ?_ |refine JW (x1 ..) ?_ ?_ |refine JX (x2 ..) ?_ ?_ |refine JW (x2 ..) ?_ ?_ |refine JX (x3 ..) ?_ ?_ |refine JW (x3 ..) ?_ ?_ |refine JX (x4 ..) ?_ ?_ |refine JW (x4 ..) ?_ ?_ |refine JX (x5 ..) ?_ ?_ |refine JW (x5 ..) ?_ ?_ |refine JX (x6 ..) ?_ ?_ |refine JW (x6 ..) ?_ ?_ |refine JX (x7 ..) ?_ ?_ |refine JW (x7 ..) ?_ ?_ |refine JX (x8 ..) ?_ ?_ |refine JW (x8 ..) ?_ ?_);intro w;rotate_left;(repeat (refine Prod.forall.2 λa=>?_));intro a s g hs hg;(try dsimp only at hg);dsimp(zetaDelta:=true) only at hs;subst hg;subst hs;rotate_left) |((first|refine JV (l1 ..) A3 ?_ |refine HR (l1 ..) A3 ?_ |refine JV (l2 ..) A3 ?_ |refine HR (l2 ..) A3 ?_ |refine JV (l3 ..) A3 ?_ |refine HR (l3 ..) A3 ?_ |refine JV (l4 ..) A3 ?_ |refine HR (l4 ..) A3 ?_ |refine JV (l5 ..) A3 ?_ |refine HR (l5 ..) A3 ?_ |refine JV (l6 ..) A3 ?_ |refine HR (l6 ..) A3 ?_ |refine JV (l7 ..) A3 ?_ |refine HR (l7 ..) A3 ?_ |refine JV (l8 ..) A3 ?_ |refine HR (l8 ..) A3 ?_);(repeat (refine Prod.forall.2 λa=>?_));intro a w g s hg hs;(first|rw[u1] at hg|rw[u2] at hg|rw[u3] at hg|rw[u4] at hg|rw[u5] at hg|rw[u6] at hg|rw[u7] at hg|rw[u8] at hg);(try dsimp only at hg);dsimp(zetaDelta:=true) only at hs;subst hg;subst hs)))
  |((with_reducible refine aA6 ?_);intro hz;cases hz;first|exact aA7 Ko rfl rfl rfl|exact aA8 Ko rfl rfl rfl)
  |(refine uo ?_ ?_ <;>intro hG)
 ):p:=h
theorem rM {p:Prop}(h:p:=by
 intro hs hrow;dsimp only[go_sem,tD,E9] at hs hrow|-
 (repeat (have h1:=And.left hrow;replace hrow:=And.right hrow;subst h1))
 (try (repeat (have h1:=And.left hs;replace hs:=And.right hs;(try subst h1))))
 obtain⟨z0,hC0⟩:=aPc.1 hs
 try rw[S5 hC0]
 clear hs;rw[u0] at hC0;revert hC0;refine(?_ :Gl _ (some z0) _);exact Kp
 ):p:=h
theorem xF {p:Prop}(h:p:=by
 intro hs hrow;dsimp only[go_sem,tD,E9] at hs hrow|-
 (repeat (have h1:=And.left hrow;replace hrow:=And.right hrow;subst h1))
 (try (repeat (have h1:=And.left hs;replace hs:=And.right hs;(try subst h1))))
 (try subst hs)
 obtain⟨z0,hC0⟩:=q0
 try rw[hC0]
 rw[u0] at hC0;revert hC0;refine(?_ :Gl _ z0 _);exact Kp
 ):p:=h
end Go.Proofs.YtedimeeleabhnaaGreatDoor.Vc
namespace Go.Proofs.YtedimeeleabhnaaGreatDoor
open Vc
open Tryz
noncomputable section
@[go_sem] abbrev tJ:Ty:=(.pair .str (.pair .str (.pair .str (.pair (.list .str) (.pair (.list .str) (.pair (.int .i64) (.pair (.list sP) .unit)))))))
@[go_sem] abbrev vL:Ty:=(.pair .str (.pair (.list .str) (.pair (.list sP) (.pair (.list tJ) .unit))))
abbrev wZ:Type:=(pJ×(pJ×Unit))
abbrev wD:Type:=(pJ×(pJ×(pJ×(pK×(pK×(Int×((List wZ)×Unit)))))))
abbrev yF:Type:=(Int×(pJ×(pJ×Unit)))
abbrev rK:Type:=(yF×(pJ×(Bool×Unit)))
abbrev Ja3:=List rK
@[go_sem] abbrev uG:Ty:=(.pair (.int .i64) sP)
@[go_sem] abbrev rQ:Ty:=(.pair uG (.pair .str (.pair .bool .unit)))
abbrev tP:Type:=(pJ×(pK×((List wZ)×((List wD)×Unit))))
@[go_sem] abbrev vC:Ty:=(.pair .mref (.pair (.list (.int .u8)) .unit))
abbrev qT:Type:=(pJ×(Ja0×Unit))
abbrev Ja1:=List qT
@[go_sem] abbrev sO:Ty:=(.pair (.int .i64) (.pair .str (.pair (.int .i64) (.pair (.int .i64) .unit))))
@[go_sem] abbrev tG:Ty:=(.pair .str (.pair (.list sO) (.pair (.int .i64) (.pair .mp (.pair (.int .i64) (.pair (.int .i64) .unit))))))
abbrev rE:Type:=(Int×(pJ×pR))
abbrev Ja2:=List rE
@[go_sem] abbrev tZ:Ty:=(.pair (.list sO) (.pair (.int .i64) (.pair (.list .str) (.pair (.int .i64) (.pair (.int .i64) .unit)))))
abbrev s9:Type:=(Ja2×(Int×(pK×pR)))
@[go_sem] abbrev D1:Ty:=(.pair .bool sP)
abbrev rR:Type:=(Int×(pJ×(pJ×(pJ×(Ja1×(Ja0×Unit))))))
abbrev uq:Type:=(Bool×(pJ×(pJ×Unit)))
@[go_sem] abbrev dm:Ty:=(.pair (.int .i64) (.pair .str (.pair .str (.pair .str (.pair (.rl 186 rV) (.pair (.list .part) .unit))))))
@[go_sem] abbrev aA9:Ty:=(.pair .str (.pair .str (.pair .str (.pair .str (.pair .str (.pair .str (.pair .str (.pair .str sP))))))))
@[go_sem] abbrev EK:Ty:=(.pair (.int .i64) (.pair (.int .i64) (.pair (.int .i64) .unit)))
@[go_sem] abbrev dn:Nat×TI:=(29,⟨(.list rQ),49,64,false,[]⟩)
theorem D2:sY prog dn.1 dn.2:=C1
@[go_sem] abbrev dq:Nat×TI:=(49,⟨rQ,0,1,false,[]⟩)
theorem G8:sY prog dq.1 dq.2:=⟨qB,(show ((_/\∃_,_/\_)\/_)/\_ from⟨.inl ⟨rfl,_,Tryz.underlying49,yO⟩,(λ_=>⟨qB,2,pO,(.struct rfl Tryz.underlying49 qB (.cons pO rfl qB qB (.struct rfl Tryz.underlying47 qB (.cons pO rfl qB qB (.int Tryz.underlying3) (.cons pO rfl qB qB (.str Tryz.underlying9) (.cons pO rfl qB qB (.str Tryz.underlying9) .nil)))) (.cons pO rfl qB qB (.str Tryz.underlying9) (.cons pO rfl qB qB (.bool Tryz.underlying4) .nil))))⟩)⟩)⟩
@[go_sem] abbrev dr:Nat×TI:=(47,⟨uG,0,1,false,[]⟩)
theorem HS:sY prog dr.1 dr.2:=⟨qB,(show ((_/\∃_,_/\_)\/_)/\_ from⟨.inl ⟨rfl,_,Tryz.underlying47,yO⟩,(λ_=>⟨qB,1,pO,(.struct rfl Tryz.underlying47 qB (.cons pO rfl qB qB (.int Tryz.underlying3) (.cons pO rfl qB qB (.str Tryz.underlying9) (.cons pO rfl qB qB (.str Tryz.underlying9) .nil))))⟩)⟩)⟩
@[go_sem] abbrev Kq:Nat×TI:=(54,⟨(.pair (.list rQ) .unit),0,0,false,[(0,49,5)]⟩)
theorem Kr:sY prog Kq.1 Kq.2:=⟨qB,(show ((_/\∃_,_/\_)\/_)/\_ from⟨.inl ⟨rfl,_,Tryz.underlying54,yO⟩,(λh=>absurd h pO)⟩)⟩
@[go_sem] abbrev SH:Nat×TI:=(9,⟨.str,0,0,false,[]⟩)
theorem rY:sY prog SH.1 SH.2:=⟨qB,(show Tryz.prog.underlying _=_ from by kernel_rfl)⟩
@[go_sem] abbrev Ks:Nat×TI:=(24,⟨(.list tJ),51,128,false,[]⟩)
theorem JY:sY prog Ks.1 Ks.2:=C1
@[go_sem] abbrev du:Nat×TI:=(26,⟨vL,0,0,false,[(1,9,1),(2,58,2),(3,51,7)]⟩)
theorem D3:sY prog du.1 du.2:=⟨qB,(show ((_/\∃_,_/\_)\/_)/\_ from⟨.inl ⟨rfl,_,Tryz.underlying26,yO⟩,(λh=>absurd h pO)⟩)⟩
@[go_sem] abbrev Kt:Nat×TI:=(51,⟨tJ,0,0,false,[(3,9,1),(4,9,1),(6,58,2)]⟩)
theorem D4:sY prog Kt.1 Kt.2:=⟨qB,(show ((_/\∃_,_/\_)\/_)/\_ from⟨.inl ⟨rfl,_,Tryz.underlying51,yO⟩,(λh=>absurd h pO)⟩)⟩
@[go_sem] abbrev Ku:Nat×TI:=(22,⟨(.list .str),9,16,false,[]⟩)
theorem vF:sY prog Ku.1 Ku.2:=C1
@[go_sem] abbrev Kv:Nat×TI:=(23,⟨(.list sP),58,32,false,[]⟩)
theorem D5:sY prog Kv.1 Kv.2:=C1
@[go_sem] abbrev Kw:Nat×TI:=(58,⟨sP,0,1,false,[]⟩)
theorem N5:sY prog Kw.1 Kw.2:=⟨qB,(show ((_/\∃_,_/\_)\/_)/\_ from⟨.inl ⟨rfl,_,Tryz.underlying58,yO⟩,(λ_=>⟨qB,1,pO,(.struct rfl Tryz.underlying58 qB (.cons pO rfl qB qB (.str Tryz.underlying9) (.cons pO rfl qB qB (.str Tryz.underlying9) .nil)))⟩)⟩)⟩
@[go_sem] abbrev Kx:Nat×TI:=(111,⟨(.list (.int .u8)),5,1,false,[]⟩)
theorem HT:sY prog Kx.1 Kx.2:=C1
@[go_sem] abbrev Ky:Nat×TI:=(113,⟨vC,0,0,false,[(1,5,1)]⟩)
theorem WR:sY prog Ky.1 Ky.2:=⟨qB,(show ((_/\∃_,_/\_)\/_)/\_ from⟨.inl ⟨rfl,_,Tryz.underlying113,yO⟩,(λh=>absurd h pO)⟩)⟩
@[go_sem] abbrev Kz:Nat×TI:=(2,⟨(.int .i64),0,0,false,[]⟩)
theorem aBa:sY prog Kz.1 Kz.2:=⟨qB,(show Tryz.prog.underlying _=_ from by kernel_rfl)⟩
@[go_sem] abbrev La:Nat×TI:=(5,⟨(.int .u8),0,0,false,[]⟩)
theorem HU:sY prog La.1 La.2:=⟨qB,(show Tryz.prog.underlying _=_ from by kernel_rfl)⟩
@[go_sem] abbrev ur:Nat×TI:=(3,⟨(.int .i64),0,0,false,[]⟩)
theorem tO:sY prog ur.1 ur.2:=⟨qB,(show Tryz.prog.underlying _=_ from by kernel_rfl)⟩
@[go_sem] abbrev Lb:Nat×TI:=(30,⟨(.int .i64),0,0,false,[]⟩)
theorem BD:sY prog Lb.1 Lb.2:=⟨qB,(show Tryz.prog.underlying _=_ from by kernel_rfl)⟩
@[go_sem] abbrev Lc:Nat×TI:=(158,⟨(.list sO),215,40,false,[]⟩)
theorem A4:sY prog Lc.1 Lc.2:=C1
@[go_sem] abbrev Ld:Nat×TI:=(163,⟨tG,0,0,false,[(1,215,4)]⟩)
theorem zJ:sY prog Ld.1 Ld.2:=⟨qB,(show ((_/\∃_,_/\_)\/_)/\_ from⟨.inl ⟨rfl,_,Tryz.underlying163,yO⟩,(λh=>absurd h pO)⟩)⟩
@[go_sem] abbrev Lf:Nat×TI:=(215,⟨sO,0,1,false,[]⟩)
theorem AQ:sY prog Lf.1 Lf.2:=⟨qB,(show ((_/\∃_,_/\_)\/_)/\_ from⟨.inl ⟨rfl,_,Tryz.underlying215,yO⟩,(λ_=>⟨qB,1,pO,(.struct rfl Tryz.underlying215 qB (.cons pO rfl qB qB (.int Tryz.underlying3) (.cons pO rfl qB qB (.str Tryz.underlying9) (.cons pO rfl qB qB (.int Tryz.underlying3) (.cons pO rfl qB qB (.int Tryz.underlying3) .nil)))))⟩)⟩)⟩
@[go_sem] abbrev ut:Nat×TI:=(222,⟨.mp,9,3,false,[]⟩)
theorem N6:sY prog ut.1 ut.2:=⟨qB,(show Tryz.prog.underlying _=_ from by kernel_rfl)⟩
@[go_sem] abbrev Lg:Nat×TI:=(173,⟨(.list sO),228,40,false,[]⟩)
theorem dv:sY prog Lg.1 Lg.2:=C1
@[go_sem] abbrev Lh:Nat×TI:=(178,⟨tZ,0,0,false,[(0,228,4),(2,9,1)]⟩)
theorem HV:sY prog Lh.1 Lh.2:=⟨qB,(show ((_/\∃_,_/\_)\/_)/\_ from⟨.inl ⟨rfl,_,Tryz.underlying178,yO⟩,(λh=>absurd h pO)⟩)⟩
@[go_sem] abbrev Li:Nat×TI:=(228,⟨sO,0,1,false,[]⟩)
theorem D6:sY prog Li.1 Li.2:=⟨qB,(show ((_/\∃_,_/\_)\/_)/\_ from⟨.inl ⟨rfl,_,Tryz.underlying228,yO⟩,(λ_=>⟨qB,1,pO,(.struct rfl Tryz.underlying228 qB (.cons pO rfl qB qB (.int Tryz.underlying3) (.cons pO rfl qB qB (.str Tryz.underlying9) (.cons pO rfl qB qB (.int Tryz.underlying3) (.cons pO rfl qB qB (.int Tryz.underlying3) .nil)))))⟩)⟩)⟩
@[go_sem] abbrev Lj:Nat×TI:=(171,⟨(.pair vC .unit),0,0,false,[(1,5,1)]⟩)
theorem Lk:sY prog Lj.1 Lj.2:=⟨qB,(show ((_/\∃_,_/\_)\/_)/\_ from⟨.inl ⟨rfl,_,Tryz.underlying171,yO⟩,(λh=>absurd h pO)⟩)⟩
@[go_sem] abbrev uv:Nat×TI:=(183,⟨sN,0,0,false,[(4,186,2),(5,183,6)]⟩)
theorem v6:sY prog uv.1 uv.2:=⟨qB,(show ((_/\∃_,_/\_)\/_)/\_ from⟨.inl ⟨rfl,_,Tryz.underlying183,yO⟩,(λh=>absurd h pO)⟩)⟩
@[go_sem] abbrev uw:Nat×TI:=(88,⟨(.list .part),183,104,false,[]⟩)
theorem uW:sY prog uw.1 uw.2:=C1
@[go_sem] abbrev ux:Nat×TI:=(186,⟨rV,0,0,false,[(1,183,6)]⟩)
theorem AR:sY prog ux.1 ux.2:=⟨qB,(show ((_/\∃_,_/\_)\/_)/\_ from⟨.inl ⟨rfl,_,Tryz.underlying186,yO⟩,(λh=>absurd h pO)⟩)⟩
@[go_sem] abbrev uy:Nat×TI:=(181,⟨(.list rV),186,40,false,[]⟩)
theorem yP:sY prog uy.1 uy.2:=C1
@[go_sem] abbrev Ll:Nat×TI:=(21,⟨(.int .i32),0,0,false,[]⟩)
theorem aBb:sY prog Ll.1 Ll.2:=⟨qB,(show Tryz.prog.underlying _=_ from by kernel_rfl)⟩
@[go_sem] abbrev Lm:Nat×TI:=(129,⟨(.list rV),132,40,false,[]⟩)
theorem uz:sY prog Lm.1 Lm.2:=C1
@[go_sem] abbrev Ln:Nat×TI:=(132,⟨rV,0,0,false,[(1,183,6)]⟩)
theorem Lo:sY prog Ln.1 Ln.2:=⟨qB,(show ((_/\∃_,_/\_)\/_)/\_ from⟨.inl ⟨rfl,_,Tryz.underlying132,yO⟩,(λh=>absurd h pO)⟩)⟩
@[go_sem] abbrev dw:Nat×TI:=(64,⟨.mp,47,9,false,[]⟩)
theorem dz:sY prog dw.1 dw.2:=⟨qB,(show Tryz.prog.underlying _=_ from by kernel_rfl)⟩
@[go_sem] abbrev Lp:Nat×TI:=(181,⟨(.list rV),186,40,true,[]⟩)
theorem WS:sY prog Lp.1 Lp.2:=C1
@[go_sem] abbrev Lq:Nat×TI:=(200,⟨(.list (.int .i64)),3,8,false,[]⟩)
theorem Lr:sY prog Lq.1 Lq.2:=C1
@[go_sem] abbrev ve:Nat×TI:=(4,⟨.bool,0,0,false,[]⟩)
theorem HW:sY prog ve.1 ve.2:=⟨qB,(show Tryz.prog.underlying _=_ from by kernel_rfl)⟩
@[go_sem] abbrev vf:Nat×TI:=(285,⟨D1,0,1,false,[]⟩)
theorem Ls:sY prog vf.1 vf.2:=⟨qB,(show ((_/\∃_,_/\_)\/_)/\_ from⟨.inl ⟨rfl,_,Tryz.underlying285,yO⟩,(λ_=>⟨qB,1,pO,(.struct rfl Tryz.underlying285 qB (.cons pO rfl qB qB (.bool Tryz.underlying4) (.cons pO rfl qB qB (.str Tryz.underlying9) (.cons pO rfl qB qB (.str Tryz.underlying9) .nil))))⟩)⟩)⟩
@[go_sem] abbrev Lt:Nat×TI:=(300,⟨D1,0,1,false,[]⟩)
theorem vh:sY prog Lt.1 Lt.2:=⟨qB,(show ((_/\∃_,_/\_)\/_)/\_ from⟨.inl ⟨rfl,_,Tryz.underlying300,yO⟩,(λ_=>⟨qB,1,pO,(.struct rfl Tryz.underlying300 qB (.cons pO rfl qB qB (.bool Tryz.underlying4) (.cons pO rfl qB qB (.str Tryz.underlying9) (.cons pO rfl qB qB (.str Tryz.underlying9) .nil))))⟩)⟩)⟩
@[go_sem] abbrev Lu:Nat×TI:=(260,⟨aA9,Ct,1,true,[]⟩)
theorem aBc:sY prog Lu.1 Lu.2:=⟨qB,(show (_\/(_/\∃_ _,_/\_/\_))/\_ from⟨.inr ⟨rfl,_,_,Tryz.underlying260,(show _/\_/\_ from⟨qB,qB,(show _/\_/\_ from⟨qB,qB,(show _/\_/\_ from⟨qB,qB,(show _/\_/\_ from⟨qB,qB,(show _/\_/\_ from⟨qB,qB,(show _/\_/\_ from⟨qB,qB,(show _/\_/\_ from⟨qB,qB,(show _/\_/\_ from⟨qB,qB,(show _/\_/\_ from⟨qB,qB,(show _/\_/\_ from⟨qB,qB,trivial⟩)⟩)⟩)⟩)⟩)⟩)⟩)⟩)⟩)⟩),qB⟩,(λ_=>⟨qB,1,pO,(.arr rfl Tryz.underlying260 qB (.acons qB qB (.str Tryz.underlying9) (.acons qB qB (.str Tryz.underlying9) (.acons qB qB (.str Tryz.underlying9) (.acons qB qB (.str Tryz.underlying9) (.acons qB qB (.str Tryz.underlying9) (.acons qB qB (.str Tryz.underlying9) (.acons qB qB (.str Tryz.underlying9) (.acons qB qB (.str Tryz.underlying9) (.acons qB qB (.str Tryz.underlying9) (.acons qB qB (.str Tryz.underlying9) .anil)))))))))))⟩)⟩)⟩
@[go_sem] abbrev vi:Nat×TI:=(124,⟨(.list rV),128,40,false,[]⟩)
theorem WT:sY prog vi.1 vi.2:=C1
@[go_sem] abbrev Lv:Nat×TI:=(128,⟨rV,0,0,false,[(1,183,6)]⟩)
theorem vj:sY prog Lv.1 Lv.2:=⟨qB,(show ((_/\∃_,_/\_)\/_)/\_ from⟨.inl ⟨rfl,_,Tryz.underlying128,yO⟩,(λh=>absurd h pO)⟩)⟩
@[go_sem] abbrev Lw:Nat×TI:=(90,⟨EK,0,1,false,[]⟩)
theorem HX:sY prog Lw.1 Lw.2:=⟨qB,(show ((_/\∃_,_/\_)\/_)/\_ from⟨.inl ⟨rfl,_,Tryz.underlying90,yO⟩,(λ_=>⟨qB,1,pO,(.struct rfl Tryz.underlying90 qB (.cons pO rfl qB qB (.int Tryz.underlying3) (.cons pO rfl qB qB (.int Tryz.underlying3) (.cons pO rfl qB qB (.int Tryz.underlying3) .nil))))⟩)⟩)⟩
@[go_sem] abbrev Lx:Nat×TI:=(81,⟨.mp,9,4,false,[]⟩)
theorem N7:sY prog Lx.1 Lx.2:=⟨qB,(show Tryz.prog.underlying _=_ from by kernel_rfl)⟩
@[go_sem] abbrev Ly:Nat×TI:=(225,⟨(.pair .mp .unit),0,0,false,[]⟩)
theorem vk:sY prog Ly.1 Ly.2:=⟨qB,(show ((_/\∃_,_/\_)\/_)/\_ from⟨.inl ⟨rfl,_,Tryz.underlying225,yO⟩,(λh=>absurd h pO)⟩)⟩
@[go_sem] abbrev Lz:Nat×TI:=(211,⟨(.list .bool),4,1,true,[]⟩)
theorem aBd:sY prog Lz.1 Lz.2:=C1
theorem SI:Tryz.prog.follows .mixedOrders=true:=by kernel_rfl
theorem rH {T:sJ}{l:List (Nat×r8)}(hT:w6 prog T) (hc:DZ prog (EF l)):wY prog T (EF l):=⟨hT,hc,SI⟩
@[go_sem] abbrev aBe:Nat×r8:=(132,⟨[.v,.v],su,[],[],none⟩)
theorem Ma:qZ prog aBe:=⟨a9f,λ_ h=>by cases h⟩
@[go_sem] abbrev aBf:Nat×r8:=(333,⟨[.v,.v],th,[],[],none⟩)
theorem Mb:qZ prog aBf:=⟨a9t,λ_ h=>by cases h⟩
@[go_sem] abbrev aBg:Nat×r8:=(177,⟨[.v],sw,[],[],none⟩)
theorem aBh:qZ prog aBg:=⟨a9g,λ_ h=>by cases h⟩
@[go_sem] abbrev aBi:Nat×r8:=(131,⟨[.v],tj,[],[],none⟩)
theorem Mc:qZ prog aBi:=⟨a9u,λ_ h=>by cases h⟩
@[go_sem] abbrev aBj:Nat×r8:=(181,⟨[.v,.v],tt,[],[],none⟩)
theorem aBk:qZ prog aBj:=⟨a9E,λ_ h=>by cases h⟩
@[go_sem] abbrev aBl:Nat×r8:=(182,⟨[.v,.v],tu,[],[],none⟩)
theorem aBm:qZ prog aBl:=⟨a9F,λ_ h=>by cases h⟩
@[go_sem] abbrev aBn:Nat×r8:=(93,⟨[.v],tx,[],[],none⟩)
theorem aBo:qZ prog aBn:=⟨a9G,λ_ h=>by cases h⟩
@[go_sem] abbrev aBp:Nat×r8:=(138,⟨[.v],tz,[],[],none⟩)
theorem aBq:qZ prog aBp:=⟨a9H,λ_ h=>by cases h⟩
@[go_sem] abbrev aBr:Nat×r8:=(304,⟨[.v,.v],tm,[],[],none⟩)
theorem aBs:qZ prog aBr:=⟨a9v,λ_ h=>by cases h⟩
@[go_sem] abbrev aBt:Nat×r8:=(59,⟨[.v,.v],tn,[],[],none⟩)
theorem Md:qZ prog aBt:=⟨a9w,λ_ h=>by cases h⟩
@[go_sem] abbrev aBu:Nat×r8:=(129,⟨[.p vC [1]],sz,[],[],none⟩)
theorem Me:qZ prog aBu:=⟨a9j,λ_ h=>by cases h⟩
@[go_sem] abbrev aBv:Nat×r8:=(95,⟨[.p vC [1]],tf,[],[],none⟩)
theorem ee:qZ prog aBv:=⟨a9r,λ_ h=>by cases h⟩
@[go_sem] abbrev aBw:Nat×r8:=(147,⟨[.v,.v],uf,[],[],none⟩)
theorem aBx:qZ prog aBw:=⟨aAc,λ_ h=>by cases h⟩
end
noncomputable section
def N8 (O:Ja3) (a8:Ja3):Int->Option (Int⊕(Unit⊕Bool)):=λaA=>ite (decide (aA<(O.length:Int))) (ite (0<=aA/\aA<(O.length:Int)) (ite (0<=aA/\aA<(a8.length:Int)) (ite (!((((qI rQ O aA).1.1=(qI rQ a8 aA).1.1)&&(((qI rQ O aA).1.2.1=(qI rQ a8 aA).1.2.1)&&((qI rQ O aA).1.2.2.1=(qI rQ a8 aA).1.2.2.1)))&&(((qI rQ O aA).2.1=(qI rQ a8 aA).2.1)&&((qI rQ O aA).2.2.1==(qI rQ a8 aA).2.2.1)))) (some (.inr (.inr (false)))) (ite (qH (aA+1)) (some (.inl (aA+1))) none)) none) none) (some (.inr (.inl ())))
def N9 (O:Ja3) (a8:Ja3):Option Bool:=ite (!decide ((O.length:Int)=(a8.length:Int))) (some (false)) (sK (rC (N8 O a8) 0) λ_=>some (true))
abbrev Mf (x:(Ja3×Ja3)):List qP:=[sv (.list rQ) x.1,sv (.list rQ) x.2]
@[go_sem] def Mg:(Ja3×Ja3)->r9:=fun(O,a8)=>rv [] (N9 O a8) λz=>([bv z],[])
@[go_sem] def aKW O a8:=rI Mf qV Mg (O,a8)
@[go_sem] abbrev aBy:Nat×r8:=mE 15 [.v,.v] Mf qV Mg
def aBz:qZ prog aBy:=
 rJ (rH (qO D2 (qO G8 rG)) rF) func15 26 [(4,none)] rfl λE ⟨O,a8⟩=>by
  have u0:= @N9.eq_1;have u1:= @N8.eq_1
  let l1:LE (N8 O a8):=⟨λx=>⟨[(0,sv (.list rQ) O),(1,sv (.list rQ) a8),(5,iv x)],[],0,26,0⟩⟩
  let x1:XE (N8 O a8) 0 Unit:=⟨λ_=>⟨[],[],0,26,0⟩⟩
  exact rM
def A5 (O:(Ja3×Unit)) (a8:Int) (aA:pJ) (aB:pJ) (aC:pJ):Option Unit:=ite ((O.1.length+([((a8,(aA,(aB,()))),(aC,(false,())))]:List rK).length)*64<=140737488355328) (some (())) none
abbrev Mh (x:(Int×pJ×pJ×pJ×(Ja3×Unit)×Nat)):List qP:=[rs 0 0,iv x.1,tv x.2.1,tv x.2.2.1,tv x.2.2.2.1]
abbrev Mi (x:(Int×pJ×pJ×pJ×(Ja3×Unit)×Nat)):List qQ:=[.cells (.pair (.list rQ) .unit) x.2.2.2.2.1 [(0,1)],.grow 49 5 x.2.2.2.2.2]
@[go_sem] def Mj:(Int×pJ×pJ×pJ×(Ja3×Unit)×Nat)->r9:=fun(O,a8,aA,aB,aC,aD)=>rv [aD=(aC.1.length)] (A5 aC O a8 aA aB) λz=>([],[.cells (.pair (.list rQ) .unit) ((aC.1++([((O,(a8,(aA,()))),(aB,(false,())))]:List rK)),aC.2) [(0,1)],.grow 49 5 ((aC.1++([((O,(a8,(aA,()))),(aB,(false,())))]:List rK)).length)])
@[go_sem] def aKX O a8 aA aB aC aD:=rI Mh Mi Mj (O,a8,aA,aB,aC,aD)
@[go_sem] abbrev aBA:Nat×r8:=mE 32 [.p (.pair (.list rQ) .unit) [0],.v,.v,.v,.v] Mh Mi Mj
def vm:qZ prog aBA:=
 rJ (rH (qO D2 (qO HS (qO G8 (qO Kr rG)))) rF) func32 25 [] rfl λE ⟨O,a8,aA,aB,aC,aD⟩=>by
  have u0:= @A5.eq_1;exact rM
def Mk (O:Int) (a8:pJ) (aA:pJ) (aB:pJ):Unit:=()
abbrev Ml (x:(Int×pJ×pJ×pJ)):List qP:=[iv x.1,tv x.2.1,tv x.2.2.1,tv x.2.2.2]
@[go_sem] def Mm:(Int×pJ×pJ×pJ)->r9:=fun(O,a8,aA,aB)=>⟨[],[sv rQ ((O,(a8,(aA,()))),(aB,(false,())))],[]⟩
@[go_sem] def aKY O a8 aA aB:=rI Ml qV Mm (O,a8,aA,aB)
@[go_sem] abbrev aBB:Nat×r8:=mE 35 [.v,.v,.v,.v] Ml qV Mm
def vn:qZ prog aBB:=
 rJ (rH (qO HS (qO G8 rG)) rF) func35 15 [(8,some 49)] rfl λE ⟨O,a8,aA,aB⟩=>by
  have u0:= @Mk.eq_1;have q0: ∃z,(Mk O a8 aA aB)=z:=⟨_,rfl⟩;exact xF
def NA (O:Ja3) (a8:yF):Int->Option (Int⊕(Unit⊕Int)):=λaA=>ite (decide (aA<(O.length:Int))) (ite (0<=aA/\aA<(O.length:Int)) (ite (((qI rQ O aA).1.1=a8.1)&&(((qI rQ O aA).1.2.1=a8.2.1)&&((qI rQ O aA).1.2.2.1=a8.2.2.1))) (some (.inr (.inr (aA)))) (ite (qH (aA+1)) (some (.inl (aA+1))) none)) none) (some (.inr (.inl ())))
def NB (O:Ja3) (a8:yF):Option Int:=sK (rC (NA O a8) 0) λ_=>some (-1:Int)
abbrev Mn (x:(Ja3×yF)):List qP:=[sv (.list rQ) x.1,sv uG x.2]
@[go_sem] def Mo:(Ja3×yF)->r9:=fun(O,a8)=>rv [] (NB O a8) λz=>([iv z],[])
@[go_sem] def aKZ O a8:=rI Mn qV Mo (O,a8)
@[go_sem] abbrev aBC:Nat×r8:=mE 41 [.v,.v] Mn qV Mo
def aBD:qZ prog aBC:=
 rJ (rH (qO D2 (qO HS (qO G8 rG))) rF) func41 20 [(4,none)] rfl λE ⟨O,a8⟩=>by
  have u0:= @NB.eq_1;have u1:= @NA.eq_1
  let l1:LE (NA O a8):=⟨λx=>⟨[(0,sv (.list rQ) O),(3,rs 0 0),(5,iv x)],[(0,.cells uG a8 [])],1,20,0⟩⟩
  let x1:XE (NA O a8) 0 Unit:=⟨λ_=>⟨[],[],0,20,0⟩⟩
  exact rM
def NC (O:tP) (a8:pJ):Int->Option (Int⊕(Unit⊕(Int×Bool))):=λaA=>ite (decide (aA<(O.2.2.2.1.length:Int))) (ite (0<=aA/\aA<(O.2.2.2.1.length:Int)) (ite (decide ((qI tJ O.2.2.2.1 aA).1=a8)) (some (.inr (.inr (aA,true)))) (ite (qH (aA+1)) (some (.inl (aA+1))) none)) none) (some (.inr (.inl ())))
def SJ (O:tP) (a8:pJ):Option (Int×Bool):=sK (rC (NC O a8) 0) λ_=>some (0,false)
abbrev Mp (x:(tP×pJ)):List qP:=[sv vL x.1,tv x.2]
@[go_sem] def Mq:(tP×pJ)->r9:=fun(O,a8)=>rv [] (SJ O a8) λz=>([iv (z.1),bv (z.2)],[])
@[go_sem] def aK0 O a8:=rI Mp qV Mq (O,a8)
@[go_sem] abbrev aBE:Nat×r8:=mE 49 [.v,.v] Mp qV Mq
def aBF:qZ prog aBE:=
 rJ (rH (qO rY (qO JY (qO D3 (qO D4 rG)))) rF) func49 23 [(4,none),(5,none)] rfl λE ⟨O,a8⟩=>by
  have u0:= @SJ.eq_1;have u1:= @NC.eq_1
  let l1:LE (NC O a8):=⟨λx=>⟨[(1,tv a8),(2,rs 0 0),(6,iv x)],[(0,.cells vL O [])],1,23,0⟩⟩
  let x1:XE (NC O a8) 0 Unit:=⟨λ_=>⟨[],[],0,23,0⟩⟩
  exact rM
def G9 (O:pK):(Int×Int)->Option ((Int×Int)⊕Int):=fun(a8,aA)=>ite ((aA<(O.length:Int))&&(a8<1099511627776)) (ite (0<=aA/\aA<(O.length:Int)) (ite (qH (a8+((qI .str O aA).length:Int))) (ite (qH (aA+1)) (some (.inl ((a8+((qI .str O aA).length:Int)),(aA+1)))) none) none) none) (some (.inr a8))
def GB (O:(List wZ)):(Int×Int)->Option ((Int×Int)⊕Int):=fun(a8,aA)=>ite ((aA<(O.length:Int))&&(a8<1099511627776)) (ite (0<=aA/\aA<(O.length:Int)) (ite (qH (a8+(((qI sP O aA).1).length:Int))) (ite (0<=aA/\aA<(O.length:Int)) (ite (qH ((a8+(((qI sP O aA).1).length:Int))+(((qI sP O aA).2.1).length:Int))) (ite (qH (aA+1)) (some (.inl (((a8+(((qI sP O aA).1).length:Int))+(((qI sP O aA).2.1).length:Int)),(aA+1)))) none) none) none) none) none) (some (.inr a8))
def A6 (O:pK) (a8:(List wZ)):Option Int:=ite (qH ((O.length:Int)+(a8.length:Int))) (rD (rC (G9 O) (((O.length:Int)+(a8.length:Int)),0)) λaA=>rD (rC (GB a8) (aA,0)) λaB=>some (aB)) none
abbrev Mr (x:(pK×(List wZ))):List qP:=[sv (.list .str) x.1,sv (.list sP) x.2]
@[go_sem] def Ms:(pK×(List wZ))->r9:=fun(O,a8)=>rv [] (A6 O a8) λz=>([iv z],[])
@[go_sem] def aK1 O a8:=rI Mr qV Ms (O,a8)
@[go_sem] abbrev aBG:Nat×r8:=mE 52 [.v,.v] Mr qV Ms
def Mt:qZ prog aBG:=
 rJ (rH (qO rY (qO vF (qO D5 (qO N5 rG)))) rF) func52 56 [(4,none)] rfl λE ⟨O,a8⟩=>by
  have u0:= @A6.eq_1;have u1:= @G9.eq_1
  let l1:LE (G9 O):=⟨λx=>⟨[(0,sv (.list .str) O),(1,sv (.list sP) a8),(5,iv x.1),(6,iv x.2)],[],0,56,0⟩⟩
  have u2:= @GB.eq_1
  let l2:LE (GB a8):=⟨λx=>⟨[(1,sv (.list sP) a8),(5,iv x.1),(7,iv x.2)],[],0,56,0⟩⟩
  let x1:XE (G9 O) 0 Int:=⟨λx=>⟨[(1,sv (.list sP) a8),(5,iv x)],[],0,56,0⟩⟩
  let x2:XE (GB a8) 2 Int:=⟨λx=>⟨[(5,iv x)],[],0,56,0⟩⟩
  exact rM
def SK (O:wD):Option Unit:=ite (qH ((O.1.length:Int)+(O.2.1.length:Int))) (ite (qH (((O.1.length:Int)+(O.2.1.length:Int))+(O.2.2.1.length:Int))) (ite (((decide ((((O.1.length:Int)+(O.2.1.length:Int))+(O.2.2.1.length:Int))<=6000))==true)=true->(A6 O.2.2.2.1 O.2.2.2.2.2.2.1).isSome=true) (ite (((decide ((((O.1.length:Int)+(O.2.1.length:Int))+(O.2.2.1.length:Int))<=6000))==true)=true->(A6 O.2.2.2.2.1 ([]:List wZ)).isSome=true) (ite (((decide ((((O.1.length:Int)+(O.2.1.length:Int))+(O.2.2.1.length:Int))<=6000))==true)=true->qH ((val (A6 O.2.2.2.1 O.2.2.2.2.2.2.1))+(val (A6 O.2.2.2.2.1 ([]:List wZ))))) (some (())) none) none) none) none) none
abbrev Mu (x:wD):List qP:=[sv tJ x]
@[go_sem] def Mv:wD->r9:=λO=>rv [] (SK O) λz=>([bv (((((O.1.length:Int)+(O.2.1.length:Int))+(O.2.2.1.length:Int))<=6000)&&(((val (A6 O.2.2.2.1 O.2.2.2.2.2.2.1))+(val (A6 O.2.2.2.2.1 ([]:List wZ))))<=6000))],[])
@[go_sem] def aK2 O:=rI Mu qV Mv O
@[go_sem] abbrev aBH:Nat×r8:=mE 53 [.v] Mu qV Mv
def aBI:qZ prog aBH:=
 rJ (rH (qO rY (qO vF (qO D5 (qO D4 rG)))) (qS Mt rF)) func53 27 [(2,none)] rfl λE O=>by
  have u0:= @SK.eq_1;exact rM
def ND (O:pJ):Nat->Option (Nat⊕(Unit⊕Bool)):=λa8=>ite (decide (a8<O.length)) (ite ((decide (a8<O.length))=true) (ite ((((((xW O a8)<97)||(122<(xW O a8)))&&(((xW O a8)<65)||(90<(xW O a8))))&&(((xW O a8)<48)||(57<(xW O a8))))&&(!decide ((xW O a8)=45))) (some (.inr (.inr (false)))) (some (.inl (B7 O a8)))) none) (some (.inr (.inl ())))
def SL (O:pJ):Option Bool:=sK (rC (ND O) 0) λ_=>some ((1<=(O.length:Int))&&((O.length:Int)<=40))
abbrev Mw (x:pJ):List qP:=[tv x]
@[go_sem] def Mx:pJ->r9:=λO=>rv [] (SL O) λz=>([bv z],[])
@[go_sem] def aK3 O:=rI Mw qV Mx O
@[go_sem] abbrev aBJ:Nat×r8:=mE 54 [.v] Mw qV Mx
def aBK:qZ prog aBJ:=
 rJ (rH (qO rY rG) rF) func54 44 [(2,none)] rfl λE O=>by
  have u0:= @SL.eq_1;have u1:= @ND.eq_1
  let l1:LE (ND O):=⟨λx=>⟨[(0,tv O),(6,rs 0 0)],[(0,.iter O x)],1,44,0⟩⟩
  let x1:XE (ND O) 0 Unit:=⟨λ_=>⟨[(0,tv O)],[],0,44,0⟩⟩
  exact rM
def My:Unit:=()
abbrev Mz (x:Unit):List qP:=[]
@[go_sem] def Na:Unit->r9:=λ_=>⟨[],[(.val (.list .str) Qd8,some 0)],[.grow 9 1 (Qd8.length)]⟩
@[go_sem] def aK4:=rI Mz qV Na ()
@[go_sem] abbrev aBL:Nat×r8:=mE 60 [] Mz qV Na
def aBM:qZ prog aBL:=
 rJ (rH (qO vF rG) rF) func60 2 [(0,none)] rfl λE ⟨⟩=>by
  have u0:= @My.eq_1;have q0: ∃z,My=z:=⟨_,rfl⟩;exact xF
def JZ (O:pK):(pJ×Int)->Option ((pJ×Int)⊕pJ):=fun(a8,aA)=>ite (decide (aA<(O.length:Int))) (ite (decide (0<aA)) (ite (((a8++Qa9).length:Int)<=9223372036854775807) (ite (0<=aA/\aA<(O.length:Int)) (ite ((((a8++Qa9)++(qI .str O aA)).length:Int)<=9223372036854775807) (ite (qH (aA+1)) (some (.inl (((a8++Qa9)++(qI .str O aA)),(aA+1)))) none) none) none) none) (ite (0<=aA/\aA<(O.length:Int)) (ite (((a8++(qI .str O aA)).length:Int)<=9223372036854775807) (ite (qH (aA+1)) (some (.inl ((a8++(qI .str O aA)),(aA+1)))) none) none) none)) (some (.inr a8))
def SM (O:pK):Option pJ:=rD (rC (JZ O) (([]:pJ),0)) λa8=>some (a8)
abbrev Nb (x:pK):List qP:=[sv (.list .str) x]
@[go_sem] def Nc:pK->r9:=λO=>rv [] (SM O) λz=>([tv z],[])
@[go_sem] def aK5 O:=rI Nb qV Nc O
@[go_sem] abbrev aBN:Nat×r8:=mE 63 [.v] Nb qV Nc
def aBO:qZ prog aBN:=
 rJ (rH (qO rY (qO vF rG)) rF) func63 22 [(2,none)] rfl λE O=>by
  have u0:= @SM.eq_1;have u1:= @JZ.eq_1
  let l1:LE (JZ O):=⟨λx=>⟨[(0,sv (.list .str) O),(3,tv x.1),(4,iv x.2)],[],0,22,0⟩⟩
  let x1:XE (JZ O) 0 pJ:=⟨λx=>⟨[(3,tv x)],[],0,22,0⟩⟩
  exact rM
def WU (O:Int):Option Unit:=ite (0<=O/\O<(Qd8.length:Int)) (some (())) none
abbrev Nd (x:Int):List qP:=[iv x]
@[go_sem] def Nf:Int->r9:=λO=>rv [] (WU O) λz=>([tv (qI .str Qd8 O)],[])
@[go_sem] def aK6 O:=rI Nd qV Nf O
@[go_sem] abbrev aBP:Nat×r8:=mE 64 [.v] Nd qV Nf
def aBQ:qZ prog aBP:=
 rJ (rH (qO rY (qO vF rG)) rF) func64 9 [(2,none)] rfl λE O=>by
  have u0:= @WU.eq_1;exact rM
def K0 (O:pJ):Nat->Option (Nat⊕(Unit⊕Bool)):=λa8=>ite (decide (a8<O.length)) (ite ((decide (a8<O.length))=true) (ite ((decide (a8<O.length))=true) (ite ((97<=(xW O a8))&&((xW O a8)<=122)) (some (.inl (B7 O a8))) (ite ((0<((a8:Nat):Int))&&(((((48<=(xW O a8))&&((xW O a8)<=57))||((xW O a8)=45))||((xW O a8)=95))||((xW O a8)=46))) (some (.inl (B7 O a8))) (some (.inr (.inr (false)))))) none) none) (some (.inr (.inl ())))
def NE (O:pJ):Option Bool:=sK (rC (K0 O) 0) λ_=>some ((1<=(O.length:Int))&&((O.length:Int)<=40))
abbrev Ng (x:pJ):List qP:=[tv x]
@[go_sem] def Nh:pJ->r9:=λO=>rv [] (NE O) λz=>([bv z],[])
@[go_sem] def aK7 O:=rI Ng qV Nh O
@[go_sem] abbrev aBR:Nat×r8:=mE 89 [.v] Ng qV Nh
def Ni:qZ prog aBR:=
 rJ (rH (qO rY rG) rF) func89 51 [(2,none)] rfl λE O=>by
  have u0:= @NE.eq_1;have u1:= @K0.eq_1
  let l1:LE (K0 O):=⟨λx=>⟨[(0,tv O),(7,rs 0 0)],[(0,.iter O x)],1,51,0⟩⟩
  let x1:XE (K0 O) 0 Unit:=⟨λ_=>⟨[(0,tv O)],[],0,51,0⟩⟩
  exact rM
def NF (O:pK):Int->Option (Int⊕(Unit⊕Bool)):=λa8=>ite (decide (a8<(O.length:Int))) (ite (0<=a8/\a8<(O.length:Int)) ((NE (qI .str O a8)).bind λaA=>ite ((((!aA)==false)&&((decide (0<a8))==true))=true->qH (a8- 1)) (ite ((((!aA)==false)&&((decide (0<a8))==true))=true->0<=(a8- 1)/\(a8- 1)<(O.length:Int)) (ite ((!aA)||((0<a8)&&(!Op.bytesLess (qI .str O (a8- 1)) (qI .str O a8)))) (some (.inr (.inr (false)))) (ite (qH (a8+1)) (some (.inl (a8+1))) none)) none) none) none) (some (.inr (.inl ())))
def K1 (O:pK):Option Bool:=sK (rC (NF O) 0) λ_=>some (decide ((O.length:Int)<=20))
abbrev Nj (x:pK):List qP:=[sv (.list .str) x]
@[go_sem] def Nk:pK->r9:=λO=>rv [] (K1 O) λz=>([bv z],[])
@[go_sem] def aK8 O:=rI Nj qV Nk O
@[go_sem] abbrev aBS:Nat×r8:=mE 90 [.v] Nj qV Nk
def aBT:qZ prog aBS:=
 rJ (rH (qO rY (qO vF rG)) (qS Ni rF)) func90 32 [(2,none)] rfl λE O=>by
  have u0:= @K1.eq_1;have u1:= @NF.eq_1
  let l1:LE (NF O):=⟨λx=>⟨[(0,sv (.list .str) O),(5,sv (.list .str) O),(6,iv (O.length:Int)),(7,iv x)],[],0,32,0⟩⟩
  let x1:XE (NF O) 0 Unit:=⟨λ_=>⟨[(0,sv (.list .str) O)],[],0,32,0⟩⟩
  exact rM
def Nl (O:Int):Unit:=()
abbrev Nn (x:Int):List qP:=[iv x]
@[go_sem] def No:Int->r9:=λO=>⟨[],[bv ((1<=O)&&(O<=4))],[]⟩
@[go_sem] def aK9 O:=rI Nn qV No O
@[go_sem] abbrev aBU:Nat×r8:=mE 91 [.v] Nn qV No
def aBV:qZ prog aBU:=
 rJ (rH rG rF) func91 9 [(2,none)] rfl λE O=>by
  have u0:= @Nl.eq_1;have q0: ∃z,(Nl O)=z:=⟨_,rfl⟩;exact xF
attribute [irreducible] N9 A5 NB SJ A6 SK SL SM WU NE K1
end
noncomputable section
def HY (O:(pU×Unit)) (a8:pJ):Option Unit:=ite (O.1.length+a8.length<=140737488355328) (some (())) none
abbrev Np (x:(pJ×(pU×Unit)×Nat)):List qP:=[rs 0 0,tv x.1]
abbrev Nq (x:(pJ×(pU×Unit)×Nat)):List qQ:=[.cells vC ((some (0,0)),x.2.1) [(1,1)],.grow 5 1 x.2.2]
@[go_sem] def Nr:(pJ×(pU×Unit)×Nat)->r9:=fun(O,a8,aA)=>rv [aA=(a8.1.length)] (HY a8 O) λz=>([iv (O.length:Int),(.any,none)],[.cells vC ((some (0,0)),((a8.1++tK O),())) [(1,1)],.grow 5 1 ((a8.1++tK O).length)])
@[go_sem] def aLa O a8 aA:=rI Np Nq Nr (O,a8,aA)
@[go_sem] abbrev aBW:Nat×r8:=mE 92 [.p vC [1],.v] Np Nq Nr
def Ns:qZ prog aBW:=
 rJ (rH (qO rY (qO HT (qO WR rG))) (qS Me rF)) func92 19 [(4,none),(5,none)] rfl λE ⟨O,a8,aA⟩=>by
  have u0:= @HY.eq_1;exact rM
def Nt (O:Int):Unit:=()
abbrev Nu (x:Int):List qP:=[iv x]
@[go_sem] def Nv:Int->r9:=λO=>⟨[],[bv ((1<=O)&&(O<=4))],[]⟩
@[go_sem] def aLb O:=rI Nu qV Nv O
@[go_sem] abbrev aBX:Nat×r8:=mE 100 [.v] Nu qV Nv
def aBY:qZ prog aBX:=
 rJ (rH rG rF) func100 9 [(2,none)] rfl λE O=>by
  have u0:= @Nt.eq_1;have q0: ∃z,(Nt O)=z:=⟨_,rfl⟩;exact xF
def Nw (O:Int):Unit:=()
abbrev Nx (x:Int):List qP:=[sv (.int .u8) x]
@[go_sem] def Ny:Int->r9:=λO=>⟨[],[bv ((97<=O)&&(O<=122))],[]⟩
@[go_sem] def aLc O:=rI Nx qV Ny O
@[go_sem] abbrev aBZ:Nat×r8:=mE 123 [.v] Nx qV Ny
def Nz:qZ prog aBZ:=
 rJ (rH rG rF) func123 9 [(2,none)] rfl λE O=>by
  have u0:= @Nw.eq_1;have q0: ∃z,(Nw O)=z:=⟨_,rfl⟩;exact xF
def Oa (O:Int):Unit:=()
abbrev Ob (x:Int):List qP:=[sv (.int .u8) x]
@[go_sem] def Oc:Int->r9:=λO=>⟨[],[bv ((48<=O)&&(O<=57))],[]⟩
@[go_sem] def aLd O:=rI Ob qV Oc O
@[go_sem] abbrev aB0:Nat×r8:=mE 124 [.v] Ob qV Oc
def Od:qZ prog aB0:=
 rJ (rH rG rF) func124 9 [(2,none)] rfl λE O=>by
  have u0:= @Oa.eq_1;have q0: ∃z,(Oa O)=z:=⟨_,rfl⟩;exact xF
def NH (O:pJ):Int->Option (Int⊕(Unit⊕Bool)):=λa8=>ite (decide (a8<(O.length:Int))) (ite (0<=a8/\a8<(O.length:Int)) (ite (((((!((97<=(r7 O a8))&&((r7 O a8)<=122)))&&(!((48<=(r7 O a8))&&((r7 O a8)<=57))))&&(!decide ((r7 O a8)=45)))&&(!decide ((r7 O a8)=95)))&&(!decide ((r7 O a8)=46))) (some (.inr (.inr (false)))) (ite (qH (a8+1)) (some (.inl (a8+1))) none)) none) (some (.inr (.inl ())))
def NI (O:pJ):Option Bool:=ite (((((O.length:Int)<1)||(40<(O.length:Int)))==false)=true->0<=(0:Int)/\0<(O.length:Int)) (ite ((((O.length:Int)<1)||(40<(O.length:Int)))||(!((97<=(r7 O 0))&&((r7 O 0)<=122)))) (some (false)) (sK (rC (NH O) 1) λ_=>some (true))) none
abbrev Oe (x:pJ):List qP:=[tv x]
@[go_sem] def Of:pJ->r9:=λO=>rv [] (NI O) λz=>([bv z],[])
@[go_sem] def aLe O:=rI Oe qV Of O
@[go_sem] abbrev aB1:Nat×r8:=mE 125 [.v] Oe qV Of
def Og:qZ prog aB1:=
 rJ (rH (qO rY rG) (qS Nz (qS Od rF))) func125 48 [(2,none)] rfl λE O=>by
  have u0:= @NI.eq_1;have u1:= @NH.eq_1
  let l1:LE (NH O):=⟨λx=>⟨[(0,tv O),(3,iv x)],[],0,48,0⟩⟩
  let x1:XE (NH O) 0 Unit:=⟨λ_=>⟨[],[],0,48,0⟩⟩
  exact rM
def WV (O:pJ):Option Unit:=ite (O.length<=9223372036854775807) (some (())) none
abbrev Oh (x:pJ):List qP:=[tv x]
@[go_sem] def Oi:pJ->r9:=λO=>rv [] (WV O) λz=>([bv (Lib.validD O)],[])
@[go_sem] def aLf O:=rI Oh qV Oi O
@[go_sem] abbrev aB2:Nat×r8:=mE 128 [.v] Oh qV Oi
def aB3:qZ prog aB2:=
 rJ (rH rG (qS aBh rF)) func128 5 [(2,none)] rfl λE O=>by
  have u0:= @WV.eq_1;exact rM
def Oj (O:Int):Unit:=()
abbrev Ok (x:Int):List qP:=[sv (.int .u8) x]
@[go_sem] def Ol:Int->r9:=λO=>⟨[],[bv ((O<32)||(O=127))],[]⟩
@[go_sem] def aLg O:=rI Ok qV Ol O
@[go_sem] abbrev aB4:Nat×r8:=mE 130 [.v] Ok qV Ol
def aB5:qZ prog aB4:=
 rJ (rH rG rF) func130 9 [(2,none)] rfl λE O=>by
  have u0:= @Oj.eq_1;have q0: ∃z,(Oj O)=z:=⟨_,rfl⟩;exact xF
def WW (O:Int) (a8:Int):Option Unit:=ite (0<=(IntKind.wrap .i64 O)/\(IntKind.wrap .i64 O)<256/\tq 16) (ite (qH (a8- ((xQ (IntKind.wrap .i64 O) 16).length:Int))) (ite (0<=(a8- ((xQ (IntKind.wrap .i64 O) 16).length:Int))/\(a8- ((xQ (IntKind.wrap .i64 O) 16).length:Int))<=140737488355328/\(Qb0.length:Int)*(a8- ((xQ (IntKind.wrap .i64 O) 16).length:Int))<=140737488355328) (ite ((((MX Qb0 (a8- ((xQ (IntKind.wrap .i64 O) 16).length:Int)))++(xQ (IntKind.wrap .i64 O) 16)).length:Int)<=9223372036854775807) (some (())) none) none) none) none
abbrev Om (x:(Int×Int)):List qP:=[sv (.int .u8) x.1,iv x.2]
@[go_sem] def On:(Int×Int)->r9:=fun(O,a8)=>rv [] (WW O a8) λz=>([tv ((MX Qb0 (a8- ((xQ (IntKind.wrap .i64 O) 16).length:Int)))++(xQ (IntKind.wrap .i64 O) 16))],[])
@[go_sem] def aLh O a8:=rI Om qV On (O,a8)
@[go_sem] abbrev aB6:Nat×r8:=mE 133 [.v,.v] Om qV On
def aB7:qZ prog aB6:=
 rJ (rH (qO aBa (qO HU (qO rY rG))) (qS aBk (qS aBm rF))) func133 16 [(4,none)] rfl λE ⟨O,a8⟩=>by
  have u0:= @WW.eq_1;exact rM
def ef (O:Int) (a8:pJ):Int->Option (Int⊕(Unit⊕Bool)):=λaA=>ite (decide (aA<(a8.length:Int))) (ite (0<=aA/\aA<(a8.length:Int)) (ite (decide ((r7 a8 aA)=O)) (some (.inr (.inr (true)))) (ite (qH (aA+1)) (some (.inl (aA+1))) none)) none) (some (.inr (.inl ())))
def K2 (O:Int) (a8:pJ):Option Bool:=sK (rC (ef O a8) 0) λ_=>some (false)
abbrev Oo (x:(Int×pJ)):List qP:=[sv (.int .u8) x.1,tv x.2]
@[go_sem] def Oq:(Int×pJ)->r9:=fun(O,a8)=>rv [] (K2 O a8) λz=>([bv z],[])
@[go_sem] def aLi O a8:=rI Oo qV Oq (O,a8)
@[go_sem] abbrev aB8:Nat×r8:=mE 139 [.v,.v] Oo qV Oq
def aB9:qZ prog aB8:=
 rJ (rH (qO rY rG) rF) func139 17 [(4,none)] rfl λE ⟨O,a8⟩=>by
  have u0:= @K2.eq_1;have u1:= @ef.eq_1
  let l1:LE (ef O a8):=⟨λx=>⟨[(0,sv (.int .u8) O),(1,tv a8),(5,iv x)],[],0,17,0⟩⟩
  let x1:XE (ef O a8) 0 Unit:=⟨λ_=>⟨[],[],0,17,0⟩⟩
  exact rM
def WX (O:Int):Option Unit:=ite (0<=(IntKind.wrap .i64 (Int.tdiv O 16))/\(IntKind.wrap .i64 (Int.tdiv O 16))<(Qb6.length:Int)) (ite (0<=(Int.tmod O 16)/\(Int.tmod O 16)<(Qb6.length:Int)) (some (())) none) none
abbrev Ot (x:Int):List qP:=[iv x]
@[go_sem] def Ou:Int->r9:=λO=>rv [] (WX O) λz=>([tv (tU ([(r7 Qb6 (IntKind.wrap .i64 (Int.tdiv O 16))),(r7 Qb6 (Int.tmod O 16))]:pU))],[])
@[go_sem] def aLj O:=rI Ot qV Ou O
@[go_sem] abbrev aCa:Nat×r8:=mE 140 [.v] Ot qV Ou
def aCb:qZ prog aCa:=
 rJ (rH (qO HU (qO rY (qO HT rG))) rF) func140 11 [(2,none)] rfl λE O=>by
  have u0:= @WX.eq_1;exact rM
def Ov (O:Int):Unit:=()
abbrev Ow (x:Int):List qP:=[iv x]
@[go_sem] def Ox:Int->r9:=λO=>⟨[],[bv (((O=7)||(O=8))||(O=9))],[]⟩
@[go_sem] def aLk O:=rI Ow qV Ox O
@[go_sem] abbrev aCc:Nat×r8:=mE 158 [.v] Ow qV Ox
def eh:qZ prog aCc:=
 rJ (rH rG rF) func158 13 [(2,none)] rfl λE O=>by
  have u0:= @Ov.eq_1;have q0: ∃z,(Ov O)=z:=⟨_,rfl⟩;exact xF
def vU (O:pJ) (a8:Ja2) (aA:Int) (aB:pR) (aC:pS):Option Int:=ite ((!decide (aB.2.1=0))||((a8.length:Int)<=aA)) (some (0)) (ite (0<=aA/\aA<(a8.length:Int)) (some ((qI sO a8 aA).1)) none)
abbrev Oy (x:(pJ×Ja2×Int×pR×pS)):List qP:=[rs 0 0]
abbrev Oz (x:(pJ×Ja2×Int×pR×pS)):List qQ:=[.cells tG (x.1,(x.2.1,(x.2.2.1,((some 1),x.2.2.2.1)))) [],.map .str .bool x.2.2.2.2]
@[go_sem] def Pa:(pJ×Ja2×Int×pR×pS)->r9:=fun(O,a8,aA,aB,aC)=>rv [] (vU O a8 aA aB aC) λz=>([iv z],[.cells tG (O,(a8,(aA,((some 1),(aB.1,(aB.2.1,())))))) [],.map .str .bool aC])
@[go_sem] def aLl O a8 aA aB aC:=rI Oy Oz Pa (O,a8,aA,aB,aC)
@[go_sem] abbrev aCd:Nat×r8:=mE 193 [.p tG []] Oy Oz Pa [(0,3,.m)] [0,1]
def C2:qZ prog aCd:=
 rJ (rH (qO tO (qO BD (qO A4 (qO zJ (qO AQ rG))))) rF) func193 31 [(2,none)] rfl λE ⟨O,a8,aA,aB,aC⟩=>by
  have u0:= @vU.eq_1;exact rM
def WY (O:pJ) (a8:Ja2) (aA:Int) (aB:pR) (aC:pS):Option Int:=ite (decide (aA<(a8.length:Int))) (ite (0<=aA/\aA<(a8.length:Int)) (some ((qI sO a8 aA).2.2.1)) none) (some (O.length:Int))
abbrev Pb (x:(pJ×Ja2×Int×pR×pS)):List qP:=[rs 0 0]
abbrev Pc (x:(pJ×Ja2×Int×pR×pS)):List qQ:=[.cells tG (x.1,(x.2.1,(x.2.2.1,((some 1),x.2.2.2.1)))) [],.map .str .bool x.2.2.2.2]
@[go_sem] def Pd:(pJ×Ja2×Int×pR×pS)->r9:=fun(O,a8,aA,aB,aC)=>rv [] (WY O a8 aA aB aC) λz=>([iv z],[.cells tG (O,(a8,(aA,((some 1),(aB.1,(aB.2.1,())))))) [],.map .str .bool aC])
@[go_sem] def aLm O a8 aA aB aC:=rI Pb Pc Pd (O,a8,aA,aB,aC)
@[go_sem] abbrev aCe:Nat×r8:=mE 199 [.p tG []] Pb Pc Pd [(0,3,.m)] [0,1]
def aCf:qZ prog aCe:=
 rJ (rH (qO tO (qO rY (qO A4 (qO zJ (qO AQ rG))))) rF) func199 29 [(2,none)] rfl λE ⟨O,a8,aA,aB,aC⟩=>by
  have u0:= @WY.eq_1;exact rM
def Pe:Unit:=()
abbrev Pf (x:Unit):List qP:=[]
@[go_sem] def Pg:Unit->r9:=λ_=>⟨[],[sv .mp (some 0)],[.map .str (.int .i64) (rN .str (.int .i64) Qa0 9 (rN .str (.int .i64) Qa1 8 (rN .str (.int .i64) Qa2 7 (rN .str (.int .i64) Qa3 6 (rN .str (.int .i64) Qa4 5 (rN .str (.int .i64) Qa5 4 (rN .str (.int .i64) Qa6 3 ([]:List (pJ×Int)))))))))]⟩
@[go_sem] def aLn:=rI Pf qV Pg ()
@[go_sem] abbrev Ph:Nat×r8:=mE 203 [] Pf qV Pg
def WZ:qZ prog Ph:=
 rJ (rH (qO tO (qO rY (qO N6 rG))) rF) func203 3 [(0,none)] rfl λE ⟨⟩=>by
  have u0:= @Pe.eq_1;have q0: ∃z,Pe=z:=⟨_,rfl⟩;exact xF
def Pi (O:Int):Unit:=()
abbrev Pj (x:Int):List qP:=[iv x]
@[go_sem] def Pk:Int->r9:=λO=>⟨[],[bv ((7<=O)&&(O<=9))],[]⟩
@[go_sem] def aLo O:=rI Pj qV Pk O
@[go_sem] abbrev Pm:Nat×r8:=mE 204 [.v] Pj qV Pk
def EL:qZ prog Pm:=
 rJ (rH rG rF) func204 9 [(2,none)] rfl λE O=>by
  have u0:= @Pi.eq_1;have q0: ∃z,(Pi O)=z:=⟨_,rfl⟩;exact xF
def Pn (O:Int):Unit:=()
abbrev Po (x:Int):List qP:=[sv (.int .u8) x]
@[go_sem] def Pp:Int->r9:=λO=>⟨[],[bv (((O=32)||(O=9))||(O=10))],[]⟩
@[go_sem] def aLp O:=rI Po qV Pp O
@[go_sem] abbrev aCg:Nat×r8:=mE 207 [.v] Po qV Pp
def aCh:qZ prog aCg:=
 rJ (rH rG rF) func207 13 [(2,none)] rfl λE O=>by
  have u0:= @Pn.eq_1;have q0: ∃z,(Pn O)=z:=⟨_,rfl⟩;exact xF
def vG (O:s9):Option (Int×pJ×Int×Int):=ite (decide ((O.1.length:Int)=0)) (some (0,([]:pJ),O.2.1,O.2.1)) (ite (0<=(0:Int)/\0<(O.1.length:Int)) (some ((qI sO O.1 0).1,(qI sO O.1 0).2.1,(qI sO O.1 0).2.2.1,(qI sO O.1 0).2.2.2.1)) none)
abbrev Pq (x:(s9×Nat)):List qP:=[rs 0 0]
abbrev Pr (x:(s9×Nat)):List qQ:=[.cells tZ x.1 [(2,1)],.grow 9 1 x.2]
@[go_sem] def Ps:(s9×Nat)->r9:=fun(O,a8)=>rv [a8=(O.2.2.1.length)] (vG O) λz=>([sv sO (z.1,(z.2.1,(z.2.2.1,(z.2.2.2,()))))],[.cells tZ O [(2,1)],.grow 9 1 (O.2.2.1.length)])
@[go_sem] def aLq O a8:=rI Pq Pr Ps (O,a8)
@[go_sem] abbrev aCi:Nat×r8:=mE 210 [.p tZ [2]] Pq Pr Ps [] [0,1]
def K3:qZ prog aCi:=
 rJ (rH (qO tO (qO dv (qO HV (qO D6 rG)))) rF) func210 24 [(2,some 228)] rfl λE ⟨O,a8⟩=>by
  have u0:= @vG.eq_1;exact rM
def NJ (O:pK) (a8:pJ):Int->Option (Int⊕(Unit⊕Bool)):=λaA=>ite (decide (aA<(O.length:Int))) (ite (0<=aA/\aA<(O.length:Int)) (ite (decide ((qI .str O aA)=a8)) (some (.inr (.inr (true)))) (ite (qH (aA+1)) (some (.inl (aA+1))) none)) none) (some (.inr (.inl ())))
def zB (O:pK) (a8:pJ):Option Bool:=sK (rC (NJ O a8) 0) λ_=>some (false)
abbrev Pt (x:(pK×pJ)):List qP:=[sv (.list .str) x.1,tv x.2]
@[go_sem] def Pu:(pK×pJ)->r9:=fun(O,a8)=>rv [] (zB O a8) λz=>([bv z],[])
@[go_sem] def aLr O a8:=rI Pt qV Pu (O,a8)
@[go_sem] abbrev aCj:Nat×r8:=mE 218 [.v,.v] Pt qV Pu
def ej:qZ prog aCj:=
 rJ (rH (qO rY (qO vF rG)) rF) func218 18 [(4,none)] rfl λE ⟨O,a8⟩=>by
  have u0:= @zB.eq_1;have u1:= @NJ.eq_1
  let l1:LE (NJ O a8):=⟨λx=>⟨[(0,sv (.list .str) O),(1,tv a8),(5,iv x)],[],0,18,0⟩⟩
  let x1:XE (NJ O a8) 0 Unit:=⟨λ_=>⟨[],[],0,18,0⟩⟩
  exact rM
def Pv (O:Int):Unit:=()
abbrev Pw (x:Int):List qP:=[iv x]
@[go_sem] def Px:Int->r9:=λO=>⟨[],[bv ((O=7)||(O=8))],[]⟩
@[go_sem] def aLs O:=rI Pw qV Px O
@[go_sem] abbrev aCk:Nat×r8:=mE 219 [.v] Pw qV Px
def Py:qZ prog aCk:=
 rJ (rH rG rF) func219 9 [(2,none)] rfl λE O=>by
  have u0:= @Pv.eq_1;have q0: ∃z,(Pv O)=z:=⟨_,rfl⟩;exact xF
def Pz (O:Int):Unit:=()
abbrev Qa (x:Int):List qP:=[sv (.int .u8) x]
@[go_sem] def Qb:Int->r9:=λO=>⟨[],[bv ((((((O=123)||(O=125))||(O=60))||(O=62))||(O=35))||(O=92))],[]⟩
@[go_sem] def aLt O:=rI Qa qV Qb O
@[go_sem] abbrev aCl:Nat×r8:=mE 221 [.v] Qa qV Qb
def vo:qZ prog aCl:=
 rJ (rH rG rF) func221 25 [(2,none)] rfl λE O=>by
  have u0:= @Pz.eq_1;have q0: ∃z,(Pz O)=z:=⟨_,rfl⟩;exact xF
def Qc (O:Int):Unit:=()
abbrev Qd (x:Int):List qP:=[iv x]
@[go_sem] def Qe:Int->r9:=λO=>⟨[],[bv (((0<=O)&&(O<=1114111))&&((O<55296)||(57343<O)))],[]⟩
@[go_sem] def aLu O:=rI Qd qV Qe O
@[go_sem] abbrev aCm:Nat×r8:=mE 235 [.v] Qd qV Qe
def Qf:qZ prog aCm:=
 rJ (rH rG rF) func235 17 [(2,none)] rfl λE O=>by
  have u0:= @Qc.eq_1;have q0: ∃z,(Qc O)=z:=⟨_,rfl⟩;exact xF
attribute [irreducible] HY NI WV WW K2 WX vU WY vG zB
end
noncomputable section
def SN (O:pJ) (a8:pJ):Option Unit:=ite (((decide ((a8.length:Int)<=(O.length:Int)))==true)=true->0<=(0:Int)/\0<=(a8.length:Int)/\(a8.length:Int)<=(O.length:Int)) (some (())) none
abbrev Qg (x:(pJ×pJ)):List qP:=[tv x.1,tv x.2]
@[go_sem] def Qh:(pJ×pJ)->r9:=fun(O,a8)=>rv [] (SN O a8) λz=>([bv (((a8.length:Int)<=(O.length:Int))&&((s8 O 0 (a8.length:Int))=a8))],[])
@[go_sem] def aLv O a8:=rI Qg qV Qh (O,a8)
@[go_sem] abbrev aCn:Nat×r8:=mE 222 [.v,.v] Qg qV Qh
def aCo:qZ prog aCn:=
 rJ (rH (qO rY rG) rF) func222 18 [(4,none)] rfl λE ⟨O,a8⟩=>by
  have u0:= @SN.eq_1;exact rM
def GD (O:(pU×Unit)) (a8:Int):Option Unit:=ite ((O.1.length+([a8]:pU).length)*1<=140737488355328) (some (())) none
abbrev Qi (x:(Int×(pU×Unit)×Nat)):List qP:=[rs 0 0,sv (.int .u8) x.1]
abbrev Qj (x:(Int×(pU×Unit)×Nat)):List qQ:=[.cells vC ((some (0,0)),x.2.1) [(1,1)],.grow 5 1 x.2.2]
@[go_sem] def Qk:(Int×(pU×Unit)×Nat)->r9:=fun(O,a8,aA)=>rv [aA=(a8.1.length)] (GD a8 O) λz=>([(.any,none)],[.cells vC ((some (0,0)),((a8.1++([O]:pU)),())) [(1,1)],.grow 5 1 ((a8.1++([O]:pU)).length)])
@[go_sem] def aLw O a8 aA:=rI Qi Qj Qk (O,a8,aA)
@[go_sem] abbrev aCp:Nat×r8:=mE 226 [.p vC [1],.v] Qi Qj Qk
def Ql:qZ prog aCp:=
 rJ (rH (qO HT (qO WR rG)) (qS Me rF)) func226 17 [(4,none)] rfl λE ⟨O,a8,aA⟩=>by
  have u0:= @GD.eq_1;exact rM
def SO (O:pJ) (a8:pJ):Option (pJ×Bool):=(SN O a8).bind λaA=>ite (!(((a8.length:Int)<=(O.length:Int))&&((s8 O 0 (a8.length:Int))=a8))) (some (O,false)) (ite (0<=(a8.length:Int)/\(a8.length:Int)<=(O.length:Int)/\(O.length:Int)<=(O.length:Int)) (some ((s8 O (a8.length:Int) (O.length:Int)),true)) none)
abbrev Qm (x:(pJ×pJ)):List qP:=[tv x.1,tv x.2]
@[go_sem] def Qn:(pJ×pJ)->r9:=fun(O,a8)=>rv [] (SO O a8) λz=>([tv (z.1),bv (z.2)],[])
@[go_sem] def aLx O a8:=rI Qm qV Qn (O,a8)
@[go_sem] abbrev aCq:Nat×r8:=mE 232 [.v,.v] Qm qV Qn
def aCr:qZ prog aCq:=
 rJ (rH (qO rY rG) (qS aCo rF)) func232 15 [(4,none),(5,none)] rfl λE ⟨O,a8⟩=>by
  have u0:= @SO.eq_1;exact rM
def FH (O:Int):Option pJ:=ite (decide (O<128)) (some (tU ([(IntKind.wrap .u8 O)]:pU))) (ite (decide (O<2048)) (ite (qH (192+(IntKind.wrap .i64 (Int.tdiv O 64)))) (ite (qH (128+(Int.tmod O 64))) (some (tU ([(IntKind.wrap .u8 (192+(IntKind.wrap .i64 (Int.tdiv O 64)))),(IntKind.wrap .u8 (128+(Int.tmod O 64)))]:pU))) none) none) (ite (decide (O<65536)) (ite (qH (224+(IntKind.wrap .i64 (Int.tdiv O 4096)))) (ite (qH (128+(Int.tmod (IntKind.wrap .i64 (Int.tdiv O 64)) 64))) (ite (qH (128+(Int.tmod O 64))) (some (tU ([(IntKind.wrap .u8 (224+(IntKind.wrap .i64 (Int.tdiv O 4096)))),(IntKind.wrap .u8 (128+(Int.tmod (IntKind.wrap .i64 (Int.tdiv O 64)) 64))),(IntKind.wrap .u8 (128+(Int.tmod O 64)))]:pU))) none) none) none) (ite (qH (240+(IntKind.wrap .i64 (Int.tdiv O 262144)))) (ite (qH (128+(Int.tmod (IntKind.wrap .i64 (Int.tdiv O 4096)) 64))) (ite (qH (128+(Int.tmod (IntKind.wrap .i64 (Int.tdiv O 64)) 64))) (ite (qH (128+(Int.tmod O 64))) (some (tU ([(IntKind.wrap .u8 (240+(IntKind.wrap .i64 (Int.tdiv O 262144)))),(IntKind.wrap .u8 (128+(Int.tmod (IntKind.wrap .i64 (Int.tdiv O 4096)) 64))),(IntKind.wrap .u8 (128+(Int.tmod (IntKind.wrap .i64 (Int.tdiv O 64)) 64))),(IntKind.wrap .u8 (128+(Int.tmod O 64)))]:pU))) none) none) none) none)))
abbrev Qo (x:Int):List qP:=[iv x]
@[go_sem] def Qp:Int->r9:=λO=>rv [] (FH O) λz=>([tv z],[])
@[go_sem] def aLy O:=rI Qo qV Qp O
@[go_sem] abbrev aCs:Nat×r8:=mE 236 [.v] Qo qV Qp
def Qq:qZ prog aCs:=
 rJ (rH (qO tO (qO HU (qO rY (qO HT rG)))) rF) func236 61 [(2,none)] rfl λE O=>by
  have u0:= @FH.eq_1;exact rM
def Qr (O:pJ) (a8:(List (pJ×Int))):Unit:=()
abbrev Qs (x:(pJ×(List (pJ×Int)))):List qP:=[tv x.1,rs 0 0]
abbrev Qt (x:(pJ×(List (pJ×Int)))):List qQ:=[.cells .mp (some 1) [],.map .str (.int .i64) x.2]
@[go_sem] def Qu:(pJ×(List (pJ×Int)))->r9:=fun(O,a8)=>⟨[],[bv (!decide ((sC .str (.int .i64) a8 O)=0))],[.cells .mp (some 1) [],.map .str (.int .i64) a8]⟩
@[go_sem] def aLz O a8:=rI Qs Qt Qu (O,a8)
@[go_sem] abbrev aCt:Nat×r8:=mE 253 [.v,.p .mp []] Qs Qt Qu [(0,0,.m)] [0,1]
def aCu:qZ prog aCt:=
 rJ (rH (qO tO (qO rY (qO N6 rG))) rF) func253 8 [(3,none)] rfl λE ⟨O,a8⟩=>by
  have u0:= @Qr.eq_1;have q0: ∃z,(Qr O a8)=z:=⟨_,rfl⟩;exact xF
def Qv (O:pJ):Unit:=()
abbrev Qw (x:pJ):List qP:=[tv x]
@[go_sem] def Qx:pJ->r9:=λO=>⟨[],[bv ((O=Qc4)||(O=Qc5))],[]⟩
@[go_sem] def aLA O:=rI Qw qV Qx O
@[go_sem] abbrev aCv:Nat×r8:=mE 255 [.v] Qw qV Qx
def aCw:qZ prog aCv:=
 rJ (rH rG rF) func255 9 [(2,none)] rfl λE O=>by
  have u0:= @Qv.eq_1;have q0: ∃z,(Qv O)=z:=⟨_,rfl⟩;exact xF
def NK (O:pJ):Int->Option (Int⊕(Unit⊕Bool)):=λa8=>ite (decide (a8<(O.length:Int))) (ite (0<=a8/\a8<(O.length:Int)) (ite ((((r7 O a8)<97)||(122<(r7 O a8)))&&(((r7 O a8)<65)||(90<(r7 O a8)))) (some (.inr (.inr (false)))) (ite (qH (a8+1)) (some (.inl (a8+1))) none)) none) (some (.inr (.inl ())))
def K4 (O:pJ):Option Bool:=sK (rC (NK O) 0) λ_=>some ((!decide (O=([]:pJ)))&&((O.length:Int)<=40))
abbrev Qy (x:pJ):List qP:=[tv x]
@[go_sem] def Qz:pJ->r9:=λO=>rv [] (K4 O) λz=>([bv z],[])
@[go_sem] def aLB O:=rI Qy qV Qz O
@[go_sem] abbrev aCx:Nat×r8:=mE 257 [.v] Qy qV Qz
def Ra:qZ prog aCx:=
 rJ (rH (qO rY rG) rF) func257 35 [(2,none)] rfl λE O=>by
  have u0:= @K4.eq_1;have u1:= @NK.eq_1
  let l1:LE (NK O):=⟨λx=>⟨[(0,tv O),(6,iv (O.length:Int)),(7,iv x)],[],0,35,0⟩⟩
  let x1:XE (NK O) 0 Unit:=⟨λ_=>⟨[(0,tv O)],[],0,35,0⟩⟩
  exact rM
def K5 (O:Int):Bool:=ite (decide (O=123)) (ite (decide (O=123)) (true) (false)) (ite (decide (O=125)) (ite (decide (O=125)) (true) (false)) (ite (decide (O=60)) (ite (decide (O=60)) (true) (false)) (ite (decide (O=62)) (ite (decide (O=62)) (true) (false)) (ite (decide (O=35)) (ite (decide (O=35)) (true) (false)) (ite (decide (O=92)) (true) (false))))))
abbrev Rb (x:Int):List qP:=[sv (.int .u8) x]
@[go_sem] def Rc:Int->r9:=λO=>⟨[],[bv (K5 O)],[]⟩
@[go_sem] def aLC O:=rI Rb qV Rc O
@[go_sem] abbrev aCy:Nat×r8:=mE 259 [.v] Rb qV Rc
def Re:qZ prog aCy:=
 rJ (rH rG rF) func259 11 [(2,none)] rfl λE O=>by
  have u0:= @K5.eq_1;have q0: ∃z,(K5 O)=z:=⟨_,rfl⟩;exact xF
def NL (O:pK):(Int×pU)->Option ((Int×pU)⊕pU):=fun(a8,aA)=>ite (decide (a8<(O.length:Int))) (ite (0<=a8/\a8<(O.length:Int)) ((HY (aA,()) (qI .str O a8)).bind λaB=>ite (qH (a8+1)) (some (.inl ((a8+1),(aA++tK (qI .str O a8))))) none) none) (some (.inr aA))
def zK (O:(pU×Unit)) (a8:pK):Option pU:=rD (rC (NL a8) (0,O.1)) λaA=>some (aA)
abbrev Rf (x:(pK×(pU×Unit)×Nat)):List qP:=[rs 0 0,sv (.list .str) x.1]
abbrev Rg (x:(pK×(pU×Unit)×Nat)):List qQ:=[.cells (.pair vC .unit) (((some (0,0)),x.2.1),()) [(1,1)],.grow 5 1 x.2.2]
@[go_sem] def Rh:(pK×(pU×Unit)×Nat)->r9:=fun(O,a8,aA)=>rv [aA=(a8.1.length)] (zK a8 O) λz=>([],[.cells (.pair vC .unit) (((some (0,0)),(z,())),()) [(1,1)],.grow 5 1 (z.length)])
@[go_sem] def aLD O a8 aA:=rI Rf Rg Rh (O,a8,aA)
@[go_sem] abbrev aCz:Nat×r8:=mE 262 [.p (.pair vC .unit) [1],.v] Rf Rg Rh
def aCA:qZ prog aCz:=
 rJ (rH (qO rY (qO vF (qO Lk rG))) (qS Ns rF)) func262 18 [] rfl λE ⟨O,a8,aA⟩=>by
  have u0:= @zK.eq_1;have u1:= @NL.eq_1
  let l1:LE (NL O):=⟨λx=>⟨[(0,rs 0 0),(6,sv (.list .str) O),(7,iv (O.length:Int)),(8,iv x.1)],[(0,.cells (.pair vC .unit) (((some (0,0)),(x.2,())),()) [(1,1)]),(1,.grow 5 1 (x.2.length))],2,18,2⟩⟩
  let x1:XE (NL O) 0 pU:=⟨λx=>⟨[],[(0,.cells (.pair vC .unit) (((some (0,0)),(x,())),()) [(1,1)]),(1,.grow 5 1 (x.length))],2,18,2⟩⟩
  exact rM
def NM (O:pJ):Int->Option (Int⊕(Int⊕Int)):=λa8=>ite (decide (a8<(O.length:Int))) (ite (0<=a8/\a8<(O.length:Int)) (ite (((decide ((r7 O a8)=92))==true)=true->qH (a8+1)) (ite (((((r7 O a8)=92)&&((a8+1)<(O.length:Int)))==true)=true->qH (a8+1)) (ite (((((r7 O a8)=92)&&((a8+1)<(O.length:Int)))==true)=true->0<=(a8+1)/\(a8+1)<(O.length:Int)) (ite ((((r7 O a8)=92)&&((a8+1)<(O.length:Int)))&&(((((((r7 O (a8+1))=123)||((r7 O (a8+1))=125))||((r7 O (a8+1))=60))||((r7 O (a8+1))=62))||((r7 O (a8+1))=35))||((r7 O (a8+1))=92))) (ite (qH (a8+2)) (some (.inl (a8+2))) none) (ite (0<=a8/\a8<(O.length:Int)) (ite (!(((((((r7 O a8)=123)||((r7 O a8)=125))||((r7 O a8)=60))||((r7 O a8)=62))||((r7 O a8)=35))||((r7 O a8)=92))) (ite (qH (a8+1)) (some (.inl (a8+1))) none) (some (.inr (.inr (a8))))) none)) none) none) none) none) (some (.inr (.inl a8)))
def SP (O:pJ) (a8:Int):Option Int:=sK (rC (NM O) a8) λaA=>some (aA)
abbrev Ri (x:(pJ×Int)):List qP:=[tv x.1,iv x.2]
@[go_sem] def Rj:(pJ×Int)->r9:=fun(O,a8)=>rv [] (SP O a8) λz=>([iv z],[])
@[go_sem] def aLE O a8:=rI Ri qV Rj (O,a8)
@[go_sem] abbrev aCB:Nat×r8:=mE 264 [.v,.v] Ri qV Rj
def aCC:qZ prog aCB:=
 rJ (rH (qO rY rG) (qS vo rF)) func264 40 [(4,none)] rfl λE ⟨O,a8⟩=>by
  have u0:= @SP.eq_1;have u1:= @NM.eq_1
  let l1:LE (NM O):=⟨λx=>⟨[(0,tv O),(1,iv x)],[],0,40,0⟩⟩
  let x1:XE (NM O) 0 Int:=⟨λx=>⟨[(1,iv x)],[],0,40,0⟩⟩
  exact rM
def Rk (O:Int):Unit:=()
abbrev Rl (x:Int):List qP:=[sv (.int .u8) x]
@[go_sem] def Rm:Int->r9:=λO=>⟨[],[bv ((97<=O)&&(O<=122))],[]⟩
@[go_sem] def aLF O:=rI Rl qV Rm O
@[go_sem] abbrev aCD:Nat×r8:=mE 269 [.v] Rl qV Rm
def Rn:qZ prog aCD:=
 rJ (rH rG rF) func269 9 [(2,none)] rfl λE O=>by
  have u0:= @Rk.eq_1;have q0: ∃z,(Rk O)=z:=⟨_,rfl⟩;exact xF
def Ro (O:pJ):Unit:=()
abbrev Rp (x:pJ):List qP:=[tv x]
@[go_sem] def Rq:pJ->r9:=λO=>⟨[],[bv ((((((O=Qc6)||(O=Qc7))||(O=Qc8))||(O=Qc9))||(O=Qd0))||(O=Qb5))],[]⟩
@[go_sem] def aLG O:=rI Rp qV Rq O
@[go_sem] abbrev aCE:Nat×r8:=mE 270 [.v] Rp qV Rq
def aCF:qZ prog aCE:=
 rJ (rH rG rF) func270 25 [(2,none)] rfl λE O=>by
  have u0:= @Ro.eq_1;have q0: ∃z,(Ro O)=z:=⟨_,rfl⟩;exact xF
def NN (O:pJ):Int->Option (Int⊕(Unit⊕Bool)):=λa8=>ite (decide (a8<(O.length:Int))) (ite (0<=a8/\a8<(O.length:Int)) (ite (!(((97<=(r7 O a8))&&((r7 O a8)<=122))||((65<=(r7 O a8))&&((r7 O a8)<=90)))) (some (.inr (.inr (false)))) (ite (qH (a8+1)) (some (.inl (a8+1))) none)) none) (some (.inr (.inl ())))
def EM (O:pJ):Option Bool:=sK (rC (NN O) 0) λ_=>some ((1<=(O.length:Int))&&((O.length:Int)<=40))
abbrev Rr (x:pJ):List qP:=[tv x]
@[go_sem] def Rs:pJ->r9:=λO=>rv [] (EM O) λz=>([bv z],[])
@[go_sem] def aLH O:=rI Rr qV Rs O
@[go_sem] abbrev aCG:Nat×r8:=mE 272 [.v] Rr qV Rs
def Rt:qZ prog aCG:=
 rJ (rH (qO rY rG) rF) func272 37 [(2,none)] rfl λE O=>by
  have u0:= @EM.eq_1;have u1:= @NN.eq_1
  let l1:LE (NN O):=⟨λx=>⟨[(0,tv O),(3,iv x)],[],0,37,0⟩⟩
  let x1:XE (NN O) 0 Unit:=⟨λ_=>⟨[(0,tv O)],[],0,37,0⟩⟩
  exact rM
def Ru (O:Int):Unit:=()
abbrev Rv (x:Int):List qP:=[sv (.int .u8) x]
@[go_sem] def Rw:Int->r9:=λO=>⟨[],[bv ((((97<=O)&&(O<=122))||((65<=O)&&(O<=90)))||((48<=O)&&(O<=57)))],[]⟩
@[go_sem] def aLI O:=rI Rv qV Rw O
@[go_sem] abbrev aCH:Nat×r8:=mE 290 [.v] Rv qV Rw
def Rx:qZ prog aCH:=
 rJ (rH rG rF) func290 25 [(2,none)] rfl λE O=>by
  have u0:= @Ru.eq_1;have q0: ∃z,(Ru O)=z:=⟨_,rfl⟩;exact xF
def Ry (O:Int):Unit:=()
abbrev Rz (x:Int):List qP:=[sv (.int .u8) x]
@[go_sem] def Sa:Int->r9:=λO=>⟨[],[bv (((97<=O)&&(O<=122))||((65<=O)&&(O<=90)))],[]⟩
@[go_sem] def aLJ O:=rI Rz qV Sa O
@[go_sem] abbrev aCI:Nat×r8:=mE 297 [.v] Rz qV Sa
def aCJ:qZ prog aCI:=
 rJ (rH rG (qS Rn rF)) func297 13 [(2,none)] rfl λE O=>by
  have u0:= @Ry.eq_1;have q0: ∃z,(Ry O)=z:=⟨_,rfl⟩;exact xF
def NO (O:pJ):Bool:=ite (decide (O=Qc6)) (ite (decide (O=Qc6)) (true) (false)) (ite (decide (O=Qc7)) (ite (decide (O=Qc7)) (true) (false)) (ite (decide (O=Qc8)) (ite (decide (O=Qc8)) (true) (false)) (ite (decide (O=Qc9)) (ite (decide (O=Qc9)) (true) (false)) (ite (decide (O=Qd0)) (ite (decide (O=Qd0)) (true) (false)) (ite (decide (O=Qb5)) (true) (false))))))
abbrev Sb (x:pJ):List qP:=[tv x]
@[go_sem] def Sc:pJ->r9:=λO=>⟨[],[bv (NO O)],[]⟩
@[go_sem] def aLK O:=rI Sb qV Sc O
@[go_sem] abbrev aCK:Nat×r8:=mE 312 [.v] Sb qV Sc
def aCL:qZ prog aCK:=
 rJ (rH rG rF) func312 11 [(2,none)] rfl λE O=>by
  have u0:= @NO.eq_1;have q0: ∃z,(NO O)=z:=⟨_,rfl⟩;exact xF
attribute [irreducible] SN GD SO FH K4 zK SP EM
end
noncomputable section
def NP (O:pJ):Int->Option (Int⊕(Unit⊕Int)):=λa8=>ite (decide (a8<(Qd7.length:Int))) (ite (0<=a8/\a8<(Qd7.length:Int)) (ite (decide ((qI .str Qd7 a8)=O)) (ite (qH (3+a8)) (some (.inr (.inr (3+a8)))) none) (ite (qH (a8+1)) (some (.inl (a8+1))) none)) none) (some (.inr (.inl ())))
def NQ (O:pJ):Option Int:=sK (rC (NP O) 0) λ_=>some (0)
abbrev Sd (x:pJ):List qP:=[tv x]
@[go_sem] def Se:pJ->r9:=λO=>rv [] (NQ O) λz=>([iv z],[])
@[go_sem] def aLL O:=rI Sd qV Se O
@[go_sem] abbrev aCM:Nat×r8:=mE 295 [.v] Sd qV Se
theorem aCN:qZ prog aCM:=
 rJ (rH (qO rY (qO vF rG)) rF) func295 20 [(2,none)] rfl λE O=>by
  have u0:= @NQ.eq_1;have u1:= @NP.eq_1
  let l1:LE (NP O):=⟨λx=>⟨[(0,tv O),(3,(.val (.list .str) Qd7,some 0)),(4,iv x)],[(0,.grow 9 1 (Qd7.length))],1,20,0⟩⟩
  let x1:XE (NP O) 0 Unit:=⟨λ_=>⟨[],[],0,20,0⟩⟩
  exact rM
def NR (O:pJ):Int->Option (Int⊕(Unit⊕Bool)):=λa8=>ite (decide (a8<(O.length:Int))) (ite (0<=a8/\a8<(O.length:Int)) (ite (((decide ((r7 O a8)<48))==false)=true->0<=a8/\a8<(O.length:Int)) (ite (((r7 O a8)<48)||(57<(r7 O a8))) (some (.inr (.inr (false)))) (ite (qH (a8+1)) (some (.inl (a8+1))) none)) none) none) (some (.inr (.inl ())))
def SQ (O:pJ):Option Bool:=sK (rC (NR O) 0) λ_=>some (true)
abbrev Sf (x:pJ):List qP:=[tv x]
@[go_sem] def Sg:pJ->r9:=λO=>rv [] (SQ O) λz=>([bv z],[])
@[go_sem] def aLM O:=rI Sf qV Sg O
@[go_sem] abbrev Sh:Nat×r8:=mE 314 [.v] Sf qV Sg
theorem aCO:qZ prog Sh:=
 rJ (rH (qO rY rG) rF) func314 20 [(2,none)] rfl λE O=>by
  have u0:= @SQ.eq_1;have u1:= @NR.eq_1
  let l1:LE (NR O):=⟨λx=>⟨[(0,tv O),(3,iv x)],[],0,20,0⟩⟩
  let x1:XE (NR O) 0 Unit:=⟨λ_=>⟨[],[],0,20,0⟩⟩
  exact rM
def NS (O:pJ):Int->Option (Int⊕(Unit⊕Bool)):=λa8=>ite (decide (a8<(O.length:Int))) (ite (0<=a8/\a8<(O.length:Int)) (ite (!decide ((r7 O a8)=48)) (some (.inr (.inr (false)))) (ite (qH (a8+1)) (some (.inl (a8+1))) none)) none) (some (.inr (.inl ())))
def NT (O:pJ):Option Bool:=sK (rC (NS O) 0) λ_=>some (true)
abbrev Si (x:pJ):List qP:=[tv x]
@[go_sem] def Sj:pJ->r9:=λO=>rv [] (NT O) λz=>([bv z],[])
@[go_sem] def aLN O:=rI Si qV Sj O
@[go_sem] abbrev Sk:Nat×r8:=mE 315 [.v] Si qV Sj
theorem aCP:qZ prog Sk:=
 rJ (rH (qO rY rG) rF) func315 14 [(2,none)] rfl λE O=>by
  have u0:= @NT.eq_1;have u1:= @NS.eq_1
  let l1:LE (NS O):=⟨λx=>⟨[(0,tv O),(3,iv x)],[],0,14,0⟩⟩
  let x1:XE (NS O) 0 Unit:=⟨λ_=>⟨[],[],0,14,0⟩⟩
  exact rM
def X0 (O:pJ) (a8:pJ):Option Unit:=ite (((decide ((a8.length:Int)<=(O.length:Int)))==true)=true->qH ((O.length:Int)- (a8.length:Int))) (ite (((decide ((a8.length:Int)<=(O.length:Int)))==true)=true->0<=((O.length:Int)- (a8.length:Int))/\((O.length:Int)- (a8.length:Int))<=(O.length:Int)/\(O.length:Int)<=(O.length:Int)) (some (())) none) none
abbrev Sl (x:(pJ×pJ)):List qP:=[tv x.1,tv x.2]
@[go_sem] def Sm:(pJ×pJ)->r9:=fun(O,a8)=>rv [] (X0 O a8) λz=>([bv (((a8.length:Int)<=(O.length:Int))&&((s8 O ((O.length:Int)- (a8.length:Int)) (O.length:Int))=a8))],[])
@[go_sem] def aLO O a8:=rI Sl qV Sm (O,a8)
@[go_sem] abbrev aCQ:Nat×r8:=mE 324 [.v,.v] Sl qV Sm
theorem aCR:qZ prog aCQ:=
 rJ (rH (qO rY rG) rF) func324 21 [(4,none)] rfl λE ⟨O,a8⟩=>by
  have u0:= @X0.eq_1;exact rM
def HZ (O:pJ):Option Unit:=ite ((List.all Qb7 λb=>decide (b.toNat<128))=true/\List.length Qb7<4294967281) (ite (O.length<=9223372036854775807) (some (())) none) none
abbrev Sn (x:pJ):List qP:=[tv x]
@[go_sem] def So:pJ->r9:=λO=>rv [] (HZ O) λz=>([bv (decide ((Lib.trimS O Qb7)=([]:pJ)))],[])
@[go_sem] def aLP O:=rI Sn qV So O
@[go_sem] abbrev aCS:Nat×r8:=mE 329 [.v] Sn qV So
theorem aCT:qZ prog aCS:=
 rJ (rH rG (qS Mb rF)) func329 6 [(2,none)] rfl λE O=>by
  have u0:= @HZ.eq_1;exact rM
def X1 (O:pJ) (a8:pJ):Option (pJ×pJ×Bool):=ite (O.length<4294967281) (ite (decide (0<=(G7 O a8))) (ite (0<=(0:Int)/\0<=(G7 O a8)/\(G7 O a8)<=(O.length:Int)) (ite (qH ((G7 O a8)+(a8.length:Int))) (ite (0<=((G7 O a8)+(a8.length:Int))/\((G7 O a8)+(a8.length:Int))<=(O.length:Int)/\(O.length:Int)<=(O.length:Int)) (some ((s8 O 0 (G7 O a8)),(s8 O ((G7 O a8)+(a8.length:Int)) (O.length:Int)),true)) none) none) none) (some (O,([]:pJ),false))) none
abbrev Sp (x:(pJ×pJ)):List qP:=[tv x.1,tv x.2]
@[go_sem] def Sq:(pJ×pJ)->r9:=fun(O,a8)=>rv [] (X1 O a8) λz=>([tv (z.1),tv (z.2.1),bv (z.2.2)],[])
@[go_sem] def aLQ O a8:=rI Sp qV Sq (O,a8)
@[go_sem] abbrev aCU:Nat×r8:=mE 332 [.v,.v] Sp qV Sq
theorem aCV:qZ prog aCU:=
 rJ (rH (qO rY rG) (qS aBs rF)) func332 23 [(4,none),(5,none),(6,none)] rfl λE ⟨O,a8⟩=>by
  have u0:= @X1.eq_1;exact rM
def NU (O:pJ):Option Unit:=ite ((List.all Qb0 λb=>decide (b.toNat<128))=true/\List.length Qb0<4294967281) (ite (O.length<=9223372036854775807) (some (())) none) none
abbrev Sr (x:pJ):List qP:=[tv x]
@[go_sem] def Ss:pJ->r9:=λO=>rv [] (NU O) λz=>([bv (decide ((Lib.trimS O Qb0)=([]:pJ)))],[])
@[go_sem] def aLR O:=rI Sr qV Ss O
@[go_sem] abbrev aCW:Nat×r8:=mE 334 [.v] Sr qV Ss
theorem aCX:qZ prog aCW:=
 rJ (rH rG (qS Mb rF)) func334 6 [(2,none)] rfl λE O=>by
  have u0:= @NU.eq_1;exact rM
abbrev Su (x:Int):List qP:=[iv x]
@[go_sem] def Sv (O:Int->Option pJ):Int->r9:=λa8=>rv [] (O a8) λz=>([tv z],[])
@[go_sem] def aLS (O:Int->Option pJ) a8:=rI Su qV (Sv O) a8
@[go_sem] abbrev ek (F:Int->Option pJ):Nat×r8:=mE 191 [.v] Su qV (Sv F)
section
variable {O:Int->Option pJ}(hG0:qZ prog (ek O))
include hG0
def SR (O:Int->Option pJ) (a8:Int):Option pJ:=ite (decide (a8<10)) (ite (qH (48+a8)) (some (J7 (IntKind.wrap .i32 (48+a8)))) none) ((O (IntKind.wrap .i64 (Int.tdiv a8 10))).bind λaA=>ite (qH (48+(Int.tmod a8 10))) (ite (((aA++(J7 (IntKind.wrap .i32 (48+(Int.tmod a8 10))))).length:Int)<=9223372036854775807) (some (aA++(J7 (IntKind.wrap .i32 (48+(Int.tmod a8 10)))))) none) none)
theorem aCY:qZ prog (ek (SR O)):=
 rJ (rH (qO tO (qO rY (qO aBb rG))) (qS hG0 rF)) func191 18 [(2,none)] rfl λE a8=>by
  have u0:= @SR.eq_1;exact rM
end
def aCZ (p:(Int->Option pJ)):(Int->Option pJ):=SR p
def X2 (n:Nat):(Int->Option pJ):=Nat.rec (motive:=λ_=>(Int->Option pJ)) (λ_=>none) (λ_ p=>aCZ p) n
theorem Sw: ∀n:Nat,qZ prog (ek (X2 n))
 |0=>uZ
 |n+1=>have h:=Sw n;aCY h
def NV:Int->Option pJ:=(X2 1000)
@[go_sem] abbrev aC0:Nat×r8:=ek NV
theorem aC1:qZ prog aC0:=(Sw 1000)
theorem aC2:NV=(X2 1000):=rfl
abbrev Sx (x:(Ja0×pK)):List qP:=[sv (.list .part) x.1,sv (.list .str) x.2]
@[go_sem] def Sy (O:Ja0->pK->Option pK):(Ja0×pK)->r9:=fun(a8,aA)=>rv [] (O a8 aA) λz=>([sv (.list .str) z],[])
@[go_sem] def aLT (O:Ja0->pK->Option pK) a8 aA:=rI Sx qV (Sy O) (a8,aA)
@[go_sem] abbrev eo (F:Ja0->pK->Option pK):Nat×r8:=mE 156 [.v,.v] Sx qV (Sy F)
section
variable {O:Ja0->pK->Option pK}(hG0:qZ prog (eo O))
include hG0
def I0 (a8:Ja0) (aA:Int) (O:Ja0->pK->Option pK):(pK×Int)->Option ((pK×Int)⊕pK):=fun(aB,aC)=>ite (decide (aC<(((qG.un (qI .part a8 aA)).2.2.2.2.1).length:Int))) (ite (0<=aC/\aC<(((qG.un (qI .part a8 aA)).2.2.2.2.1).length:Int)) ((O ((qI rV ((qG.un (qI .part a8 aA)).2.2.2.2.1) aC).2.1) aB).bind λaD=>ite (qH (aC+1)) (some (.inl (aD,(aC+1)))) none) none) (some (.inr aB))
def GF (a8:Ja0) (O:Ja0->pK->Option pK):(pK×Int)->Option ((pK×Int)⊕pK):=fun(aE,aA)=>ite (decide (aA<(a8.length:Int))) (ite (0<=aA/\aA<(a8.length:Int)) (ite ((((2<=(qG.un (qI .part a8 aA)).1)&&((qG.un (qI .part a8 aA)).1<=9))==true)=true->(zB aE ((qG.un (qI .part a8 aA)).2.2.1)).isSome=true) (rD (σ:=pK) (ite (((2<=(qG.un (qI .part a8 aA)).1)&&((qG.un (qI .part a8 aA)).1<=9))&&(!(val (zB aE ((qG.un (qI .part a8 aA)).2.2.1))))) (ite ((([]:pK).length+aE.length)*16<=140737488355328) (ite (((([]:pK)++aE).length+([(qG.un (qI .part a8 aA)).2.2.1]:pK).length)*16<=140737488355328) (some ((([]:pK)++aE)++([(qG.un (qI .part a8 aA)).2.2.1]:pK))) none) none) (some (aE))) λaF=>(O ((qG.un (qI .part a8 aA)).2.2.2.2.2.1) aF).bind λaG=>rD (rC (I0 a8 aA O) (aG,0)) λaH=>ite (qH (aA+1)) (some (.inl (aH,(aA+1)))) none) none) none) (some (.inr aE))
def SS (O:Ja0->pK->Option pK) (a8:Ja0) (aI:pK):Option pK:=rD (rC (GF a8 O) (aI,0)) λaJ=>some (aJ)
theorem aC3:qZ prog (eo (SS O)):=
 rJ (rH (qO tO (qO rY (qO vF (qO uW (qO yP (qO v6 (qO AR rG))))))) (qS ej (qS hG0 rF))) func156 60 [(4,none)] rfl λE ⟨a8,aI⟩=>by
  have u0:= @SS.eq_1;have u1:= @GF.eq_1
  let l1:LE (GF a8 O):=⟨λx=>⟨[(0,sv (.list .part) a8),(1,sv (.list .str) x.1),(5,iv x.2)],[],0,60,0⟩⟩
  have u2:= @I0.eq_1
  let l2 aA:LE (I0 a8 aA O):=⟨λx=>⟨[(0,sv (.list .part) a8),(1,sv (.list .str) x.1),(5,iv aA),(6,rs 0 0),(7,iv x.2)],[(0,.cells sN (qG.un (qI .part a8 aA)) [])],1,60,0⟩⟩
  let j1 aA:JE 32 pK:=⟨λx=>⟨[(0,sv (.list .part) a8),(1,sv (.list .str) x),(5,iv aA),(6,rs 0 0)],[(0,.cells sN (qG.un (qI .part a8 aA)) [])],1,60,0⟩⟩
  let x1:XE (GF a8 O) 0 pK:=⟨λx=>⟨[(1,sv (.list .str) x)],[],0,60,0⟩⟩
  let x2 aA:XE (I0 a8 aA O) 2 pK:=⟨λx=>⟨[(0,sv (.list .part) a8),(1,sv (.list .str) x),(5,iv aA)],[],0,60,0⟩⟩
  exact rM
end
def aC4 (p:(Ja0->pK->Option pK)):(Ja0->pK->Option pK):=SS p
def K6 (n:Nat):(Ja0->pK->Option pK):=Nat.rec (motive:=λ_=>(Ja0->pK->Option pK)) (λ_ _=>none) (λ_ p=>aC4 p) n
theorem Sz: ∀n:Nat,qZ prog (eo (K6 n))
 |0=>uZ
 |n+1=>have h:=Sz n;aC3 h
def GG:Ja0->pK->Option pK:=(K6 1000)
@[go_sem] abbrev aC5:Nat×r8:=eo GG
theorem Ta:qZ prog aC5:=(Sz 1000)
theorem aC6:GG=(K6 1000):=rfl
def I1 (O:Ja3):(Int×(List (yF×pJ)))->Option ((Int×(List (yF×pJ)))⊕((List (yF×pJ))⊕(List (yF×pJ)))):=fun(a8,aA)=>ite (decide (a8<(O.length:Int))) (ite (0<=a8/\a8<(O.length:Int)) (ite (w5 uG .str aA ((qI rQ O a8).1)) (none) (ite (qH (a8+1)) (some (.inl ((a8+1),(rN uG .str ((qI rQ O a8).1) ((qI rQ O a8).2.1) aA)))) none)) none) (some (.inr (.inl aA)))
def C3 (O:Ja3):Option (List (yF×pJ)):=sK (rC (I1 O) (0,([]:List (yF×pJ)))) λa8=>some (a8)
abbrev Tb (x:Ja3):List qP:=[sv (.list rQ) x]
@[go_sem] def Tc:Ja3->r9:=λO=>rv [] (C3 O) λz=>([sv .mp (some 0),bv true],[.map uG .str z])
@[go_sem] def aLU O:=rI Tb qV Tc O
@[go_sem] abbrev Td:Nat×r8:=mE 40 [.v] Tb qV Tc
theorem aC7:qZ prog Td:=
 rJ (rH (qO rY (qO D2 (qO HS (qO G8 (qO dz rG))))) rF) func40 31 [(2,none),(3,none)] rfl λE O=>by
  have u0:= @C3.eq_1;have u1:= @I1.eq_1
  let l1:LE (I1 O):=⟨λx=>⟨[(4,sv .mp (some 0)),(10,sv (.list rQ) O),(11,iv (O.length:Int)),(12,iv x.1)],[(0,.map uG .str x.2)],1,31,0⟩⟩
  let x1:XE (I1 O) 0 (List (yF×pJ)):=⟨λx=>⟨[(4,sv .mp (some 0))],[(0,.map uG .str x)],1,31,0⟩⟩
  exact rM
def ep (O:Ja3):(Int×(List (yF×pJ)))->Option ((Int×(List (yF×pJ)))⊕((List (yF×pJ))⊕Unit)):=fun(a8,aA)=>ite (decide (a8<(O.length:Int))) (ite (0<=a8/\a8<(O.length:Int)) (ite (w5 uG .str aA ((qI rQ O a8).1)) (some (.inr (.inr (())))) (ite (qH (a8+1)) (some (.inl ((a8+1),(rN uG .str ((qI rQ O a8).1) ((qI rQ O a8).2.1) aA)))) none)) none) (some (.inr (.inl aA)))
def ST (O:Ja3):Option Unit:=sK (rC (ep O) (0,([]:List (yF×pJ)))) λa8=>none
abbrev Te (x:Ja3):List qP:=[sv (.list rQ) x]
@[go_sem] def Tf:Ja3->r9:=λO=>rv [] (ST O) λz=>([sv .mp none,bv false],[])
@[go_sem] def aLV O:=rI Te qV Tf O
@[go_sem] abbrev Tg:Nat×r8:=mE 40 [.v] Te qV Tf
theorem aC8:qZ prog Tg:=
 rJ (rH (qO rY (qO D2 (qO HS (qO G8 (qO dz rG))))) rF) func40 31 [(2,none),(3,none)] rfl λE O=>by
  have u0:= @ST.eq_1;have u1:= @ep.eq_1
  let l1:LE (ep O):=⟨λx=>⟨[(4,sv .mp (some 0)),(10,sv (.list rQ) O),(11,iv (O.length:Int)),(12,iv x.1)],[(0,.map uG .str x.2)],1,31,0⟩⟩
  let x1:XE (ep O) 0 (List (yF×pJ)):=⟨λx=>⟨[(4,sv .mp (some 0))],[(0,.map uG .str x)],1,31,0⟩⟩
  exact rM
def Th (O:Int):Unit:=()
abbrev Ti (x:Int):List qP:=[sv (.int .u8) x]
@[go_sem] def Tj:Int->r9:=λO=>⟨[],[bv ((((((97<=O)&&(O<=122))||((65<=O)&&(O<=90)))||((48<=O)&&(O<=57)))||(O=95))||(O=45))],[]⟩
@[go_sem] def aLW O:=rI Ti qV Tj O
@[go_sem] abbrev aC9:Nat×r8:=mE 268 [.v] Ti qV Tj
theorem vp:qZ prog aC9:=
 rJ (rH rG (qS aCJ rF)) func268 21 [(2,none)] rfl λE O=>by
  have u0:= @Th.eq_1;have q0: ∃z,(Th O)=z:=⟨_,rfl⟩;exact xF
attribute [irreducible] NQ SQ NT X0 HZ X1 NU SR NV SS GG C3 ST
end
noncomputable section
abbrev Tk (x:rR):List qP:=[sv sN x]
@[go_sem] def Tl (O:rR->Option Bool):rR->r9:=λa8=>rv [] (O a8) λz=>([bv z],[])
@[go_sem] def aLX (O:rR->Option Bool) a8:=rI Tk qV (Tl O) a8
@[go_sem] abbrev vq (F:rR->Option Bool):Nat×r8:=mE 288 [.v] Tk qV (Tl F)
abbrev Tm (x:Ja0):List qP:=[sv (.list .part) x,sv .clo (some (288,[]))]
@[go_sem] def Tn (O:Ja0->Option Int):Ja0->r9:=λa8=>rv [] (O a8) λz=>([iv z],[])
@[go_sem] def aLY (O:Ja0->Option Int) a8:=rI Tm qV (Tn O) a8
@[go_sem] abbrev vu (F:Ja0->Option Int):Nat×r8:=mE 310 [.v,.v] Tm qV (Tn F)
abbrev To (x:Ja0):List qP:=[sv (.list .part) x,sv .clo (some (288,[]))]
@[go_sem] def Tp (O:Ja0->Option Bool):Ja0->r9:=λa8=>rv [] (O a8) λz=>([bv z],[])
@[go_sem] def aLZ (O:Ja0->Option Bool) a8:=rI To qV (Tp O) a8
@[go_sem] abbrev vw (F:Ja0->Option Bool):Nat×r8:=mE 287 [.v,.v] To qV (Tp F)
abbrev Tq (x:Ja0):List qP:=[sv (.list .part) x]
@[go_sem] def Tr (O:Ja0->Option Bool):Ja0->r9:=λa8=>rv [] (O a8) λz=>([bv z],[])
@[go_sem] def aL0 (O:Ja0->Option Bool) a8:=rI Tq qV (Tr O) a8
@[go_sem] abbrev vz (F:Ja0->Option Bool):Nat×r8:=mE 245 [.v] Tq qV (Tr F)
abbrev Ts (x:qT):List qP:=[sv rV x]
@[go_sem] def Tt (O:qT->Option Bool):qT->r9:=λa8=>rv [] (O a8) λz=>([bv z],[])
@[go_sem] def aL1 (O:qT->Option Bool) a8:=rI Ts qV (Tt O) a8
@[go_sem] abbrev wa (F:qT->Option Bool):Nat×r8:=mE 247 [.v] Ts qV (Tt F)
abbrev Tu (x:Ja1):List qP:=[sv (.list rV) x,sv .clo (some (247,[]))]
@[go_sem] def Tv (O:Ja1->Option Int):Ja1->r9:=λa8=>rv [] (O a8) λz=>([iv z],[])
@[go_sem] def aL2 (O:Ja1->Option Int) a8:=rI Tu qV (Tv O) a8
@[go_sem] abbrev wb (F:Ja1->Option Int):Nat×r8:=mE 289 [.v,.v] Tu qV (Tv F)
abbrev Tw (x:Ja1):List qP:=[sv (.list rV) x,sv .clo (some (247,[]))]
@[go_sem] def Tx (O:Ja1->Option Bool):Ja1->r9:=λa8=>rv [] (O a8) λz=>([bv z],[])
@[go_sem] def aL3 (O:Ja1->Option Bool) a8:=rI Tw qV (Tx O) a8
@[go_sem] abbrev wc (F:Ja1->Option Bool):Nat×r8:=mE 246 [.v,.v] Tw qV (Tx F)
abbrev Tz (x:rR):List qP:=[sv sN x]
@[go_sem] def Ua (O:rR->Option Bool):rR->r9:=λa8=>rv [] (O a8) λz=>([bv z],[])
@[go_sem] def aL4 (O:rR->Option Bool) a8:=rI Tz qV (Ua O) a8
@[go_sem] abbrev eq (F:rR->Option Bool):Nat×r8:=mE 184 [.v] Tz qV (Ua F)
section
variable {O:rR->Option Bool}{a8:Ja0->Option Int}{aA:Ja0->Option Bool}{aB:Ja0->Option Bool}{aC:qT->Option Bool}{aD:Ja1->Option Int}{aE:Ja1->Option Bool}{aF:rR->Option Bool}(hG0:qZ prog (vq O)) (hG1:qZ prog (vu a8)) (hG2:qZ prog (vw aA)) (hG3:qZ prog (vz aB)) (hG4:qZ prog (wa aC)) (hG5:qZ prog (wb aD)) (hG6:qZ prog (wc aE)) (hG7:qZ prog (eq aF))
include hG0 hG1 hG2 hG3 hG4 hG5 hG6 hG7
def wd (O:rR->Option Bool) (a8:Ja0->Option Int) (aA:Ja0->Option Bool) (aB:Ja0->Option Bool) (aC:qT->Option Bool) (aD:Ja1->Option Int) (aE:Ja1->Option Bool) (aF:rR->Option Bool) (aG:rR):Option Bool:=(aF aG).bind λaH=>some (!aH)
theorem aDa:qZ prog (vq (wd O a8 aA aB aC aD aE aF)):=
 rJ (rH (qO v6 rG) (qS hG7 rF)) func288 6 [(2,none)] rfl λE aG=>by
  have u0:= @wd.eq_1;exact rM
def NW (aI:Ja0) (O:rR->Option Bool):Int->Option (Int⊕(Unit⊕Int)):=λaJ=>ite (decide (aJ<(aI.length:Int))) (ite (0<=aJ/\aJ<(aI.length:Int)) ((O (qG.un (qI .part aI aJ))).bind λaK=>ite aK (some (.inr (.inr (aJ)))) (ite (qH (aJ+1)) (some (.inl (aJ+1))) none)) none) (some (.inr (.inl ())))
def wg (O:rR->Option Bool) (a8:Ja0->Option Int) (aA:Ja0->Option Bool) (aB:Ja0->Option Bool) (aC:qT->Option Bool) (aD:Ja1->Option Int) (aE:Ja1->Option Bool) (aF:rR->Option Bool) (aI:Ja0):Option Int:=sK (rC (NW aI O) 0) λ_=>some (-1:Int)
theorem aDb:qZ prog (vu (wg O a8 aA aB aC aD aE aF)):=
 rJ (rH (qO uW (qO v6 rG)) (qS hG0 rF)) func310 19 [(4,none)] rfl λE aI=>by
  have u0:= @wg.eq_1;have u1:= @NW.eq_1
  let l1:LE (NW aI O):=⟨λx=>⟨[(0,sv (.list .part) aI),(1,sv .clo (some (288,[]))),(7,iv (aI.length:Int)),(8,iv x)],[],0,19,0⟩⟩
  let x1:XE (NW aI O) 0 Unit:=⟨λ_=>⟨[],[],0,19,0⟩⟩
  exact rM
def wi (O:rR->Option Bool) (a8:Ja0->Option Int) (aA:Ja0->Option Bool) (aB:Ja0->Option Bool) (aC:qT->Option Bool) (aD:Ja1->Option Int) (aE:Ja1->Option Bool) (aF:rR->Option Bool) (aI:Ja0):Option Bool:=(a8 aI).bind λaH=>some (decide (0<=aH))
theorem aDc:qZ prog (vw (wi O a8 aA aB aC aD aE aF)):=
 rJ (rH rG (qS hG1 rF)) func287 9 [(4,none)] rfl λE aI=>by
  have u0:= @wi.eq_1;exact rM
def wj (O:rR->Option Bool) (a8:Ja0->Option Int) (aA:Ja0->Option Bool) (aB:Ja0->Option Bool) (aC:qT->Option Bool) (aD:Ja1->Option Int) (aE:Ja1->Option Bool) (aF:rR->Option Bool) (aL:Ja0):Option Bool:=(aA aL).bind λaH=>some (!aH)
theorem aDd:qZ prog (vz (wj O a8 aA aB aC aD aE aF)):=
 rJ (rH rG (qS hG2 rF)) func245 6 [(2,none)] rfl λE aL=>by
  have u0:= @wj.eq_1;exact rM
def wk (O:rR->Option Bool) (a8:Ja0->Option Int) (aA:Ja0->Option Bool) (aB:Ja0->Option Bool) (aC:qT->Option Bool) (aD:Ja1->Option Int) (aE:Ja1->Option Bool) (aF:rR->Option Bool) (aM:qT):Option Bool:=(aB aM.2.1).bind λaH=>some (!aH)
theorem aDe:qZ prog (wa (wk O a8 aA aB aC aD aE aF)):=
 rJ (rH (qO uW (qO AR rG)) (qS hG3 rF)) func247 7 [(2,none)] rfl λE aM=>by
  have u0:= @wk.eq_1;exact rM
def NX (aI:Ja1) (aC:qT->Option Bool):Int->Option (Int⊕(Unit⊕Int)):=λaJ=>ite (decide (aJ<(aI.length:Int))) (ite (0<=aJ/\aJ<(aI.length:Int)) ((aC (qI rV aI aJ)).bind λaK=>ite aK (some (.inr (.inr (aJ)))) (ite (qH (aJ+1)) (some (.inl (aJ+1))) none)) none) (some (.inr (.inl ())))
def wl (O:rR->Option Bool) (a8:Ja0->Option Int) (aA:Ja0->Option Bool) (aB:Ja0->Option Bool) (aC:qT->Option Bool) (aD:Ja1->Option Int) (aE:Ja1->Option Bool) (aF:rR->Option Bool) (aI:Ja1):Option Int:=sK (rC (NX aI aC) 0) λ_=>some (-1:Int)
theorem aDf:qZ prog (wb (wl O a8 aA aB aC aD aE aF)):=
 rJ (rH (qO yP (qO AR rG)) (qS hG4 rF)) func289 19 [(4,none)] rfl λE aI=>by
  have u0:= @wl.eq_1;have u1:= @NX.eq_1
  let l1:LE (NX aI aC):=⟨λx=>⟨[(0,sv (.list rV) aI),(1,sv .clo (some (247,[]))),(7,iv (aI.length:Int)),(8,iv x)],[],0,19,0⟩⟩
  let x1:XE (NX aI aC) 0 Unit:=⟨λ_=>⟨[],[],0,19,0⟩⟩
  exact rM
def wm (O:rR->Option Bool) (a8:Ja0->Option Int) (aA:Ja0->Option Bool) (aB:Ja0->Option Bool) (aC:qT->Option Bool) (aD:Ja1->Option Int) (aE:Ja1->Option Bool) (aF:rR->Option Bool) (aI:Ja1):Option Bool:=(aD aI).bind λaH=>some (decide (0<=aH))
theorem aDg:qZ prog (wc (wm O a8 aA aB aC aD aE aF)):=
 rJ (rH rG (qS hG5 rF)) func246 9 [(4,none)] rfl λE aI=>by
  have u0:= @wm.eq_1;exact rM
def X3 (O:rR->Option Bool) (a8:Ja0->Option Int) (aA:Ja0->Option Bool) (aB:Ja0->Option Bool) (aC:qT->Option Bool) (aD:Ja1->Option Int) (aE:Ja1->Option Bool) (aF:rR->Option Bool) (aG:rR):Option Bool:=ite (((!((7<=aG.1)&&(aG.1<=9)))==true)=true->(aB aG.2.2.2.2.2.1).isSome=true) (ite ((((!((7<=aG.1)&&(aG.1<=9)))&&(val (aB aG.2.2.2.2.2.1)))==true)=true->(aE aG.2.2.2.2.1).isSome=true) (some (((!((7<=aG.1)&&(aG.1<=9)))&&(val (aB aG.2.2.2.2.2.1)))&&(!(val (aE aG.2.2.2.2.1))))) none) none
theorem aDh:qZ prog (eq (X3 O a8 aA aB aC aD aE aF)):=
 rJ (rH (qO tO (qO uW (qO yP (qO v6 rG)))) (qS EL (qS hG3 (qS hG6 rF)))) func184 18 [(2,none)] rfl λE aG=>by
  have u0:= @X3.eq_1;exact rM
end
def aDi (p:(rR->Option Bool)×(Ja0->Option Int)×(Ja0->Option Bool)×(Ja0->Option Bool)×(qT->Option Bool)×(Ja1->Option Int)×(Ja1->Option Bool)×(rR->Option Bool)):(rR->Option Bool)×(Ja0->Option Int)×(Ja0->Option Bool)×(Ja0->Option Bool)×(qT->Option Bool)×(Ja1->Option Int)×(Ja1->Option Bool)×(rR->Option Bool):=(wd p.1 p.2.1 p.2.2.1 p.2.2.2.1 p.2.2.2.2.1 p.2.2.2.2.2.1 p.2.2.2.2.2.2.1 p.2.2.2.2.2.2.2,wg p.1 p.2.1 p.2.2.1 p.2.2.2.1 p.2.2.2.2.1 p.2.2.2.2.2.1 p.2.2.2.2.2.2.1 p.2.2.2.2.2.2.2,wi p.1 p.2.1 p.2.2.1 p.2.2.2.1 p.2.2.2.2.1 p.2.2.2.2.2.1 p.2.2.2.2.2.2.1 p.2.2.2.2.2.2.2,wj p.1 p.2.1 p.2.2.1 p.2.2.2.1 p.2.2.2.2.1 p.2.2.2.2.2.1 p.2.2.2.2.2.2.1 p.2.2.2.2.2.2.2,wk p.1 p.2.1 p.2.2.1 p.2.2.2.1 p.2.2.2.2.1 p.2.2.2.2.2.1 p.2.2.2.2.2.2.1 p.2.2.2.2.2.2.2,wl p.1 p.2.1 p.2.2.1 p.2.2.2.1 p.2.2.2.2.1 p.2.2.2.2.2.1 p.2.2.2.2.2.2.1 p.2.2.2.2.2.2.2,wm p.1 p.2.1 p.2.2.1 p.2.2.2.1 p.2.2.2.2.1 p.2.2.2.2.2.1 p.2.2.2.2.2.2.1 p.2.2.2.2.2.2.2,X3 p.1 p.2.1 p.2.2.1 p.2.2.2.1 p.2.2.2.2.1 p.2.2.2.2.2.1 p.2.2.2.2.2.2.1 p.2.2.2.2.2.2.2)
def FI (n:Nat):(rR->Option Bool)×(Ja0->Option Int)×(Ja0->Option Bool)×(Ja0->Option Bool)×(qT->Option Bool)×(Ja1->Option Int)×(Ja1->Option Bool)×(rR->Option Bool):=Nat.rec (motive:=λ_=>(rR->Option Bool)×(Ja0->Option Int)×(Ja0->Option Bool)×(Ja0->Option Bool)×(qT->Option Bool)×(Ja1->Option Int)×(Ja1->Option Bool)×(rR->Option Bool)) ((λ_=>none),(λ_=>none),(λ_=>none),(λ_=>none),(λ_=>none),(λ_=>none),(λ_=>none),(λ_=>none)) (λ_ p=>aDi p) n
theorem Ub: ∀n:Nat,qZ prog (vq (FI n).1)/\qZ prog (vu (FI n).2.1)/\qZ prog (vw (FI n).2.2.1)/\qZ prog (vz (FI n).2.2.2.1)/\qZ prog (wa (FI n).2.2.2.2.1)/\qZ prog (wb (FI n).2.2.2.2.2.1)/\qZ prog (wc (FI n).2.2.2.2.2.2.1)/\qZ prog (eq (FI n).2.2.2.2.2.2.2)
 |0=>⟨uZ,uZ,uZ,uZ,uZ,uZ,uZ,uZ⟩
 |n+1=>have h:=Ub n;⟨aDa h.1 h.2.1 h.2.2.1 h.2.2.2.1 h.2.2.2.2.1 h.2.2.2.2.2.1 h.2.2.2.2.2.2.1 h.2.2.2.2.2.2.2,aDb h.1 h.2.1 h.2.2.1 h.2.2.2.1 h.2.2.2.2.1 h.2.2.2.2.2.1 h.2.2.2.2.2.2.1 h.2.2.2.2.2.2.2,aDc h.1 h.2.1 h.2.2.1 h.2.2.2.1 h.2.2.2.2.1 h.2.2.2.2.2.1 h.2.2.2.2.2.2.1 h.2.2.2.2.2.2.2,aDd h.1 h.2.1 h.2.2.1 h.2.2.2.1 h.2.2.2.2.1 h.2.2.2.2.2.1 h.2.2.2.2.2.2.1 h.2.2.2.2.2.2.2,aDe h.1 h.2.1 h.2.2.1 h.2.2.2.1 h.2.2.2.2.1 h.2.2.2.2.2.1 h.2.2.2.2.2.2.1 h.2.2.2.2.2.2.2,aDf h.1 h.2.1 h.2.2.1 h.2.2.2.1 h.2.2.2.2.1 h.2.2.2.2.2.1 h.2.2.2.2.2.2.1 h.2.2.2.2.2.2.2,aDg h.1 h.2.1 h.2.2.1 h.2.2.2.1 h.2.2.2.2.1 h.2.2.2.2.2.1 h.2.2.2.2.2.2.1 h.2.2.2.2.2.2.2,aDh h.1 h.2.1 h.2.2.1 h.2.2.2.1 h.2.2.2.2.1 h.2.2.2.2.2.1 h.2.2.2.2.2.2.1 h.2.2.2.2.2.2.2⟩
def NY:rR->Option Bool:=(FI 1000).2.2.2.2.2.2.2
@[go_sem] abbrev aDj:Nat×r8:=eq NY
theorem wn:qZ prog aDj:=(Ub 1000).2.2.2.2.2.2.2
theorem aDk:NY=(FI 1000).2.2.2.2.2.2.2:=rfl
attribute [irreducible] NY
end
noncomputable section
abbrev Uc (x:Ja0):List qP:=[sv (.list .part) x]
@[go_sem] def Ud (O:Ja0->Option Bool):Ja0->r9:=λa8=>rv [] (O a8) λz=>([bv z],[])
@[go_sem] def aL5 (O:Ja0->Option Bool) a8:=rI Uc qV (Ud O) a8
@[go_sem] abbrev er (F:Ja0->Option Bool):Nat×r8:=mE 190 [.v] Uc qV (Ud F)
section
variable {O:Ja0->Option Bool}(hG0:qZ prog (er O))
include hG0
def K7 (a8:Ja0) (aA:Int) (O:Ja0->Option Bool):Int->Option (Int⊕(Unit⊕(Int⊕(Unit⊕Bool)))):=λaB=>ite (0<=aA/\aA<(a8.length:Int)) (ite (decide (aB<(((qG.un (qI .part a8 aA)).2.2.2.2.1).length:Int))) (ite (0<=aA/\aA<(a8.length:Int)) (ite (0<=aB/\aB<(((qG.un (qI .part a8 aA)).2.2.2.2.1).length:Int)) ((O ((qI rV ((qG.un (qI .part a8 aA)).2.2.2.2.1) aB).2.1)).bind λaC=>ite (!aC) (some (.inr (.inr (.inr (.inr (false)))))) (ite (qH (aB+1)) (some (.inl (aB+1))) none)) none) none) (some (.inr (.inl ())))) none
def NZ (a8:Ja0) (O:Ja0->Option Bool):Int->Option (Int⊕(Unit⊕Bool)):=λaA=>ite (decide (aA<(a8.length:Int))) (ite (0<=aA/\aA<(a8.length:Int)) (ite (((((((qG.un (qI .part a8 aA)).1)=7)||(((qG.un (qI .part a8 aA)).1)=8))||(((qG.un (qI .part a8 aA)).1)=9))==false)=true->0<=aA/\aA<(a8.length:Int)) (ite (((((((qG.un (qI .part a8 aA)).1)=7)||(((qG.un (qI .part a8 aA)).1)=8))||(((qG.un (qI .part a8 aA)).1)=9))==false)=true->(O ((qG.un (qI .part a8 aA)).2.2.2.2.2.1)).isSome=true) (ite ((((((qG.un (qI .part a8 aA)).1)=7)||(((qG.un (qI .part a8 aA)).1)=8))||(((qG.un (qI .part a8 aA)).1)=9))||(!(val (O ((qG.un (qI .part a8 aA)).2.2.2.2.2.1))))) (some (.inr (.inr (false)))) (sK (rC (K7 a8 aA O) 0) λ_=>ite (qH (aA+1)) (some (.inl (aA+1))) none)) none) none) none) (some (.inr (.inl ())))
def SU (O:Ja0->Option Bool) (a8:Ja0):Option Bool:=sK (rC (NZ a8 O) 0) λ_=>some (true)
theorem aDl:qZ prog (er (SU O)):=
 rJ (rH (qO tO (qO uW (qO yP (qO v6 (qO AR rG))))) (qS eh (qS hG0 rF))) func190 47 [(2,none)] rfl λE a8=>by
  have u0:= @SU.eq_1;have u1:= @NZ.eq_1
  let l1:LE (NZ a8 O):=⟨λx=>⟨[(0,sv (.list .part) a8),(3,iv x)],[],0,47,0⟩⟩
  have u2:= @K7.eq_1
  let l2 aA:LE (K7 a8 aA O):=⟨λx=>⟨[(0,sv (.list .part) a8),(3,iv aA),(4,iv x)],[],0,47,0⟩⟩
  let x1:XE (NZ a8 O) 0 Unit:=⟨λ_=>⟨[],[],0,47,0⟩⟩
  let x2 aA:XE (K7 a8 aA O) 2 Unit:=⟨λ_=>⟨[(0,sv (.list .part) a8),(3,iv aA)],[],0,47,0⟩⟩
  exact rM
end
def aDm (p:(Ja0->Option Bool)):(Ja0->Option Bool):=SU p
def K8 (n:Nat):(Ja0->Option Bool):=Nat.rec (motive:=λ_=>(Ja0->Option Bool)) (λ_=>none) (λ_ p=>aDm p) n
theorem Ue: ∀n:Nat,qZ prog (er (K8 n))
 |0=>uZ
 |n+1=>have h:=Ue n;aDl h
def O0:Ja0->Option Bool:=(K8 1000)
@[go_sem] abbrev aDn:Nat×r8:=er O0
theorem Uf:qZ prog aDn:=(Ue 1000)
theorem aDo:O0=(K8 1000):=rfl
abbrev Ug (x:Ja0):List qP:=[sv (.list .part) x]
@[go_sem] def Uh (O:Ja0->Option Ja0):Ja0->r9:=λa8=>rv [] (O a8) λz=>([(.val (.list .part) z,some 0)],[.grow 183 6 (z.length)])
@[go_sem] def aL6 (O:Ja0->Option Ja0) a8:=rI Ug qV (Uh O) a8
@[go_sem] abbrev et (F:Ja0->Option Ja0):Nat×r8:=mE 141 [.v] Ug qV (Uh F)
section
variable {O:Ja0->Option Ja0}(hG0:qZ prog (et O))
include hG0
def K9 (a8:Ja0) (aA:Int) (O:Ja0->Option Ja0):(Int×Ja1)->Option ((Int×Ja1)⊕Ja1):=fun(aB,aC)=>ite (decide (aB<(((qG.un (qI .part a8 aA)).2.2.2.2.1).length:Int))) (ite (0<=aB/\aB<(((qG.un (qI .part a8 aA)).2.2.2.2.1).length:Int)) (ite (0<=aB/\aB<(((qG.un (qI .part a8 aA)).2.2.2.2.1).length:Int)) ((O ((qI rV ((qG.un (qI .part a8 aA)).2.2.2.2.1) aB).2.1)).bind λaD=>ite ((aC.length+([((qI rV ((qG.un (qI .part a8 aA)).2.2.2.2.1) aB).1,(aD,()))]:List qT).length)*40<=140737488355328) (ite (qH (aB+1)) (some (.inl ((aB+1),(aC++([((qI rV ((qG.un (qI .part a8 aA)).2.2.2.2.1) aB).1,(aD,()))]:List qT))))) none) none) none) none) (some (.inr aC))
def O1 (a8:Ja0) (O:Ja0->Option Ja0):(Ja0×Int)->Option ((Ja0×Int)⊕Ja0):=fun(aE,aA)=>ite (decide (aA<(a8.length:Int))) (ite (0<=aA/\aA<(a8.length:Int)) (ite (qH (aA+1)) (ite (0<=aA/\aA<=(aA+1)/\(aA+1)<=(a8.length:Int)) ((O0 (s8 a8 aA (aA+1))).bind λaF=>ite aF (ite (qH (aA+1)) (some (.inl (aE,(aA+1)))) none) ((O ((qG.un (qI .part a8 aA)).2.2.2.2.2.1)).bind λaG=>rD (rC (K9 a8 aA O) (0,([]:List qT))) λaH=>ite ((aE.length+([(qG.of ((qG.un (qI .part a8 aA)).1,(([]:pJ),((qG.un (qI .part a8 aA)).2.2.1,(([]:pJ),(aH,(aG,())))))))]:List qG).length)*104<=140737488355328) (ite (qH (aA+1)) (some (.inl ((aE++([(qG.of ((qG.un (qI .part a8 aA)).1,(([]:pJ),((qG.un (qI .part a8 aA)).2.2.1,(([]:pJ),(aH,(aG,())))))))]:List qG)),(aA+1)))) none) none)) none) none) none) (some (.inr aE))
def SV (O:Ja0->Option Ja0) (a8:Ja0):Option Ja0:=rD (rC (O1 a8 O) (([]:List qG),0)) λaI=>some (aI)
theorem aDp:qZ prog (et (SV O)):=
 rJ (rH (qO tO (qO rY (qO uW (qO yP (qO v6 (qO AR rG)))))) (qS Uf (qS hG0 rF))) func141 63 [(2,none)] rfl λE a8=>by
  have u0:= @SV.eq_1;have u1:= @O1.eq_1
  let l1:LE (O1 a8 O):=⟨λx=>⟨[(0,sv (.list .part) a8),(3,(.val (.list .part) x.1,some 0)),(4,iv x.2)],[(0,.grow 183 6 (x.1.length))],1,63,0⟩⟩
  have u2:= @K9.eq_1
  let l2 aA aE aG:LE (K9 a8 aA O):=⟨λx=>⟨[(0,sv (.list .part) a8),(3,(.val (.list .part) aE,some 0)),(4,iv aA),(5,rs 1 0),(6,rs 2 0),(7,iv x.1)],[(0,.grow 183 6 (aE.length)),(1,.cells sN (qG.un (qI .part a8 aA)) []),(2,.cells sN ((qG.un (qI .part a8 aA)).1,(([]:pJ),((qG.un (qI .part a8 aA)).2.2.1,(([]:pJ),(x.2,(aG,())))))) [(4,3)]),(3,.grow 186 2 (x.2.length))],4,63,0⟩⟩
  let x1:XE (O1 a8 O) 0 Ja0:=⟨λx=>⟨[(3,(.val (.list .part) x,some 0))],[(0,.grow 183 6 (x.length))],1,63,0⟩⟩
  let x2 aA aE aG:XE (K9 a8 aA O) 2 Ja1:=⟨λx=>⟨[(0,sv (.list .part) a8),(3,(.val (.list .part) aE,some 0)),(4,iv aA),(6,rs 1 0)],[(0,.grow 183 6 (aE.length)),(1,.cells sN ((qG.un (qI .part a8 aA)).1,(([]:pJ),((qG.un (qI .part a8 aA)).2.2.1,(([]:pJ),(x,(aG,())))))) [(4,2)]),(2,.grow 186 2 (x.length))],3,63,0⟩⟩
  exact rM
end
def aDq (p:(Ja0->Option Ja0)):(Ja0->Option Ja0):=SV p
def KA (n:Nat):(Ja0->Option Ja0):=Nat.rec (motive:=λ_=>(Ja0->Option Ja0)) (λ_=>none) (λ_ p=>aDq p) n
theorem Ui: ∀n:Nat,qZ prog (et (KA n))
 |0=>uZ
 |n+1=>have h:=Ui n;aDp h
def X4:Ja0->Option Ja0:=(KA 1000)
@[go_sem] abbrev aDr:Nat×r8:=et X4
theorem aDs:qZ prog aDr:=(Ui 1000)
theorem aDt:X4=(KA 1000):=rfl
abbrev Uj (x:(Ja0×pJ)):List qP:=[sv (.list .part) x.1,tv x.2]
@[go_sem] def Uk (O:Ja0->pJ->Option Ja1):(Ja0×pJ)->r9:=fun(a8,aA)=>rv [] (O a8 aA) λz=>([(.val (.list rV) z,some 0)],[.grow 132 2 (z.length)])
@[go_sem] def aL7 (O:Ja0->pJ->Option Ja1) a8 aA:=rI Uj qV (Uk O) (a8,aA)
@[go_sem] abbrev eu (F:Ja0->pJ->Option Ja1):Nat×r8:=mE 142 [.v,.v] Uj qV (Uk F)
section
variable {O:Ja0->pJ->Option Ja1}(hG0:qZ prog (eu O))
include hG0
def KB (a8:Ja0) (aA:pJ) (aB:Int) (aC:pJ) (O:Ja0->pJ->Option Ja1):(Ja1×Int)->Option ((Ja1×Int)⊕Ja1):=fun(aD,aE)=>ite (decide (aE<(((qG.un (qI .part a8 aB)).2.2.2.2.1).length:Int))) (ite (0<=aE/\aE<(((qG.un (qI .part a8 aB)).2.2.2.2.1).length:Int)) (ite (0<=aE/\aE<(((qG.un (qI .part a8 aB)).2.2.2.2.1).length:Int)) (ite (((((aA++aC)++Qa7)++(qI rV ((qG.un (qI .part a8 aB)).2.2.2.2.1) aE).1).length:Int)<=9223372036854775807) (ite ((((((aA++aC)++Qa7)++(qI rV ((qG.un (qI .part a8 aB)).2.2.2.2.1) aE).1)++Qa7).length:Int)<=9223372036854775807) ((O ((qI rV ((qG.un (qI .part a8 aB)).2.2.2.2.1) aE).2.1) ((((aA++aC)++Qa7)++(qI rV ((qG.un (qI .part a8 aB)).2.2.2.2.1) aE).1)++Qa7)).bind λaF=>ite ((aD.length+aF.length)*40<=140737488355328) (ite (qH (aE+1)) (some (.inl ((aD++aF),(aE+1)))) none) none) none) none) none) none) (some (.inr aD))
def KC (a8:Ja0) (aA:pJ) (O:Ja0->pJ->Option Ja1):(Ja1×Ja0×Int×Int)->Option ((Ja1×Ja0×Int×Int)⊕(Ja1×Ja0×Int)):=fun(aG,aH,aI,aB)=>ite (decide (aB<(a8.length:Int))) (ite (0<=aB/\aB<(a8.length:Int)) (ite (qH (aB+1)) (ite (0<=aB/\aB<=(aB+1)/\(aB+1)<=(a8.length:Int)) ((O0 (s8 a8 aB (aB+1))).bind λaJ=>ite aJ (ite ((aH.length+([(qG.of (qG.un (qI .part a8 aB)))]:List qG).length)*104<=140737488355328) (ite (qH (aB+1)) (some (.inl (aG,(aH++([(qG.of (qG.un (qI .part a8 aB)))]:List qG)),aI,(aB+1)))) none) none) ((NV aI).bind λaK=>ite (((aA++aK).length:Int)<=9223372036854775807) (ite ((aG.length+([((aA++aK),(aH,()))]:List qT).length)*40<=140737488355328) (ite (qH (aI+1)) ((NV (aI+1)).bind λaC=>ite (((aA++aC).length:Int)<=9223372036854775807) (ite ((((aA++aC)++Qa7).length:Int)<=9223372036854775807) (rD (σ:=Ja1) (ite (decide ((qG.un (qI .part a8 aB)).1=11)) ((O ((qG.un (qI .part a8 aB)).2.2.2.2.2.1) ((aA++aC)++Qa7)).bind λaL=>ite (((aG++([((aA++aK),(aH,()))]:List qT)).length+aL.length)*40<=140737488355328) (some ((aG++([((aA++aK),(aH,()))]:List qT))++aL)) none) (some (aG++([((aA++aK),(aH,()))]:List qT)))) λaM=>rD (rC (KB a8 aA aB aC O) (aM,0)) λaN=>ite (qH (aB+1)) (some (.inl (aN,([]:List qG),(aI+1),(aB+1)))) none) none) none) none) none) none)) none) none) none) (some (.inr (aG,aH,aI)))
def SW (O:Ja0->pJ->Option Ja1) (a8:Ja0) (aA:pJ):Option Ja1:=rD (rC (KC a8 aA O) (([]:List qT),([]:List qG),0,0)) fun(aO,aP,aQ)=>(NV aQ).bind λaR=>ite (((aA++aR).length:Int)<=9223372036854775807) (ite ((aO.length+([((aA++aR),(aP,()))]:List qT).length)*40<=140737488355328) (some (aO++([((aA++aR),(aP,()))]:List qT))) none) none
theorem aDu:qZ prog (eu (SW O)):=
 rJ (rH (qO tO (qO rY (qO uW (qO uz (qO Lo (qO yP (qO v6 (qO AR rG)))))))) (qS Uf (qS aC1 (qS hG0 rF)))) func142 91 [(4,none)] rfl λE ⟨a8,aA⟩=>by
  have u0:= @SW.eq_1;have u1:= @KC.eq_1
  let l1:LE (KC a8 aA O):=⟨λx=>⟨[(0,sv (.list .part) a8),(1,tv aA),(5,(.val (.list rV) x.1,some 0)),(6,(.val (.list .part) x.2.1,some 1)),(7,iv x.2.2.1),(8,iv x.2.2.2)],[(0,.grow 132 2 (x.1.length)),(1,.grow 183 6 (x.2.1.length))],2,91,0⟩⟩
  have u2:= @KB.eq_1
  let l2 aB aC aI:LE (KB a8 aA aB aC O):=⟨λx=>⟨[(0,sv (.list .part) a8),(1,tv aA),(5,(.val (.list rV) x.1,some 0)),(6,(.val (.list .part) ([]:List qG),some 1)),(7,iv (aI+1)),(8,iv aB),(9,rs 2 0),(10,tv ((aA++aC)++Qa7)),(11,iv x.2)],[(0,.grow 132 2 (x.1.length)),(1,.grow 183 6 (([]:List qG).length)),(2,.cells sN (qG.un (qI .part a8 aB)) [])],3,91,0⟩⟩
  let j1 aI aB aC:JE 50 Ja1:=⟨λx=>⟨[(0,sv (.list .part) a8),(1,tv aA),(5,(.val (.list rV) x,some 0)),(6,(.val (.list .part) ([]:List qG),some 1)),(7,iv (aI+1)),(8,iv aB),(9,rs 2 0),(10,tv ((aA++aC)++Qa7))],[(0,.grow 132 2 (x.length)),(1,.grow 183 6 (([]:List qG).length)),(2,.cells sN (qG.un (qI .part a8 aB)) [])],3,91,0⟩⟩
  let x1:XE (KC a8 aA O) 0 (Ja1×Ja0×Int):=⟨λx=>⟨[(1,tv aA),(5,(.val (.list rV) x.1,some 0)),(6,(.val (.list .part) x.2.1,some 1)),(7,iv x.2.2)],[(0,.grow 132 2 (x.1.length)),(1,.grow 183 6 (x.2.1.length))],2,91,0⟩⟩
  let x2 aB aC aI:XE (KB a8 aA aB aC O) 2 Ja1:=⟨λx=>⟨[(0,sv (.list .part) a8),(1,tv aA),(5,(.val (.list rV) x,some 0)),(6,(.val (.list .part) ([]:List qG),some 1)),(7,iv (aI+1)),(8,iv aB)],[(0,.grow 132 2 (x.length)),(1,.grow 183 6 (([]:List qG).length))],2,91,0⟩⟩
  exact rM
end
def aDv (p:(Ja0->pJ->Option Ja1)):(Ja0->pJ->Option Ja1):=SW p
def FJ (n:Nat):(Ja0->pJ->Option Ja1):=Nat.rec (motive:=λ_=>(Ja0->pJ->Option Ja1)) (λ_ _=>none) (λ_ p=>aDv p) n
theorem Ul: ∀n:Nat,qZ prog (eu (FJ n))
 |0=>uZ
 |n+1=>have h:=Ul n;aDu h
def X5:Ja0->pJ->Option Ja1:=(FJ 1000)
@[go_sem] abbrev aDw:Nat×r8:=eu X5
theorem aDx:qZ prog aDw:=(Ul 1000)
theorem aDy:X5=(FJ 1000):=rfl
def O2 (O:Ja1):Option Ja1:=ite ((0+O.length)*40<=140737488355328) (some (([]:List qT)++O)) none
abbrev Um (x:Ja1):List qP:=[sv (.list rV) x]
@[go_sem] def Un:Ja1->r9:=λO=>rv [] (O2 O) λz=>([(.own 0 (z.length),none)],[.row 186 rV z (z.length)])
@[go_sem] def aL8 O:=rI Um qV Un O
@[go_sem] abbrev aDz:Nat×r8:=mE 248 [.v] Um qV Un
theorem ew:qZ prog aDz:=
 rJ (rH (qO WS rG) rF) func248 8 [(2,none)] rfl λE O=>by
  have u0:= @O2.eq_1;exact rM
def I2 (O:tP):Int->Option (Int⊕(Unit⊕Bool)):=λa8=>ite (decide (a8<(O.2.2.2.1.length:Int))) (ite (0<=a8/\a8<(O.2.2.2.1.length:Int)) ((SK (qI tJ O.2.2.2.1 a8)).bind λaA=>ite (!(((((((qI tJ O.2.2.2.1 a8).1).length:Int)+(((qI tJ O.2.2.2.1 a8).2.1).length:Int))+(((qI tJ O.2.2.2.1 a8).2.2.1).length:Int))<=6000)&&(((val (A6 ((qI tJ O.2.2.2.1 a8).2.2.2.1) ((qI tJ O.2.2.2.1 a8).2.2.2.2.2.2.1)))+(val (A6 ((qI tJ O.2.2.2.1 a8).2.2.2.2.1) ([]:List wZ))))<=6000))) (some (.inr (.inr (false)))) (ite (qH (a8+1)) (some (.inl (a8+1))) none)) none) (some (.inr (.inl ())))
def SX (O:tP):Option Bool:=ite (((decide (100<(O.1.length:Int)))==false)=true->(A6 O.2.1 O.2.2.1).isSome=true) (ite (((100<(O.1.length:Int))||(6000<(val (A6 O.2.1 O.2.2.1))))||(12<(O.2.2.2.1.length:Int))) (some (false)) (sK (rC (I2 O) 0) λ_=>some (true))) none
abbrev Uo (x:tP):List qP:=[sv vL x]
@[go_sem] def Up:tP->r9:=λO=>rv [] (SX O) λz=>([bv z],[])
@[go_sem] def aL9 O:=rI Uo qV Up O
@[go_sem] abbrev aDA:Nat×r8:=mE 30 [.v] Uo qV Up
theorem aDB:qZ prog aDA:=
 rJ (rH (qO rY (qO vF (qO D5 (qO JY (qO D3 (qO D4 rG)))))) (qS Mt (qS aBI rF))) func30 36 [(2,none)] rfl λE O=>by
  have u0:= @SX.eq_1;have u1:= @I2.eq_1
  let l1:LE (I2 O):=⟨λx=>⟨[(1,rs 0 0),(3,iv x)],[(0,.cells vL O [])],1,36,0⟩⟩
  let x1:XE (I2 O) 0 Unit:=⟨λ_=>⟨[],[],0,36,0⟩⟩
  exact rM
def O3 (O:pJ) (a8:pJ):Option (pJ×pJ×Bool):=(X1 O a8).bind λaA=>some (aA.1,aA.2.1,aA.2.2)
abbrev Uq (x:(pJ×pJ)):List qP:=[tv x.1,tv x.2]
@[go_sem] def Ur:(pJ×pJ)->r9:=fun(O,a8)=>rv [] (O3 O a8) λz=>([tv (z.1),tv (z.2.1),bv (z.2.2)],[])
@[go_sem] def aMa O a8:=rI Uq qV Ur (O,a8)
@[go_sem] abbrev aDC:Nat×r8:=mE 328 [.v,.v] Uq qV Ur
theorem aDD:qZ prog aDC:=
 rJ (rH rG (qS aCV rF)) func328 13 [(4,none),(5,none),(6,none)] rfl λE ⟨O,a8⟩=>by
  have u0:= @O3.eq_1;exact rM
attribute [irreducible] SU O0 SV X4 SW X5 O2 SX O3
end
noncomputable section
def O4 (O:pJ):Int->Option (Int⊕(Unit⊕Bool)):=λa8=>ite (decide (a8<(O.length:Int))) (ite (0<=a8/\a8<(O.length:Int)) (ite ((((!((97<=(r7 O a8))&&((r7 O a8)<=122)))&&(!((48<=(r7 O a8))&&((r7 O a8)<=57))))&&(!decide ((r7 O a8)=45)))&&(((r7 O a8)<65)||(90<(r7 O a8)))) (some (.inr (.inr (false)))) (ite (qH (a8+1)) (some (.inl (a8+1))) none)) none) (some (.inr (.inl ())))
def SY (O:pJ):Option Bool:=sK (rC (O4 O) 0) λ_=>some ((1<=(O.length:Int))&&((O.length:Int)<=40))
abbrev Us (x:pJ):List qP:=[tv x]
@[go_sem] def Ut:pJ->r9:=λO=>rv [] (SY O) λz=>([bv z],[])
@[go_sem] def aMb O:=rI Us qV Ut O
@[go_sem] abbrev aDE:Nat×r8:=mE 81 [.v] Us qV Ut
def aDF:qZ prog aDE:=
 rJ (rH (qO rY rG) (qS Nz (qS Od rF))) func81 42 [(2,none)] rfl λE O=>by
  have u0:= @SY.eq_1;have u1:= @O4.eq_1
  let l1:LE (O4 O):=⟨λx=>⟨[(0,tv O),(3,iv x)],[],0,42,0⟩⟩
  let x1:XE (O4 O) 0 Unit:=⟨λ_=>⟨[(0,tv O)],[],0,42,0⟩⟩
  exact rM
def O5 (O:pK):Int->Option (Int⊕(Unit⊕Bool)):=λa8=>ite (decide (a8<(O.length:Int))) (ite (0<=a8/\a8<(O.length:Int)) ((NI (qI .str O a8)).bind λaA=>ite ((((!aA)==false)&&((decide (0<a8))==true))=true->0<=a8/\a8<(O.length:Int)) (ite ((((!aA)==false)&&((decide (0<a8))==true))=true->qH (a8- 1)) (ite ((((!aA)==false)&&((decide (0<a8))==true))=true->0<=(a8- 1)/\(a8- 1)<(O.length:Int)) (ite ((!aA)||((0<a8)&&(Op.bytesLess (qI .str O a8) (qI .str O (a8- 1))||decide ((qI .str O a8)=(qI .str O (a8- 1)))))) (some (.inr (.inr (false)))) (ite (qH (a8+1)) (some (.inl (a8+1))) none)) none) none) none) none) (some (.inr (.inl ())))
def GH (O:pK):Option Bool:=sK (rC (O5 O) 0) λ_=>some (decide ((O.length:Int)<=20))
abbrev Uu (x:pK):List qP:=[sv (.list .str) x]
@[go_sem] def Uv:pK->r9:=λO=>rv [] (GH O) λz=>([bv z],[])
@[go_sem] def aMc O:=rI Uu qV Uv O
@[go_sem] abbrev aDG:Nat×r8:=mE 85 [.v] Uu qV Uv
def aDH:qZ prog aDG:=
 rJ (rH (qO rY (qO vF rG)) (qS Og rF)) func85 35 [(2,none)] rfl λE O=>by
  have u0:= @GH.eq_1;have u1:= @O5.eq_1
  let l1:LE (O5 O):=⟨λx=>⟨[(0,sv (.list .str) O),(3,iv x)],[],0,35,0⟩⟩
  let x1:XE (O5 O) 0 Unit:=⟨λ_=>⟨[(0,sv (.list .str) O)],[],0,35,0⟩⟩
  exact rM
def GI (O:pJ):Option Unit:=ite (((decide ((O.length:Int)<=4000))==true)=true->(WV O).isSome=true) (some (())) none
abbrev Uw (x:pJ):List qP:=[tv x]
@[go_sem] def Ux:pJ->r9:=λO=>rv [] (GI O) λz=>([bv (((O.length:Int)<=4000)&&(Lib.validD O))],[])
@[go_sem] def aMd O:=rI Uw qV Ux O
@[go_sem] abbrev aDI:Nat×r8:=mE 88 [.v] Uw qV Ux
def wo:qZ prog aDI:=
 rJ (rH (qO rY rG) (qS aB3 rF)) func88 10 [(2,none)] rfl λE O=>by
  have u0:= @GI.eq_1;exact rM
def O6 (O:Int) (a8:Int) (aA:Bool):Option pJ:=rD (σ:=pJ) (ite (decide (O=1)) (some Qd4) (ite (decide (O=2)) (some Qb2) (ite (decide (O=3)) (some ([34,123,125]:pJ)) (some ([]:pJ))))) λaB=>ite (decide (a8=92)) (some ([92,92]:pJ)) (ite (decide (a8=10)) (some ([92,110]:pJ)) (ite (decide (a8=13)) (some ([92,114]:pJ)) (ite (decide (a8=9)) (some ([92,116]:pJ)) (rD (σ:=Bool) (ite (decide (0<=(AM aB a8))) (some (decide (0<=(AM aB a8)))) (some (((O=1)&&aA)&&(a8=32)))) λaC=>ite aC (ite (((([92]:pJ)++(tU ([a8]:pU))).length:Int)<=9223372036854775807) (some (([92]:pJ)++(tU ([a8]:pU)))) none) (ite (((a8<32)||(a8=127))&&(O=3)) ((WW a8 4).bind λaD=>ite (((([92,117]:pJ)++((MX Qb0 (4- ((xQ (IntKind.wrap .i64 a8) 16).length:Int)))++(xQ (IntKind.wrap .i64 a8) 16))).length:Int)<=9223372036854775807) (some (([92,117]:pJ)++((MX Qb0 (4- ((xQ (IntKind.wrap .i64 a8) 16).length:Int)))++(xQ (IntKind.wrap .i64 a8) 16)))) none) (ite ((a8<32)||(a8=127)) ((WW a8 2).bind λaE=>ite (((Qd5++((MX Qb0 (2- ((xQ (IntKind.wrap .i64 a8) 16).length:Int)))++(xQ (IntKind.wrap .i64 a8) 16))).length:Int)<=9223372036854775807) (some (Qd5++((MX Qb0 (2- ((xQ (IntKind.wrap .i64 a8) 16).length:Int)))++(xQ (IntKind.wrap .i64 a8) 16)))) none) (some (tU ([a8]:pU)))))))))
abbrev Uy (x:(Int×Int×Bool)):List qP:=[iv x.1,sv (.int .u8) x.2.1,bv x.2.2]
@[go_sem] def Uz:(Int×Int×Bool)->r9:=fun(O,a8,aA)=>rv [] (O6 O a8 aA) λz=>([tv z],[])
@[go_sem] def aMe O a8 aA:=rI Uy qV Uz (O,a8,aA)
@[go_sem] abbrev aDJ:Nat×r8:=mE 94 [.v,.v,.v] Uy qV Uz
def aDK:qZ prog aDJ:=
 rJ (rH (qO HU (qO rY (qO HT rG))) (qS Ma (qS aB5 (qS aB7 rF)))) func94 64 [(6,none)] rfl λE ⟨O,a8,aA⟩=>by
  have u0:= @O6.eq_1
  let j1:JE 0 pJ:=⟨λx=>⟨[(0,iv O),(1,sv (.int .u8) a8),(2,bv aA),(7,tv x)],[],0,64,0⟩⟩
  let j2:JE 27 Bool:=⟨λx=>⟨[(0,iv O),(1,sv (.int .u8) a8),(27,bv x)],[],0,64,0⟩⟩
  exact rM
def SZ (O:Int) (a8:Int) (aA:Bool):Option pJ:=ite (decide (O=4)) (ite False (some (WL a8)) none) (ite (decide (a8=10)) (some ([92,110]:pJ)) (ite (decide (a8=13)) (some ([92,114]:pJ)) (ite (decide (a8=9)) (some ([92,116]:pJ)) (rD (σ:=Bool) (ite (decide (a8=92)) (some (decide (a8=92))) (ite (((decide (O=1))==true)=true->(K2 a8 Qd4).isSome=true) (ite ((O=1)&&(val (K2 a8 Qd4))) (some ((O=1)&&(val (K2 a8 Qd4)))) (ite (((O=1)&&aA)&&(a8=32)) (some (((O=1)&&aA)&&(a8=32))) (ite ((!decide (O=1))&&(a8=34)) (some ((!decide (O=1))&&(a8=34))) (ite (((decide (O=3))==true)=true->(K2 a8 ([123,125]:pJ)).isSome=true) (some ((O=3)&&(val (K2 a8 ([123,125]:pJ))))) none)))) none)) λaB=>ite aB (ite (((([92]:pJ)++(tU ([a8]:pU))).length:Int)<=9223372036854775807) (some (([92]:pJ)++(tU ([a8]:pU)))) none) (ite (((a8<32)||(a8=127))&&(O=3)) ((WX (IntKind.wrap .i64 a8)).bind λaC=>ite (((([92,117,48,48]:pJ)++(tU ([(r7 Qb6 (IntKind.wrap .i64 (Int.tdiv (IntKind.wrap .i64 a8) 16))),(r7 Qb6 (Int.tmod (IntKind.wrap .i64 a8) 16))]:pU))).length:Int)<=9223372036854775807) (some (([92,117,48,48]:pJ)++(tU ([(r7 Qb6 (IntKind.wrap .i64 (Int.tdiv (IntKind.wrap .i64 a8) 16))),(r7 Qb6 (Int.tmod (IntKind.wrap .i64 a8) 16))]:pU)))) none) (ite ((a8<32)||(a8=127)) ((WX (IntKind.wrap .i64 a8)).bind λaD=>ite (((Qd5++(tU ([(r7 Qb6 (IntKind.wrap .i64 (Int.tdiv (IntKind.wrap .i64 a8) 16))),(r7 Qb6 (Int.tmod (IntKind.wrap .i64 a8) 16))]:pU))).length:Int)<=9223372036854775807) (some (Qd5++(tU ([(r7 Qb6 (IntKind.wrap .i64 (Int.tdiv (IntKind.wrap .i64 a8) 16))),(r7 Qb6 (Int.tmod (IntKind.wrap .i64 a8) 16))]:pU)))) none) (some (tU ([a8]:pU)))))))))
abbrev Vd (x:(Int×Int×Bool)):List qP:=[iv x.1,sv (.int .u8) x.2.1,bv x.2.2]
@[go_sem] def Ve:(Int×Int×Bool)->r9:=fun(O,a8,aA)=>rv [] (SZ O a8 aA) λz=>([tv z],[])
@[go_sem] def aMf O a8 aA:=rI Vd qV Ve (O,a8,aA)
@[go_sem] abbrev aDL:Nat×r8:=mE 101 [.v,.v,.v] Vd qV Ve
def aDM:qZ prog aDL:=
 rJ (rH (qO tO (qO HU (qO rY (qO HT rG)))) (qS aBq (qS aB9 (qS aCb rF)))) func101 84 [(6,none)] rfl λE ⟨O,a8,aA⟩=>by
  have u0:= @SZ.eq_1
  let j1:JE 25 Bool:=⟨λx=>⟨[(0,iv O),(1,sv (.int .u8) a8),(7,tv (tU ([a8]:pU))),(25,bv x)],[],0,84,0⟩⟩
  exact rM
def vV (O:pJ) (a8:Ja2) (aA:Int) (aB:pR) (aC:Int) (aD:pS):Option (Int×Int):=ite (decide (aB.2.1=0)) ((WY O a8 aA aB aD).bind λaE=>some (aE,aC)) (some (aB.1,aB.2.1))
abbrev Vf (x:(Int×pJ×Ja2×Int×pR×pS)):List qP:=[rs 0 0,iv x.1]
abbrev Vg (x:(Int×pJ×Ja2×Int×pR×pS)):List qQ:=[.cells tG (x.2.1,(x.2.2.1,(x.2.2.2.1,((some 1),x.2.2.2.2.1)))) [],.map .str .bool x.2.2.2.2.2]
@[go_sem] def Vh:(Int×pJ×Ja2×Int×pR×pS)->r9:=fun(O,a8,aA,aB,aC,aD)=>rv [] (vV a8 aA aB aC O aD) λz=>([],[.cells tG (a8,(aA,(aB,((some 1),(z.1,(z.2,())))))) [],.map .str .bool aD])
@[go_sem] def aMg O a8 aA aB aC aD:=rI Vf Vg Vh (O,a8,aA,aB,aC,aD)
@[go_sem] abbrev aDN:Nat×r8:=mE 146 [.p tG [],.v] Vf Vg Vh [(0,3,.m)] [1]
def EN:qZ prog aDN:=
 rJ (rH (qO tO (qO BD (qO zJ rG))) (qS aCf rF)) func146 18 [] rfl λE ⟨O,a8,aA,aB,aC,aD⟩=>by
  have u0:= @vV.eq_1;exact rM
def xZ (O:s9) (a8:Int):Option (Int×Int):=ite (decide (O.2.2.2.2.1=0)) ((vG O).bind λaA=>some (aA.2.2.1,a8)) (some (O.2.2.2.1,O.2.2.2.2.1))
abbrev Vi (x:(Int×s9×Nat)):List qP:=[rs 0 0,iv x.1]
abbrev Vj (x:(Int×s9×Nat)):List qQ:=[.cells tZ x.2.1 [(2,1)],.grow 9 1 x.2.2]
@[go_sem] def Vk:(Int×s9×Nat)->r9:=fun(O,a8,aA)=>rv [aA=(a8.2.2.1.length)] (xZ a8 O) λz=>([],[.cells tZ (a8.1,(a8.2.1,(a8.2.2.1,(z.1,(z.2,()))))) [(2,1)],.grow 9 1 (a8.2.2.1.length)])
@[go_sem] def aMh O a8 aA:=rI Vi Vj Vk (O,a8,aA)
@[go_sem] abbrev aDO:Nat×r8:=mE 153 [.p tZ [2],.v] Vi Vj Vk [] [1]
def O7:qZ prog aDO:=
 rJ (rH (qO tO (qO BD (qO HV (qO D6 rG)))) (qS K3 rF)) func153 19 [] rfl λE ⟨O,a8,aA⟩=>by
  have u0:= @xZ.eq_1;exact rM
def O8 (O:pJ):(pU×Int)->Option ((pU×Int)⊕pU):=fun(a8,aA)=>ite (decide (aA<(O.length:Int))) (ite (0<=aA/\aA<(O.length:Int)) (ite (((((((r7 O aA)=123)||((r7 O aA)=125))||((r7 O aA)=60))||((r7 O aA)=62))||((r7 O aA)=35))||((r7 O aA)=92)) (ite ((a8.length+([92]:pU).length)*1<=140737488355328) (ite (0<=aA/\aA<(O.length:Int)) (ite (((a8++([92]:pU)).length+([(r7 O aA)]:pU).length)*1<=140737488355328) (ite (qH (aA+1)) (some (.inl (((a8++([92]:pU))++([(r7 O aA)]:pU)),(aA+1)))) none) none) none) none) (ite (0<=aA/\aA<(O.length:Int)) (ite ((a8.length+([(r7 O aA)]:pU).length)*1<=140737488355328) (ite (qH (aA+1)) (some (.inl ((a8++([(r7 O aA)]:pU)),(aA+1)))) none) none) none)) none) (some (.inr a8))
def T0 (O:pJ):Option pJ:=rD (rC (O8 O) (([]:pU),0)) λa8=>some (tU a8)
abbrev Vl (x:pJ):List qP:=[tv x]
@[go_sem] def Vm:pJ->r9:=λO=>rv [] (T0 O) λz=>([tv z],[])
@[go_sem] def aMi O:=rI Vl qV Vm O
@[go_sem] abbrev aDP:Nat×r8:=mE 157 [.v] Vl qV Vm
def aDQ:qZ prog aDP:=
 rJ (rH (qO HU (qO rY (qO HT rG))) (qS vo rF)) func157 26 [(2,none)] rfl λE O=>by
  have u0:= @T0.eq_1;have u1:= @O8.eq_1
  let l1:LE (O8 O):=⟨λx=>⟨[(0,tv O),(3,(.val (.list (.int .u8)) x.1,some 0)),(4,iv x.2)],[(0,.grow 5 1 (x.1.length))],1,26,0⟩⟩
  let x1:XE (O8 O) 0 pU:=⟨λx=>⟨[(3,(.val (.list (.int .u8)) x,some 0))],[(0,.grow 5 1 (x.length))],1,26,0⟩⟩
  exact rM
def GJ (O:pJ) (a8:pJ):Option (pJ×Bool):=(SO O a8).bind λaA=>some (aA.1,aA.2)
abbrev Vn (x:(pJ×pJ)):List qP:=[tv x.1,tv x.2]
@[go_sem] def Vo:(pJ×pJ)->r9:=fun(O,a8)=>rv [] (GJ O a8) λz=>([tv (z.1),bv (z.2)],[])
@[go_sem] def aMj O a8:=rI Vn qV Vo (O,a8)
@[go_sem] abbrev aDR:Nat×r8:=mE 169 [.v,.v] Vn qV Vo
def wq:qZ prog aDR:=
 rJ (rH rG (qS aCr rF)) func169 11 [(4,none),(5,none)] rfl λE ⟨O,a8⟩=>by
  have u0:= @GJ.eq_1;exact rM
def KD (O:pU):(pJ×Int)->Option ((pJ×Int)⊕pJ):=fun(a8,aA)=>ite (decide (aA<(O.length:Int))) (ite (0<=aA/\aA<(O.length:Int)) (ite (((0<=(qI (.int .i64) O aA))&&((qI (.int .i64) O aA)<=1114111))&&(((qI (.int .i64) O aA)<55296)||(57343<(qI (.int .i64) O aA)))) (ite (0<=aA/\aA<(O.length:Int)) ((FH (qI (.int .i64) O aA)).bind λaB=>ite (((a8++aB).length:Int)<=9223372036854775807) (ite (qH (aA+1)) (some (.inl ((a8++aB),(aA+1)))) none) none) none) ((FH 65533).bind λaC=>ite (((a8++aC).length:Int)<=9223372036854775807) (ite (qH (aA+1)) (some (.inl ((a8++aC),(aA+1)))) none) none)) none) (some (.inr a8))
def T1 (O:pU):Option pJ:=rD (rC (KD O) (([]:pJ),0)) λa8=>some (a8)
abbrev Vp (x:pU):List qP:=[sv (.list (.int .i64)) x]
@[go_sem] def Vq:pU->r9:=λO=>rv [] (T1 O) λz=>([tv z],[])
@[go_sem] def aMk O:=rI Vp qV Vq O
@[go_sem] abbrev aDS:Nat×r8:=mE 175 [.v] Vp qV Vq
def aDT:qZ prog aDS:=
 rJ (rH (qO tO (qO Lr rG)) (qS Qf (qS Qq rF))) func175 27 [(2,none)] rfl λE O=>by
  have u0:= @T1.eq_1;have u1:= @KD.eq_1
  let l1:LE (KD O):=⟨λx=>⟨[(0,sv (.list (.int .i64)) O),(3,tv x.1),(4,iv x.2)],[],0,27,0⟩⟩
  let x1:XE (KD O) 0 pJ:=⟨λx=>⟨[(3,tv x)],[],0,27,0⟩⟩
  exact rM
def EO (O:pJ) (a8:Ja2) (aA:Int) (aB:pR) (aC:Int) (aD:pS):Option (Int×Int):=ite (decide (8<aC)) ((vV O a8 aA aB 6 aD).bind λaE=>some (aE.1,aE.2)) (some (aB.1,aB.2.1))
abbrev Vr (x:(Int×pJ×Ja2×Int×pR×pS)):List qP:=[rs 0 0,iv x.1]
abbrev Vs (x:(Int×pJ×Ja2×Int×pR×pS)):List qQ:=[.cells tG (x.2.1,(x.2.2.1,(x.2.2.2.1,((some 1),x.2.2.2.2.1)))) [],.map .str .bool x.2.2.2.2.2]
@[go_sem] def Vt:(Int×pJ×Ja2×Int×pR×pS)->r9:=fun(O,a8,aA,aB,aC,aD)=>rv [] (EO a8 aA aB aC O aD) λz=>([],[.cells tG (a8,(aA,(aB,((some 1),(z.1,(z.2,())))))) [],.map .str .bool aD])
@[go_sem] def aMl O a8 aA aB aC aD:=rI Vr Vs Vt (O,a8,aA,aB,aC,aD)
@[go_sem] abbrev aDU:Nat×r8:=mE 196 [.p tG [],.v] Vr Vs Vt [(0,3,.m)] [1]
def T2:qZ prog aDU:=
 rJ (rH rG (qS EN rF)) func196 8 [] rfl λE ⟨O,a8,aA,aB,aC,aD⟩=>by
  have u0:= @EO.eq_1;exact rM
attribute [irreducible] SY GH GI O6 SZ vV xZ T0 GJ T1 EO
end
end Go.Proofs.YtedimeeleabhnaaGreatDoor
