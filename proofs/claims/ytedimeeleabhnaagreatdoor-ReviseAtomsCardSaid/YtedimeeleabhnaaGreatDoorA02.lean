import Derived.BigCall
import Derived.BigGuard
import Derived.Deep.Heap
import Derived.Handy
import Derived.KernelRfl
import Derived.Lib.IndexMore
import Derived.Lib.ItoaMem
import Derived.Lib.RowBridge
import Derived.LoopIn
import Derived.LoopNIn
import Derived.Maps.RangeRun
import Derived.OwnWalkIn
import Derived.Shelf.Abstract
import Derived.Shelf.Slices.Clone
import Derived.Shelf.Small.Strs
import Derived.Shelf.Small.Utf8
import Derived.Shelf.Strconv.Itoa3
import Derived.Shelf.Strings.Builder1
import Derived.Shelf.Strings.OnBuilder
import Derived.Shelf.Strings.Repeat
import Derived.Shelf.Strings.Runes
import Derived.Shelf.Strings.Search1
import Derived.Shelf.Strings.Search2
import Derived.Shelf.Strings.Search3
import Derived.Shelf.Strings.SlTrimAscii
import Derived.Shelf.Strings.Trim
import Derived.Shelf.Unicode.DecodeAny
import Derived.Shelf.Unicode.ValidAny
import Derived.Sort.LoopGhostIn
import Derived.TacticsInMore
import Derived.Test.YtedimeeleabhnaaGreatDoorChecked
import Derived.Test.YtedimeeleabhnaaGreatDoorProg
import Derived.WalkKit
import Derived.Test.YtedimeeleabhnaaGreatDoorA01
set_option linter.all false
set_option maxRecDepth 100000
set_option maxHeartbeats 4000000
namespace Go.Proofs.YtedimeeleabhnaaGreatDoor.Vc
open Go.RowKit
variable {R:Bool}
attribute [go_sem] Option.map_some Option.map_none
@[go_sem] theorem aJv {H:List (Nat×qP)}{ps:List PK}{b:List qK}{a:Option tD}:xW H ps ([]++b) a=xW H ps b a:=rfl
@[go_sem] theorem aJw {H:List (Nat×qP)}{ps:List PK}{x:qK}{l b:List qK}{a:Option tD}:xW H ps ((x::l)++b) a=xW H ps (x::(l++b)) a:=rfl
@[go_sem] def Hw:Option qK->Option (List qK)->Option (List qK)
 |some s,some l=>some (s::l)
 |_,_=>none
@[go_sem] def qw:Option r9->Option qK
 |some e=>some e.slot
 |none=>none
@[go_sem] def VZ (H:List (Nat×qP)):Option TI->qK->Option r9
 |some ti,(.val .ref (some (i,off)),_)=>V0 ti.ty i off (qT H i)
 |_,_=>none
@[go_sem] def W0 (T:sH) (s:St) (m:pS):Nat×Option TypeId->Option qK
 |(t,none)=>some (A8 m (lk s.env t))
 |(t,some ty)=>(qw (VZ s.H (s0 T ty) (lk s.env t))).map (A8 m)
@[go_sem] def FT (T:sH) (s:St) (m:pS):List (Nat×Option TypeId)->Option (List qK)
 |[]=>some []
 |q::r=>Hw (W0 T s m q) (FT T s m r)
def C0:Nat×Option TypeId->ResultVar
 |(t,none)=> .tmp t
 |(t,some ty)=> .cell t ty
@[go_sem] def CX:Nat->Nat->List (Nat×qP)->List (Nat×qP)
 |0,_,H=>H
 |n+1,i,[]=>(i,.dead)::CX n (i+1) []
 |n+1,i,(j,b)::H=>if j=i then(j,b)::CX n (i+1) H else(i,.dead)::CX n (i+1) ((j,b)::H)
theorem MD: ∀{n i:Nat}{H:List (Nat×qP)}{k:Nat}{b:qP},qT (CX n i H) k=some b->qT H k=some b\/b= .dead
 |0,_,_,_,_,h=> .inl h
 |n+1,i,[],k,b,h=>by
  simp only[CX,qT] at h;split at h
  .exact .inr (aNa h).symm
  .exact MD h
 |n+1,i,(j,c)::H,k,b,h=>by
  unfold CX at h;split at h
  .simp only[qT] at h|-;split at h
   .rename_i e;rw[aM4 e];exact .inl h
   rename_i e;rw[aM9 e];exact MD h
  simp only[qT] at h;split at h
  .exact .inr (aNa h).symm
  exact MD h
theorem sL.pad {g:Gh}{w:pY}{H:sA}(h:sL g w H) (n i:Nat):sL g w (CX n i H):=by
 have own: ∀{k blk b o},qT (CX n i H) k=some blk->sB g k blk b o->qT H k=some blk:=λG F=>by
  rcases MD G with z|z
  .exact z
  subst z;exact F.elim
 refine⟨λk b hb=>?_,λi j bi bj b o E z D o1 o2=>h.dis i j bi bj b o E (own z o1) (own D o2) o1 o2,h.sl,h.tab.1,λk blk b o z D=>h.tab.2 k blk b o (own z D) D⟩;rcases MD hb with z|z
 .exact h.blk k b z
 subst z;trivial
theorem tE.pad {A:Nat->Nat->Prop}{L:List qP}{g0 g:Gh}{w0 w:pY}{H:sA}(h:tE A L g0 w0 g w H) (n i:Nat):tE A L g0 w0 g w (CX n i H):=by
 refine⟨h.shut,h.fr,λk blk b o z D=>?_,h.J,h.live,λk u y us hk z=>?_,h.cur⟩
 .rcases MD z with j|j
  .exact h.perm k blk b o j D
  subst j;exact D.elim
 rcases MD z with j|j
 .exact h.ty k u y us hk j
 cases j
def ME (T:sH) (ts:List (Nat×Option TypeId)) (r:r8):Ex->St->Prop
 | .exit _,_=>False
 |_,s=> ∃m:pS,vI s.np m=true/\CX (w4 r.H) 0 (s.keep ⟨[],m⟩).H=sZ 0 r.H/\FT T s m ts=some r.ret
section
variable {P:Program}{o:Oper}{a:Act}{g:Gh}{w:pY}{H:sA}{T:sH}(hT:vX P T) (hH:sL g w H)
include hT hH
theorem a8d {t:TypeId}{vx:pZ}{sx:qK}(K:rY g w sx vx) {e:r9}(hr:VZ H (s0 T t) sx=some e): ∃ad v,vx= .pointer (some ad)/\(loadVar t ad).run P w= .ok v w/\rY g w e.slot v:=by
 generalize X:s0 T t=ot at hr;replace K:=K.1;unfold VZ at hr;split at hr
 .rename_i ti i off k;have M:=t7 hT X;generalize hb:qT H i=ob at hr;unfold V0 at hr;split at hr
  .rename_i u z toks;generalize D:rR ti.ty u z off=oy at hr;cases oy with
   |none=>cases hr
   |some y=>
    cases hr;obtain⟨p,hp,hv⟩:=zB K;obtain⟨p',cs,j,Z,R,_,_,Q⟩:=hH.blk i _ hb;rw[hp] at j;obtain rfl:=aNa j;obtain⟨c1,c2,c3,rfl,rfl,E⟩:=DR Z D;obtain⟨v,h1,V,U⟩:=QW hT hH M (M0 hT hH R) E;refine⟨_,v,hv,by simpa[Instr.loadAt,Instr.sureAddr] using h1,V,?_⟩;obtain⟨ty,el,by',ar,ls⟩:=ti;cases ty with
    |list u'=>
     simp only[FL];generalize O:xC toks c1.length=ok;cases ok with
     |none=>trivial
     |some k=>
      obtain⟨u2,l,v',g1,g2,g3⟩:=Q _ _ (mz hT hH O);obtain⟨heq,Y⟩:=Da hT hH g1 D rfl;injection heq with I
      subst I;have G:=sU E;obtain⟨v2,rfl⟩:=aOm.1 G;have e2:v'=v2:=by
       have e:(c1++[v2]++c3)[c1.length]? =some v2:=by simp
       rw[e] at g2;exact(aNa g2).symm
      have e3:v=v2:=by
       have h4:=B2 rfl V;have F:=BQ h4 v pO;have:v.cells= #[v]:=by cases v<;>first|rfl|(simp [Value.oneCell'] at F)
       rw[this] at U;simpa using U
      subst e2;subst e3;have e4:(y:List u'.den)=l:=Y;subst e4;exact g3
    |_=>trivial
  cases hr
 cases hr
end
def JH (tmps:Array pZ) (q:Nat×Option TypeId):Sem pZ:=match C0 q with
 | .tmp t=>pure (tmps.getD t undef)
 | .cell a t=>do loadVar t (<-asAddr (tmps.getD a undef))
theorem Hx {P:Program}{T:sH}(hT:vX P T) {B:Nat}{g:Gh}{w:pY}{s:St}{a:Act}{m:pS}(hk:vI s.np m=true) (hr:tZ B g w s a): ∀{ts:List (Nat×Option TypeId)}{l:List qK},FT T s m ts=some l->
  ∃vs:pU,(ts.mapM (JH a.tmps)).run P w= .ok vs w/\wR (uI g s.np m) w l vs
 |[],l,h=>by
  simp only[FT,aM6] at h;subst h;exact⟨[],by simp,rfl⟩
 |q::ts,l,h=>by
  simp only[FT] at h;obtain⟨s1,l1,e1,e2,rfl⟩: ∃s1 l1,W0 T s m q=some s1/\FT T s m ts=some l1/\l=s1::l1:=by
   cases F:W0 T s m q<;>cases E:FT T s m ts<;>rw[F,E] at h<;>simp [Hw] at h
   exact⟨_,_,rfl,rfl,h.symm⟩
  obtain⟨vs,v1,v2⟩:=Hx hT hk hr e2;obtain⟨v,w1,w2⟩: ∃v,(JH a.tmps q).run P w= .ok v w/\rY (uI g s.np m) w s1 v:=by
   obtain⟨t,oty⟩:=q;cases oty with
   |none=>
    simp only[W0,aM6] at e1;subst e1;exact⟨_,by simp [JH,C0],bk hk (hr.env t)⟩
   |some ty=>
    simp only[W0] at e1;cases j:VZ s.H (s0 T ty) (lk s.env t) with
    |none=>rw[j] at e1;cases e1
    |some e=>
     rw[j] at e1;simp only[qw,Option.map_some,aM6] at e1;subst e1;obtain⟨ad,v,hv,D,z⟩:=a8d hT hr.heap (hr.env t) j;exact⟨v,by simp only[JH,C0,hv,asAddr,aNi,aNu,aNb,D],bk hk z⟩
  exact⟨v::vs,by simp only[List.mapM_cons,aNi,w1,aNb,v1,aNu],v,vs,rfl,w2,v2⟩
def RI (tmps:Array pZ):ResultVar->Sem pZ
 | .tmp t=>pure (tmps.getD t undef)
 | .cell a t=>do loadVar t (<-asAddr (tmps.getD a undef))
theorem Hy {P:Program}{fn:Func}{w:pY}{tmps:Array pZ}{ts:List (Nat×Option TypeId)}(h:fn.results.toList=ts.map C0) {vs:pU}(hv:(ts.mapM (JH tmps)).run P w= .ok vs w):(results fn tmps).run P w= .ok (qo vs) w:=by
 obtain⟨rs,j⟩: ∃rs,fn.results=⟨rs⟩:=⟨fn.results.toList,rfl⟩;have hm:rs=ts.map C0:=by rw[j] at h;exact h
 have key:Sem.run P (((ts.map C0).toArray).mapM (RI tmps)) w=Result.ok vs.toArray w:=by
  rw[List.mapM_toArray,List.mapM_map];have e:RI tmps∘C0=JH tmps:=by
   funext q;obtain⟨t,o⟩:=q;cases o<;>rfl
  have e2:(λq=>RI tmps (C0 q))=JH tmps:=e;show Sem.run P (List.mapM (λq=>RI tmps (C0 q)) ts>>=λl=>pure l.toArray) w=_;rw[e2,aNi,hv];rfl
 have z:results fn tmps=(fn.results.mapM (RI tmps) >>=λvs=>pure (if h:vs.size=1 then vs[0] else .tuple vs)):=by
  unfold results;congr 2
 rw[z,j,hm,aNi];have key2:Sem.run P (Array.mapM (RI tmps) (⟨ts.map C0⟩:Array ResultVar)) w=Result.ok vs.toArray w:=key;rw[key2];simp only[aNb,aNu]
 match vs with
 |[]=>rfl
 |[v]=>rfl
 |v::u::l=>simp [qo]
theorem a8e {P:Program}{T:sH}(hT:vX P T) {f:FuncId}{fn:Func}{c:Code}{C:List qK->List qP->Option r8}{ts:List (Nat×Option TypeId)}(hf:P.funcs[f]? =some fn) (hb:fn.body=some c) {N:Nat}(hN:fn.ntmps=N)
  (K: ∀args w,(callFunc f args).run P w= .ok (.enter f args) w) (U:fn.results.toList=ts.map C0)
  (h: ∀args L r,C args L=some r->(∀p∈r.side,p)->BX L->args.length<=N/\RD (vK 0 L) args/\RE (vK 0 L) L/\Ev false P c ⟨BW 0 args,sZ 0 L,w4 L,N,w4 L⟩ (ME T ts r)):yV P f C:=by
 subst hN;refine⟨K,λg w args vals L r hH ha hC O=>?_⟩;obtain⟨h1,h2,Z,h4⟩:=h args L r hC O (Hc λi b hb=>⟨i,hH.blk i b (by rw[zC];exact hb)⟩);obtain⟨hr,D⟩:=a7Y hH ha h2 Z h1;have j: ∀b o,wQ (uI g 0 (vK 0 L)) (sZ 0 L) b o->wQ g (sZ 0 L) b o:=λb o ⟨i,blk,M,E⟩=>⟨i,blk,M,(D i blk (by rw[<-zC];exact M)).2.2 b o E⟩;have I:tE (wQ (uI g 0 (vK 0 L)) (sZ 0 L)) L (uI g 0 (vK 0 L)) w (uI g 0 (vK 0 L)) w (sZ 0 L):=by
  refine⟨λb o h=>⟨h,rfl⟩,Fr.refl _ _ _,λi blk b o M E=> .inr ⟨i,blk,M,E⟩,λ_ _ _ h=>h,λi hi=>?_,λi u y us _ M=>⟨y,us,by rw[<-zC];exact M⟩,λ_ _ _ _ h=>h⟩;have hL:L[i]? =some L[i]:=by simp
  obtain⟨_,z,_⟩:=D i L[i] hL;have R:=(MA Z L[i] (aNc hi)).2;generalize L[i]=blk at z R;cases blk with
  |cells t x ts=>obtain⟨p,cs,hp,_⟩:=z;exact .inl ⟨p,hp⟩
  |grow e c n=>obtain⟨v,xs,hv,_⟩:=z;exact .inr ⟨n,v,hv⟩
  |row e t l n=>obtain⟨_,v,xs,hv,_⟩:=z;exact .inr ⟨n,v,hv⟩
  |map k v l=>obtain⟨p,es,cl,hp,_⟩:=z;exact .inl ⟨p,hp⟩
  |iter s n=>obtain⟨p,hp,_⟩:=z;exact .inl ⟨p,hp⟩
  |dead=>exact absurd rfl R
 refine callsIn_wide.1 (callsIn_of_wp_marks (F:=Fence.wide) (n:=0) hf hb trivial (aOl (h4 none rfl _ _ _ _ _ _ _ _ (aNt _) hr I (qq L)) λx a' w' hp=>?_) rfl);obtain⟨e,g',s',e1,e2,e3,e4,e5⟩:=hp;have tO: ∀m:pS,vI s'.np m=true->CX (w4 r.H) 0 (s'.keep ⟨[],m⟩).H=sZ 0 r.H->FT T s' m ts=some r.ret->LeavesInM Fence.wide 0 P fn a'.tmps (λe w'=> ∃v' g',e= .returned v'/\M3 g w L r g' w' v') a'.defers .returning w':=by
  intro m hk k1 k2;refine Hh a'.defers w' e3 e4 (λw1 e3 e4=>?_);obtain⟨l1,l2,l3,_⟩:=bo e3 e4 e5 ⟨[],m⟩ hk;replace l2:=l2.pad (w4 r.H) 0;rw[k1] at l2;obtain⟨vs,q1,q2⟩:=Hx hT hk e3 k2;have q3:=Hy (P:=P) (w:=w1) (tmps:=a'.tmps) U q1;refine⟨_,q3,_,_,rfl,⟨λb o hb=>l2.shut b o hb,by rw[<-k1];exact l1.heap.pad _ _,?_,?_,λi blk b o hi E=>?_,λi t x us hi=>?_,λi t x us u y vs hi hr=>?_,λi p hi hp=>l2.J i p hi ((B3 bw (RF.2 ⟨rfl,aOz _,pM⟩)).1.trans hp),λi n u hi hu=>l2.cur i n u hi ((congrFun (B3 bw (RF.2 ⟨rfl,aOz _,pM⟩)).2 n).trans hu)⟩⟩
  .unfold VM;split
   .rename_i s O;rw[O] at q2;obtain⟨v,vs',hv,Q,h6⟩:=q2;rw[hv,show vs'=[] from h6];exact Q
   rename_i Y;refine⟨_,?_,q2⟩;unfold qo;split
   .rename_i v hv;exfalso;have:=(qp q2).1;cases V:r.ret with
    |nil=>rw[V] at this;simp at this
    |cons s l=>cases l with
     |nil=>exact Y s V
     |cons _ _=>rw[V] at this;simp at this
   rfl
  .exact⟨l2.fr.os,l2.fr.tape,l2.fr.output,l2.fr.size,λb hb X=>l2.fr.blk b hb (λo E=>X o (j b o E)),λb o hb X=>l2.fr.cell b o hb (λE=>X (j b o E)),λb o hS=>(l2.fr.new b o hS).imp id (Or.imp id (j b o)),λb s O=>(l2.fr.shape b s O).imp id λh o=>j b o (h o)⟩
  .exact(l2.perm i blk b o (by rw[zC];exact hi) E).imp id (j b o)
  .obtain⟨j1,⟨p,cs,j2,_⟩,_⟩:=D i _ hi;have G:i<L.length:=(aNl.1 hi).1;rw[l2.J i p G j2,<-j1,j2]
  have G:i<L.length:=(aNl.1 hi).1;obtain⟨x',ts',Q⟩:=l2.ty i u y vs G (by rw[zC];exact hr);rw[hi] at Q;simp only[aM6,qP.cells.injEq] at Q;exact Q.1.symm
 cases x<;>simp only[B5,aM6] at e1
 case normal=>subst e1;obtain⟨k,k0,k1,k2⟩:=e2;exact tO k k0 k1 k2
 case ret=>subst e1;obtain⟨k,k0,k1,k2⟩:=e2;exact tO k k0 k1 k2
 case exit id=>subst e1;exact e2.elim
 all_goals cases e1
open Classical in
noncomputable def DZ {V:Type}(p:V->List qK) (q:V->List qP) (R:V->r8) (a:List qK) (L:List qP):Option r8:=
 if h: ∃v,p v=a/\q v=L then some (R h.choose) else none
theorem Hz {V:Type}{p:V->List qK}{q:V->List qP}{R:V->r8}{a:List qK}{L:List qP}{r:r8}(h:DZ p q R a L=some r): ∃v,p v=a/\q v=L/\R v=r:=by
 unfold DZ at h;split at h
 .rename_i e;exact⟨e.choose,e.choose_spec.1,e.choose_spec.2,aNa h⟩
 cases h
theorem qx {V:Type}{p:V->List qK}{q:V->List qP}{R:V->r8}(inj: ∀v v',p v=p v'->q v=q v'->v=v') (v:V):DZ p q R (p v) (q v)=some (R v):=by
 have h: ∃u,p u=p v/\q u=q v:=⟨v,rfl,rfl⟩;unfold DZ;rw[aOS h,inj _ v h.choose_spec.1 h.choose_spec.2]
theorem qy: ∀{l:List Prop},(∀p∈l,p)->uU l
 |[],_=>trivial
 |[p],h=>h p pO
 |p::q::r,h=>⟨h p pO,qy (l:=q::r) λx j=>h x (aNp _ j)⟩
def qW (P:Program) (x:Nat×r7):Prop:=yV P x.1 x.2.C/\∀F,x.2.row=some F->nz P x.1 F
theorem MF {P:Program}{T:sH}{Γ:tS}(hE:vP P T Γ) {f:FuncId}{fn:Func}{c:Code}{V:Type}{p:V->List qK}{q:V->List qP}{R:V->r8}{ps:List PK}{gs:List (Nat×Nat×PK)}{same:pX}{ts:List (Nat×Option TypeId)}(hf:P.funcs[f]? =some fn) (hb:fn.body=some c) {N:Nat}(E:fn.ntmps=N)
  (z:fn.results.toList=ts.map C0) (j: ∀args w,(callFunc f args).run P w= .ok (.enter f args) w)
  (h: ∀v,uU (R v).side->BX (q v)->Ev false P c ⟨BW 0 (p v),sZ 0 (q v),w4 (q v),N,w4 (q v)⟩ (ME T ts (R v)))
  (K: ∀v,Nat.ble (p v).length N=true:=by intro _;rfl)
  (I: ∀v,RD (vK 0 (q v)) (p v):=by intro _;repeat (first|exact trivial|refine ⟨rfl,?_⟩))
  (G: ∀v,RE (vK 0 (q v)) (q v):=by intro _;repeat (first|exact trivial|refine ⟨rfl,?_⟩)):qW P (f,⟨ps,DZ p q R,gs,same,none⟩):=
 ⟨a8e hE.T hf hb E j z λargs L r F D hr=>by
  obtain⟨v,rfl,rfl,rfl⟩:=Hz F;exact⟨Nat.le_of_ble_eq_true (K v),I v,G v,h v (qy D) hr⟩,λ_ h=>by cases h⟩
abbrev qG (n:Int):Prop:= -9223372036854775808<=n/\n<=9223372036854775807
@[go_sem] def AE:List (Nat×r7)->tS
 |[],_=>none
 |(k,s)::r,f=>if k=f then some s else AE r f
theorem rE {P:Program}:DT P (AE []):=λ_ _ _ h=>by cases h
theorem qQ {P:Program}{x:Nat×r7}{r:List (Nat×r7)}(h:qW P x) (hr:DT P (AE r)):DT P (AE (x::r)):=λf s z j=>by
 obtain⟨k,y⟩:=x;simp only[AE] at j;split at j
 .rename_i e;subst e;cases j;exact h
 exact hr f s z j
section
variable {P:Program}{T:sH}{Γ:tS}(E:vP P T Γ) {s:St}{Q:Ex->St->Prop}
include E
theorem s6 {id:Nat}{ops:Array Oper}{a:uM}{y:Code}(j:Ev R P y a.s Q) (h:tP T Γ ops.toList ops.toList (some ⟨s,[],[]⟩)=some a:=by simp only[go_sem];rfl) (hp:uU a.side:=by exact trivial):Ev R P (.seq (.region id ops false) y) s Q:=
 tF (ca E h hp j)
theorem tT {id:Nat}{ops:Array Oper}{a:uM}(j:Q .normal a.s) (h:tP T Γ ops.toList ops.toList (some ⟨s,[],[]⟩)=some a:=by simp only[go_sem];rfl) (hp:uU a.side:=by exact trivial):Ev R P (.region id ops false) s Q:=
 ca E h hp j
theorem W3 {id:Nat}{ops:Array Oper}{a:uM}(j:Q .normal a.s) (h:tP T Γ ops.toList ops.toList (some ⟨s,[],[]⟩)=some a:=by simp only[go_sem];rfl) (hp:uU a.side:=by exact trivial) (hf:J6 ops s.nb a.es.reverse=true:=by kernel_rfl):Ev R P (.region id ops true) s Q:=
 qv E h hf hp j
end
theorem uS {P:Program}{s:St}{Q:Ex->St->Prop}{c:Operand}{x y:Code}{b b':Bool}{k:pW}{ρ:Type}{X Y r:ρ}(j:(if b'=true then X else Y)=r) (z:X=r->b=true->Ev R P x s Q) (hf:Y=r->b=false->Ev R P y s Q)
  (h:tC s.env c=(.val .bool b,k):=by simp only[go_sem];rfl) (hb:b=b':=by first|rfl|simp):Ev R P (.cond c x y) s Q:=
 Hk h (λe=>z (Hs j (hb▸e)) e) (λe=>hf (Ht j (hb▸e)) e)
theorem xR {σ ρ:Type}[Inhabited σ] {x:Option σ}{k:σ->Option ρ}{r:ρ}(h:x.bind k=some r): ∃y,x=some y/\val x=y/\k y=some r:=by
 obtain⟨y,j,z⟩:=qI h;exact⟨y,j,JG j,z⟩
attribute [go_sem] true_and and_true false_and and_false Nat.reduceMul List.nil_append List.cons_append List.append_nil List.toList_toArray Nat.reduceEqDiff reduceIte reduceDIte reduceCtorEq Nat.reduceAdd Nat.reduceSub Int.reduceToNat Nat.reduceLT Nat.reduceLeDiff decide_true decide_false Bool.and_self Bool.or_self Bool.or_false Bool.false_or Bool.and_true Bool.true_and Bool.not_true Bool.not_false
end Go.Proofs.YtedimeeleabhnaaGreatDoor.Vc
namespace Go.Proofs
open Go.RowKit Go.Lib
open Tryz
def Tryz.lays137_ren:Go.Shelf.Ren:=⟨fun|137=>132|217=>180|266=>242|n=>n,fun|9=>9|5=>5|3=>3|n=>n,fun|n=>n⟩
theorem Tryz.lays137:Go.Proofs.Lays.n137 prog Tryz.lays137_ren:={
 mixed:=by kernel_rfl
 f137:=Tryz.func132.trans (aNz some qA)
 f217:=Tryz.func180.trans (aNz some qA)
 f266:=Tryz.func242.trans (aNz some qA)
 t3:=Tryz.underlying3
 a3:=Tryz.isAgg3
 z3:=Tryz.sizeOf3
 v3:=Tryz.zeroValue3
 t5:=Tryz.underlying5
 a5:=Tryz.isAgg5
 z5:=Tryz.sizeOf5
 v5:=Tryz.zeroValue5
 t9:=Tryz.underlying9
 a9:=Tryz.isAgg9
 z9:=Tryz.sizeOf9
 v9:=Tryz.zeroValue9}
def Tryz.lays196_ren:Go.Shelf.Ren:=⟨fun|196=>177|259=>240|n=>n,fun|0=>0|3=>3|4=>4|5=>5|9=>9|12=>12|46=>250|53=>270|119=>246|138=>248|139=>249|n=>n,fun|3=>0|4=>1|n=>n⟩
theorem Tryz.lays196:Go.Proofs.Lays.n196 prog Tryz.lays196_ren:={
 mixed:=by kernel_rfl
 f196:=Tryz.func177.trans (aNz some qA)
 f259:=Tryz.func240.trans (aNz some qA)
 t0:=Tryz.underlying0
 a0:=Tryz.isAgg0
 z0:=Tryz.sizeOf0
 v0:=Tryz.zeroValue0
 t3:=Tryz.underlying3
 a3:=Tryz.isAgg3
 z3:=Tryz.sizeOf3
 v3:=Tryz.zeroValue3
 t4:=Tryz.underlying4
 a4:=Tryz.isAgg4
 z4:=Tryz.sizeOf4
 v4:=Tryz.zeroValue4
 t5:=Tryz.underlying5
 a5:=Tryz.isAgg5
 z5:=Tryz.sizeOf5
 v5:=Tryz.zeroValue5
 t9:=Tryz.underlying9
 a9:=Tryz.isAgg9
 z9:=Tryz.sizeOf9
 v9:=Tryz.zeroValue9
 t12:=Tryz.underlying12
 a12:=Tryz.isAgg12
 z12:=Tryz.sizeOf12
 v12:=Tryz.zeroValue12
 t46:=Tryz.underlying250
 a46:=Tryz.isAgg250
 z46:=Tryz.sizeOf250
 v46:=Tryz.zeroValue250
 t53:=Tryz.underlying270
 a53:=Tryz.isAgg270
 z53:=Tryz.sizeOf270
 v53:=Tryz.zeroValue270
 t119:=Tryz.underlying246
 a119:=Tryz.isAgg246
 z119:=Tryz.sizeOf246
 t138:=Tryz.underlying248
 a138:=Tryz.isAgg248
 z138:=Tryz.sizeOf248
 v138:=Tryz.zeroValue248
 t139:=Tryz.underlying249
 a139:=Tryz.isAgg249
 z139:=Tryz.sizeOf249
 v139:=Tryz.zeroValue249
 g3:=by kernel_rfl
 g4:=by kernel_rfl}
def Tryz.lays240_ren:Go.Shelf.Ren:=⟨fun|240=>129|276=>178|n=>n,fun|0=>0|4=>4|9=>9|20=>20|70=>110|72=>113|164=>202|37=>111|n=>n,fun|n=>n⟩
theorem Tryz.lays240:Go.Proofs.Lays.n240 prog Tryz.lays240_ren:={
 mixed:=by kernel_rfl
 f240:=Tryz.func129.trans (aNz some qA)
 f276:=Tryz.func178.trans (aNz some qA)
 t0:=Tryz.underlying0
 a0:=Tryz.isAgg0
 z0:=Tryz.sizeOf0
 v0:=Tryz.zeroValue0
 t4:=Tryz.underlying4
 a4:=Tryz.isAgg4
 z4:=Tryz.sizeOf4
 v4:=Tryz.zeroValue4
 t9:=Tryz.underlying9
 a9:=Tryz.isAgg9
 z9:=Tryz.sizeOf9
 v9:=Tryz.zeroValue9
 t20:=Tryz.underlying20
 a20:=Tryz.isAgg20
 z20:=Tryz.sizeOf20
 v20:=Tryz.zeroValue20
 t70:=Tryz.underlying110
 a70:=Tryz.isAgg110
 z70:=Tryz.sizeOf110
 v70:=Tryz.zeroValue110
 t72:=Tryz.underlying113
 a72:=Tryz.isAgg113
 z72:=Tryz.sizeOf113
 v72:=Tryz.zeroValue113
 t164:=Tryz.underlying202
 a164:=Tryz.isAgg202
 z164:=Tryz.sizeOf202
 v164:=Tryz.zeroValue202}
theorem Tryz.builderX72:Builder.X72 prog Tryz.lays240_ren:={
 sizeBuilder:=by kernel_rfl
 liesBuilder:=by kernel_rfl}
def Tryz.lays169_ren:Go.Shelf.Ren:=⟨fun|169=>95|n=>n,fun|70=>110|9=>9|0=>0|72=>113|37=>111|127=>153|3=>3|5=>5|n=>n,fun|n=>n⟩
theorem Tryz.lays169:Go.Proofs.Lays.n169 prog Tryz.lays169_ren:={
 mixed:=by kernel_rfl
 f169:=Tryz.func95.trans (aNz some qA)
 t0:=Tryz.underlying0
 a0:=Tryz.isAgg0
 z0:=Tryz.sizeOf0
 v0:=Tryz.zeroValue0
 t3:=Tryz.underlying3
 a3:=Tryz.isAgg3
 z3:=Tryz.sizeOf3
 v3:=Tryz.zeroValue3
 t9:=Tryz.underlying9
 a9:=Tryz.isAgg9
 z9:=Tryz.sizeOf9
 v9:=Tryz.zeroValue9
 t37:=Tryz.underlying111
 a37:=Tryz.isAgg111
 z37:=Tryz.sizeOf111
 v37:=Tryz.zeroValue111
 t70:=Tryz.underlying110
 a70:=Tryz.isAgg110
 z70:=Tryz.sizeOf110
 v70:=Tryz.zeroValue110
 t72:=Tryz.underlying113
 a72:=Tryz.isAgg113
 z72:=Tryz.sizeOf113
 v72:=Tryz.zeroValue113
 t127:=Tryz.underlying153
 a127:=Tryz.isAgg153
 z127:=Tryz.sizeOf153
 v127:=Tryz.zeroValue153}
theorem Tryz.builderExtra:Builder.Extra prog Tryz.lays169_ren:={
 sizeBuilder:=by kernel_rfl
 liesBuilder:=by kernel_rfl
 t5:=Tryz.underlying5
 a5:=Tryz.isAgg5
 z5:=Tryz.sizeOf5
 v5:=Tryz.zeroValue5
 infoByte:=by kernel_rfl
 cellsByte:=by kernel_rfl
 sizeByte:=by kernel_rfl
 neB5:=by decide}
end Go.Proofs
namespace Go.Proofs.YtedimeeleabhnaaGreatDoor
open Vc Go.RowKit
open Tryz
theorem a8f {g:Gh}{w w':pY}(hH:sL g w (sZ 0 [])) (hb:Below w.heap.size w w'):sL g w' (sZ 0 []):=
 ⟨λ_ _ h=>aPo,λ_ _ _ _ _ _ _ h=>aPo,λb o h=>aNI (hH.sl b o h) hb.size,⟨UP hH.tab.1 hb.size λb h=>hb.block b (aNI h hH.tab.1.1),λ_ _ _ _ h=>aPo⟩⟩
theorem F1 {P:Program}{f:FuncId}{C:List qK->List qP->Option r8}(hen: ∀args w,(callFunc f args).run P w= .ok (.enter f args) w)
  (h: ∀(g:Gh) (w:pY) (args:List qK) (vals:pU) (L:List qP) (r:r8),IT w->wR g w args vals->C args L=some r->(∀p∈r.side,p)->
   L=[]/\r.H=[]/\Calls P f vals.toArray w (λe w'=> ∃v,e= .returned v/\Below w.heap.size w w'/\VM g w' r.ret v)):yV P f C:=by
 refine⟨hen,λg w args vals L r hH ha hC hs=>?_⟩;obtain⟨rfl,hr,hc⟩:=h g w args vals L r hH.tab.1 ha hC hs;refine hc.mono λe w' ⟨v,he,hb,hv⟩=>⟨v,g,he,⟨λb o h=>⟨h,hb.cell (p:=⟨b,o,none⟩) (hH.sl b o h)⟩,by rw[hr];exact a8f hH hb,hv,⟨hb.os,hb.tape,hb.output,hb.size,λb h _=>hb.block b h,λb o h _=>⟨hb.cell (p:=⟨b,o,none⟩) h,hb.frozen (p:=⟨b,o,none⟩) h⟩,λb o h=> .inl h,λb s h=> .inl ((EV (hb.block b (EU h))).trans h)⟩,(λi blk b o h=>by rw[hr] at h;cases h),(λi t x ts h=>by cases h),(λi t x ts u y us h=>by cases h),(λ_ _ _ h=>h),(λ_ _ _ _ h=>h)⟩⟩
theorem cb {P:Program}{f:FuncId}{vals:Array pZ}{w:pY}{Q:Ending->Prop}(h:Calls P f vals w λe w'=>Q e/\w'=w):Calls P f vals w λe w'=>Q e/\Below w.heap.size w w':=
 h.mono λe w' ⟨h1,h2⟩=>⟨h1,by rw[h2];exact Below.refl _ _⟩
def AF (s:pI) (c:Int):Int:=Lib.indexByte s (Int.toNat c).toUInt8
@[go_sem] def qz:List qK->List qP->Option r8
 |[(.val .str O,none),(.val (.int .u8) a8,none)],[]=>some ⟨[],[(.val (.int .i64) (AF O a8),none)],[]⟩
 |_,_=>none
theorem a8g:yV prog 132 qz:=by
 refine F1 (λ_ _=>rfl) λg w args vals L r hT ha hC hs=>?_;unfold qz at hC;split at hC
 .rename_i s c;cases hC;obtain⟨va,_,rfl,ra,vb,_,rfl,rb,hv⟩:=ha;obtain rfl:=xO ra.1;obtain rfl:=vF rb.1;cases hv;exact⟨rfl,rfl,(cb (Any.strings_IndexByte Tryz.lays137 ⟨List.toArray s⟩ c w)).mono λe w' ⟨he,hb⟩=>⟨_,he,hb,wO _ _ _ _,trivial⟩⟩
 cases hC
@[go_sem] def rc:List qK->List qP->Option r8
 |[(.val .str O,none)],[]=>some ⟨[List.length O<=9223372036854775807],[(.val .bool (Lib.validD O),none)],[]⟩
 |_,_=>none
theorem a8h:yV prog 177 rc:=by
 refine F1 (λ_ _=>rfl) λg w args vals L r hT ha hC hs=>?_;unfold rc at hC;split at hC
 .rename_i s;cases hC;have h1:=hs _ aNq;obtain⟨va,_,rfl,ra,hv⟩:=ha;obtain rfl:=xO ra.1;cases hv;exact⟨rfl,rfl,(Any.utf8_ValidString Tryz.lays196 ⟨List.toArray s⟩ w h1 hT.2.1).mono λe w' ⟨he,hb⟩=>⟨_,he,hb,w5 _ _ _,trivial⟩⟩
 cases hC
def FU (s c:pI):Int:=Lib.index s c
@[go_sem] def rf:List qK->List qP->Option r8
 |[(.val .ref (some (0,0)),none)],[.cells (.pair .mref (.pair (.list (.int .u8)) .unit)) ((some (0,0)),O) [(1,1)],.grow a8 1 aA]=>some ⟨[aA=List.length O.1],[],[.cells (.pair .mref (.pair (.list (.int .u8)) .unit)) ((some (0,0)),O) [(1,1)],.grow a8 1 aA]⟩
 |_,_=>none
def a8i {g:Gh}{w:pY}{L:List qP}{e:r9}{w':pY}{u v:pZ}{r:r8}(hE:sC g w (sZ 0 L) e g w' u)
  (hH: ∀i,qT (sZ 0 r.H) i=qT (rJ e.upd (sZ 0 L)) i) (hin: ∀i,i∈qV e.upd->i<L.length) (hlen:r.H.length=L.length)
  (hp: ∀i blk b o,r.H[i]? =some blk->sB g i blk b o->w.heap.size<=b\/wQ g (sZ 0 L) b o)
  (hty: ∀(i:Nat) t x ts u y us,L[i]? =some (.cells t x ts)->r.H[i]? =some (.cells u y us)->u=t)
  (hret:VM g w' r.ret v):M3 g w L r g w' v:=
 ⟨λb o h=>⟨h,hE.le.cell b o h⟩,hE.heap.ext hH,hret,hE.fr.mono λb o ⟨i,blk,_,h1,h2⟩=>⟨i,blk,h1,h2⟩,hp,λ_ _ _ _ _=>rfl,hty,λ_ _ _ h=>h,λ_ _ _ _ h=>h⟩
def a8j {P:Program}{ρ:Go.Shelf.Ren}(L:Lays.n240 P ρ) (X:Builder.X72 P ρ) {e:TypeId}(b:Nat) (w:pY) (h0:w.cell? ⟨b,0,none⟩=some (.pointer none)) (hsh:w.shape? b=some (e,2)) (hl:liesAt P P.depth e (2/P.cellsOf e) 0 (ρ.t 72) 1=true) (hfz:w.frozen? ⟨b,0,none⟩=false):
  Calls P (ρ.f 240) #[.pointer (some ⟨b,0,none⟩)] w λen w'=>en= .returned (.tuple #[])/\w'=w.setCell ⟨b,0,none⟩ (.pointer (some ⟨b,0,none⟩)):=by
 obtain⟨j,hj,hjs⟩:=aNh.1 X.sizeBuilder;have mixed:=L.mixed;have t72:=L.t72;have a72:=L.a72;have z72:=L.z72;have v72:=L.v72;have u72:=aNs L.t72;have t70:=L.t70;have a70:=L.a70;have z70:=L.z70;have v70:=L.v70;have u70:=aNs L.t70;have t9:=L.t9;have a9:=L.a9;have z9:=L.z9;have v9:=L.v9;have u9:=aNs L.t9;have t4:=L.t4;have a4:=L.a4;have z4:=L.z4;have v4:=L.v4;have u4:=aNs L.t4;have t164:=L.t164;have a164:=L.a164;have z164:=L.z164;have v164:=L.v164;have u164:=aNs L.t164
 go_enter L.f240,Body.n240_ntmps ρ
 go_wp2
 rw[Lib.run_to_unsafe w ⟨b,0,none⟩ L.t70 L.t164 hj (by rw[hjs];decide) hsh (Nat.zero_lt_succ 1)];simp only[Result.andThen];rw[Oper.upon_value]
 go_wp2
 rw[run_callFunc_extern L.f276 qA qA qA (e:=Extern.AbiNoEscape.same) qA];rw[Lib.run_noEscape];simp only[Result.andThen];rw[Oper.upon_value]
 go_wp2
 rw[Lib.run_from_unsafe w ⟨b,0,none⟩ L.t164 L.t70 hj hsh hl];simp only[Result.andThen];rw[Oper.upon_value]
 go_wp2
 go_end0
 exact⟨rfl,rfl⟩
def a8k:yV prog 129 rf:=by
 refine⟨λ_ _=>rfl,λg w args vals L r hH ha hC hs=>?_⟩;unfold rf at hC;split at hC
 .rename_i O a8 aA;cases hC;obtain⟨va,_,rfl,ra,hv⟩:=ha;cases hv;have hg0:qT (sZ 0 [qP.cells (.pair .mref (.pair (.list (.int .u8)) .unit)) ((some (0,0)),O) [(1,1)],.grow a8 1 aA]) 0=some (.cells (.pair .mref (.pair (.list (.int .u8)) .unit)) ((some (0,0)),O) [(1,1)]):=rfl;obtain⟨p,cs,hJ,hR,hra,hth,hns,htk⟩:=hH.blk 0 _ hg0;obtain⟨c1,c2,rfl,hR1,hR2⟩:=hR;obtain⟨p',hJ',⟨hp0,eb,heb,hk3⟩,hc1⟩:=hR1;rw[hJ] at hJ';obtain rfl:=aNa hJ';obtain⟨b,o,k⟩:=p;have ho:o=0:=by simpa using hp0
  subst ho;have hlies:liesAt prog Tryz.prog.depth eb (2/Tryz.prog.cellsOf eb) 0 113 1=true:=by
   unfold ju at heb;split at heb
   .rename_i h;subst h;kernel_rfl
   split at heb
   .rename_i h;subst h;kernel_rfl
   cases heb
  have hva:va= .pointer (some ⟨b,0,none⟩):=by
   obtain⟨q,hq,e⟩:=zB ra.1;rw[hJ] at hq;cases hq;exact e
  subst hva;have hsh:w.shape? b=some (eb,2):=hth.2 pN _ hk3;rcases hc1 with rfl|rfl
  .have h0:w.cell? ⟨b,0,none⟩=some (.pointer none)/\w.frozen? ⟨b,0,none⟩=false:=⟨hra 0 _ rfl,(hth.1 0 pN).2⟩;refine(a8j Tryz.lays240 Tryz.builderX72 b w h0.1 hsh hlies h0.2).mono ?_;rintro en w' ⟨rfl,rfl⟩;refine⟨_,g,rfl,?_⟩;have hE:=sC.store (side:=[]) (rds:=[]) hH (i:=0) (t:= .mref) (y:=some (0,0)) (off:=0) (k:=none) (p:=⟨b,0,k⟩) (cy:=[.pointer (some ⟨b,0,none⟩)]) (v:= .pointer (some ⟨b,0,none⟩)) hg0 hJ (z:=((some (0,0)),O)) qB ⟨_,hJ,⟨rfl,_,heb,hk3⟩,.inr rfl⟩ trivial (λ_ _ h=>by cases h) (λ_=>rfl);refine a8i hE.1 ?_ ?_ rfl ?_ ?_ ?_
   .intro i
    match i with
    |0=>rfl
    |1=>rfl
    |i+2=>rfl
   .intro i hi;simp [qV] at hi;subst hi;exact Nat.zero_lt_succ _
   .intro i blk b o hi ho;exact .inr ⟨i,blk,by rw[aj];simpa using hi,ho⟩
   .intro i t x ts u y us h1 h2;rw[h1] at h2;cases h2;rfl
   exact⟨[],rfl,rfl⟩
  have h0:w.cell? ⟨b,0,none⟩=some (.pointer (some ⟨b,0,none⟩)):=hra 0 _ rfl;refine(Any.Builder_copyCheck_used Tryz.lays240 Tryz.builderX72 b w h0).mono ?_;rintro en w' ⟨rfl,rfl⟩;refine⟨_,g,rfl,⟨λb o h=>⟨h,rfl⟩,hH,⟨[],rfl,rfl⟩,Fr.refl _ _ _,?_,λ_ _ _ _ _=>rfl,?_,λ_ _ _ h=>h,λ_ _ _ _ h=>h⟩⟩
  .intro i blk b o hi ho;exact .inr ⟨i,blk,by rw[aj];simpa using hi,ho⟩
  intro i t x ts u y us h1 h2;rw[h1] at h2;cases h2;rfl
 cases hC
def Ia {P:Program}(w:pY): ∀(l:pT) (a:Addr) (acc:ByteArray),(∀j x,l[j]? =some x->w.cell? (a.add j)=some (.int .u8 x))->
  (loadBytes a acc l.length).run P w= .ok ⟨acc.data++(tQ l).toArray⟩ w
 |[],a,acc,_=>by simp [loadBytes,tQ]
 |x::l,a,acc,h=>by
  have h0:w.cell? a=some (.int .u8 x):=by
   have:=h 0 x rfl;simpa[Addr.add] using this
  have ih:=Ia (P:=P) w l (a.add 1) (acc.push (UInt8.ofNat x.toNat)) (λj y hy=>by
   have:=h (j+1) y (by simpa using hy);have e:(a.add 1).add j=a.add (j+1):=by
    unfold Addr.add;by_cases hj:j=0
    .subst hj;simp
    simp [hj];omega
   rw[e];exact this)
  have hx:x.toNat.toUInt8=UInt8.ofNat x.toNat:=rfl;simp only[aM5,loadBytes,aNi,run_load,h0,Result.andThen,hx];rw[ih];congr 1;apply ByteArray.ext;simp [ByteArray.push,tQ]
def a8l {P:Program}(w:pY) (pt it ty e:TypeId) (hp:P.underlying pt=some (.pointer e)) (hc:P.cellsOf e=1) (g cells:Nat) (hsh:w.shape? g=some (e,cells)) (l:pT) (h0:l≠[]) (hn:l.length<=cells) (h63:l.length<=9223372036854775807)
  (hcell: ∀j x,l[j]? =some x->w.cell? ((⟨g,0,none⟩:Addr).add j)=some (.int .u8 x)):
  (Builtin.unsafeString_ #[pt,it] ty #[.pointer (some ⟨g,0,none⟩),.int .i64 l.length]).run P w= .ok (.string ⟨(tQ l).toArray⟩) (w.freeze ⟨g,0,none⟩ l.length):=by
 have hl:l.length≠0:=by simpa using h0
 have hlb:=Ia (P:=P) w l ⟨g,0,none⟩ .empty hcell;have hlies:=Lib.liesAt_bytes (P:=P) hc (cells/P.cellsOf e) l.length (by rw[hc];simpa using hn);have h63': ¬(9223372036854775807:Int)<(l.length:Int):=by omega
 have hdef:Builtin.unsafeString_ #[pt,it] ty #[.pointer (some ⟨g,0,none⟩),.int .i64 l.length]=
   (do
    let n<-asInt (.int .i64 l.length)
    if n<0 then runtimePanic (.error "unsafe.String: len out of range")
    if n>IntKind.i64.max then unsupported (.unsafePointer "String: a length above the largest int")
    if n=0 then pure (.string .empty)
    else if<-variablesAt ⟨g,0,none⟩ (<-elemOf pt) n.toNat then do
     let s<-loadBytes ⟨g,0,none⟩ .empty n.toNat
     freeze ⟨g,0,none⟩ n.toNat
     pure (.string s)
    else unsupported (.unsafePointer "String: not so many bytes at ptr")):=rfl
 rw[hdef];have hmax:IntKind.i64.max=9223372036854775807:=rfl;have hneg: ¬(l.length:Int)<0:=by omega
 simp [asInt,asIntOf,hmax,h63',hneg,hl,variablesAt,hsh,elemOf,aNs hp,hlies,hlb]
def rh {P:Program}{ρ:Go.Shelf.Ren}(L:Lays.n169 P ρ) (X:Builder.Extra P ρ) (b n cap:Nat) (a q:Option Addr) (s:ByteArray) (w w2:pY)
  (c1:w.drew.cell? ⟨b,1,none⟩=some (.slice a n cap)) (hSD:(Builtin.unsafeSliceData_ #[(ρ.t 37)] (ρ.t 127) #[.slice a n cap]).run P w.drew= .ok (.pointer q) w.drew)
  (hUS:(Builtin.unsafeString_ #[(ρ.t 127),(ρ.t 3)] (ρ.t 9) #[.pointer q,.int .i64 n]).run P w.drew= .ok (.string s) w2):
  Calls P (ρ.f 169) #[.pointer (some ⟨b,0,none⟩)] w λe w'=>e= .returned (.string s)/\w'=w2:=by
 have mixed:=L.mixed;have t72:=L.t72;have a72:=L.a72;have z72:=L.z72;have v72:=L.v72;have u72:=aNs L.t72;have t70:=L.t70;have a70:=L.a70;have z70:=L.z70;have v70:=L.v70;have u70:=aNs L.t70;have t37:=L.t37;have a37:=L.a37;have z37:=L.z37;have v37:=L.v37;have u37:=aNs L.t37;have t127:=L.t127;have a127:=L.a127;have z127:=L.z127;have v127:=L.v127;have u127:=aNs L.t127;have t3:=L.t3;have a3:=L.a3;have z3:=L.z3;have v3:=L.v3;have u3:=aNs L.t3;have t9:=L.t9;have a9:=L.a9;have z9:=L.z9;have v9:=L.v9;have u9:=aNs L.t9;have t5:=X.t5;have a5:=X.a5;have z5:=X.z5;have v5:=X.v5;have u5:=aNs X.t5
 go_enter L.f169,Body.n169_ntmps ρ
 go_wp2
 go_region_o
 all_goals (go_wp2;go_ret;exact⟨rfl,rfl⟩)
def a8m {P:Program}{ρ:Go.Shelf.Ren}(L:Lays.n169 P ρ) (X:Builder.Extra P ρ) (b g:Nat) (cur:Array pZ) (w:pY) (hlt:b<w.heap.size)
  (c1:w.drew.cell? ⟨b,1,none⟩=some (.slice (some ⟨g,0,none⟩) 0 0)) (hg:w.drew.heap[g]? =some (.cells cur (ρ.t 5) (0,0))):
  Calls P (ρ.f 169) #[.pointer (some ⟨b,0,none⟩)] w λe w'=>e= .returned (.string ⟨#[]⟩)/\w'=w.drew.alloc (.view ⟨g,0,none⟩ (ρ.t 5)):=by
 have hUS:=Any.unsafeString_none L X;have hSD:(Builtin.unsafeSliceData_ #[(ρ.t 37)] (ρ.t 127) #[.slice (some ⟨g,0,none⟩) 0 0]).run P w.drew= .ok (.pointer (some ⟨w.drew.heap.size,0,none⟩)) (w.drew.alloc (.view ⟨g,0,none⟩ (ρ.t 5))):=
  Lib.run_unsafeSliceData_zero w.drew _ _ (ρ.t 5) L.t127 ⟨g,0,none⟩ 0 ((ρ.t 5),cur.size) (by simp [World.shape?,hg])
 have c2:(w.drew.alloc (.view ⟨g,0,none⟩ (ρ.t 5))).cell? ⟨b,1,none⟩=some (.slice (some ⟨g,0,none⟩) 0 0):=
  (aNx (a:=⟨b,1,none⟩) (Lib.alloc_old w.drew _ b hlt)).trans c1
 have c3:(w.alloc (.view ⟨g,0,none⟩ (ρ.t 5))).drew.cell? ⟨b,1,none⟩=some (.slice (some ⟨g,0,none⟩) 0 0):=c2;have c0:w.cell? ⟨b,1,none⟩=some (.slice (some ⟨g,0,none⟩) 0 0):=c1;have mixed:=L.mixed;have t72:=L.t72;have a72:=L.a72;have z72:=L.z72;have v72:=L.v72;have u72:=aNs L.t72;have t70:=L.t70;have a70:=L.a70;have z70:=L.z70;have v70:=L.v70;have u70:=aNs L.t70;have t37:=L.t37;have a37:=L.a37;have z37:=L.z37;have v37:=L.v37;have u37:=aNs L.t37;have t127:=L.t127;have a127:=L.a127;have z127:=L.z127;have v127:=L.v127;have u127:=aNs L.t127;have t3:=L.t3;have a3:=L.a3;have z3:=L.z3;have v3:=L.v3;have u3:=aNs L.t3;have t9:=L.t9;have a9:=L.a9;have z9:=L.z9;have v9:=L.v9;have u9:=aNs L.t9;have t5:=X.t5;have a5:=X.a5;have z5:=X.z5;have v5:=X.v5;have u5:=aNs X.t5
 go_enter L.f169,Body.n169_ntmps ρ
 go_wp2
 go_region_o
 all_goals (go_wp2;go_ret;exact⟨rfl,rfl⟩)
@[go_sem] def ri:List qK->List qP->Option r8
 |[(.val .ref (some (0,0)),none)],[.cells (.pair .mref (.pair (.list (.int .u8)) .unit)) ((some (0,0)),O) [(1,1)],.grow 5 1 a8]=>some ⟨[a8=List.length O.1],[(.val .str (tQ O.1),none)],[.cells (.pair .mref (.pair (.list (.int .u8)) .unit)) ((some (0,0)),O) [],.dead]⟩
 |_,_=>none
def rj {g:Gh}{w w':pY}{m:pV}{b:(Ty.pair (.list (.int .u8)) .unit).den}{e n:Nat}{s:pI}{sd:List Prop}(hH:sL g w (sZ 0 [qP.cells (.pair .mref (.pair (.list (.int .u8)) .unit)) (m,b) [(1,1)],.grow e 1 n]))
  (hos:w'.os=w.os) (htape:w'.tape=w.tape) (hout:w'.output=w.output) (hsz:w.heap.size<=w'.heap.size)
  (hcell: ∀b o,b<w.heap.size->w'.cell? ⟨b,o,none⟩=w.cell? ⟨b,o,none⟩) (hshape: ∀b s,w.shape? b=some s->w'.shape? b=some s)
  (hblk: ∀b,b<w.heap.size->(∀o,¬sB g 1 (.grow e 1 n) b o)->w'.heap[b]? =w.heap[b]?):
  M3 g w [qP.cells (.pair .mref (.pair (.list (.int .u8)) .unit)) (m,b) [(1,1)],.grow e 1 n] ⟨sd,[(.val .str s,none)],[.cells (.pair .mref (.pair (.list (.int .u8)) .unit)) (m,b) [],.dead]⟩ g w' (.string ⟨s.toArray⟩):=by
 have hg0:qT (sZ 0 [qP.cells (.pair .mref (.pair (.list (.int .u8)) .unit)) (m,b) [(1,1)],.grow e 1 n]) 0=some (.cells (.pair .mref (.pair (.list (.int .u8)) .unit)) (m,b) [(1,1)]):=rfl;have hg1:qT (sZ 0 [qP.cells (.pair .mref (.pair (.list (.int .u8)) .unit)) (m,b) [(1,1)],.grow e 1 n]) 1=some (.grow e 1 n):=rfl;have hle:Le g w g w':=⟨λ_ _ h=>h,λb o h=>hcell b o (hH.sl b o h),λ_ _ h=>h,λ_ _ _ h=>h⟩;have hno: ∀c o,sB g 0 (.cells (.pair .mref (.pair (.list (.int .u8)) .unit)) (m,b) [(1,1)]) c o->∀o',¬sB g 1 (.grow e 1 n) c o':=λc o h o' h'=>by
  obtain⟨v,hv,hb⟩:=h';exact hH.dis 0 1 _ _ c o pN hg0 hg1 h ⟨v,hv,hb⟩
 obtain⟨p,cs,hJ,hR,hra,hth,hns,htk⟩:=hH.blk 0 _ hg0;have hown0: ∀j,j<2->sB g 0 (.cells (.pair .mref (.pair (.list (.int .u8)) .unit)) (m,b) [(1,1)]) p.1 (p.2+j):=λj hj=>⟨p,hJ,rfl,Nat.le_add_right _ _,Nat.add_lt_add_left hj _⟩;have hpl:p.1<w.heap.size:=VE (hH.blk 0 _ hg0) (hown0 0 pN);have hpb:w'.heap[p.1]? =w.heap[p.1]? :=hblk p.1 hpl (hno p.1 _ (hown0 0 pN));have hbk0:A9 g w' 0 (.cells (.pair .mref (.pair (.list (.int .u8)) .unit)) (m,b) []):=
  ⟨p,cs,hJ,xE hle hR,λj v hj=>(hcell _ _ hpl).trans (hra j v hj),⟨λj hj=>by
   have h1:=hth.1 j hj;rw[hcell _ _ hpl];exact⟨h1.1,(aNZ (a:=⟨p.1,p.2+j,none⟩) hpb).trans h1.2⟩,λh s hs=>hshape _ _ (hth.2 h s hs)⟩,hns,λ_ _ h=>by cases h⟩
 refine⟨λb o h=>⟨h,hcell b o (hH.sl b o h)⟩,?_,(show rY g w' (.val .str s,none) (.string ⟨s.toArray⟩) from⟨BR _ _ _,trivial⟩),⟨hos,htape,hout,hsz,?_,?_,λ_ _ h=> .inl h,λb s h=> .inl (hshape b s h)⟩,?_,λ_ _ _ _ _=>rfl,?_,λ_ _ _ h=>h,λ_ _ _ _ h=>h⟩
 .refine⟨λi blk h=>?_,λi j bi bj c o hij hi hj hoi hoj=>?_,λb o h=>aNI (hH.sl b o h) hsz,UP hH.tab.1 hsz (λc hc=>hblk c (aNI hc hH.tab.1.1) λo ho=>absurd (hH.tab.2 1 _ c o hg1 ho) pM),λi blk c o h ho=>?_⟩
  .match i,h with
   |0,h=>cases h;exact hbk0
   |1,h=>cases h;trivial
   |i+2,h=>simp [sZ,qT] at h
  .match i,j,hi,hj with
   |0,0,_,_=>exact hij rfl
   |0,1,_,hj=>cases hj;exact hoj
   |1,_,hi,_=>cases hi;exact hoi
   |0,j+2,_,hj=>simp [sZ,qT] at hj
   |i+2,_,hi,_=>simp [sZ,qT] at hi
  match i,h with
  |0,h=>cases h;exact hH.tab.2 0 _ c o hg0 ho
  |1,h=>cases h;exact ho.elim
  |i+2,h=>simp [sZ,qT] at h
 .intro c hc hn;exact hblk c hc λo ho=>hn o ⟨1,_,hg1,ho⟩
 .intro c o hc hn;exact⟨hcell c o hc,aNZ (a:=⟨c,o,none⟩) (hblk c hc λo' ho=>hn ⟨1,_,hg1,by obtain⟨v,hv,hb⟩:=ho;exact⟨v,hv,hb⟩⟩)⟩
 .intro i blk c o hi ho
  match i,hi with
  |0,hi=>cases hi;exact .inr ⟨0,_,hg0,ho⟩
  |1,hi=>cases hi;exact ho.elim
  |i+2,hi=>simp at hi
 intro i t x ts u y us h1 h2
 match i,h1,h2 with
 |0,h1,h2=>cases h1;cases h2;rfl
 |1,h1,_=>cases h1
 |i+2,h1,_=>simp at h1
def a8n (w:pY) (a p:Addr) (n:Nat):(w.freeze a n).cell? p=w.cell? p:=by
 unfold World.freeze;split
 .rfl
 simp only[World.cell?,aOy];by_cases h:a.block=p.block
 .rw[aM4 h];cases w.heap[p.block]? with
  |none=>rfl
  |some o=>cases o<;>rfl
 rw[aM9 h]
def a8o (w:pY) (a:Addr) (n b:Nat):(w.freeze a n).shape? b=w.shape? b:=by
 unfold World.freeze;split
 .rfl
 simp only[World.shape?,aOy];by_cases h:a.block=b
 .rw[aM4 h];cases w.heap[b]? with
  |none=>rfl
  |some o=>cases o<;>rfl
 rw[aM9 h]
def a8p (w:pY) (a:Addr) (n b:Nat) (h:b≠a.block):(w.freeze a n).heap[b]? =w.heap[b]? :=by
 unfold World.freeze;split
 .rfl
 simp only[aOy];rw[aM9 (Ne.symm h)]
def a8q (w:pY) (a:Addr) (n:Nat):(w.freeze a n).os=w.os/\(w.freeze a n).tape=w.tape/\(w.freeze a n).output=w.output/\(w.freeze a n).heap.size=w.heap.size:=by
 unfold World.freeze;split
 .exact⟨rfl,rfl,rfl,rfl⟩
 exact⟨rfl,rfl,rfl,by simp⟩
def Ib {g:Gh}{w:pY}{b:Nat}: ∀{l:pT}{o:Nat},wA (Rd g w (.int .u8)) w g.S 1 b o l->∀j x,l[j]? =some x->w.cell? ⟨b,o+j,none⟩=some (.int .u8 x)
 |[],_,_,_,_,h=>by cases h
 |y::l,o,⟨⟨cs,_,hra,_,hR⟩,hl⟩,j,x,h=>by
  match j,h with
  |0,h=>
   cases h;have hR:cs=[.int .u8 y]:=hR;subst hR;exact hra 0 _ rfl
  |j+1,h=>
   have:=Ib hl j x aO4;rw[show o+(j+1)=o+1+j by omega];exact this
def a8r {u:Ty}{m:pV}{bv:(Ty.pair (.list (.int .u8)) .unit).den}{l:List u.den}(hget:rR (.list u) (.pair .mref (.pair (.list (.int .u8)) .unit)) (m,bv) 1=some l):l.length=bv.1.length:=by
 have h2:rR (.list u) (.list (.int .u8)) bv.1 0=some l:=hget;simp only[rR] at h2;split at h2
 .rename_i h;injection h with h
  subst h;cases h2;rfl
 cases h2
def a8s:yV prog 95 ri:=by
 refine⟨λ_ _=>rfl,λg w args vals L r hH ha hC hs=>?_⟩;unfold ri at hC;split at hC
 .rename_i bv n;cases hC;obtain rfl:n=List.length bv.1:=hs _ pO;obtain⟨va,_,rfl,ra,hv⟩:=ha;cases hv;have hg0:qT (sZ 0 [qP.cells (.pair .mref (.pair (.list (.int .u8)) .unit)) ((some (0,0)),bv) [(1,1)],.grow 5 1 (List.length bv.1)]) 0=some (.cells (.pair .mref (.pair (.list (.int .u8)) .unit)) ((some (0,0)),bv) [(1,1)]):=rfl;have hg1:qT (sZ 0 [qP.cells (.pair .mref (.pair (.list (.int .u8)) .unit)) ((some (0,0)),bv) [(1,1)],.grow 5 1 (List.length bv.1)]) 1=some (.grow 5 1 (List.length bv.1)):=rfl;obtain⟨p,cs,hJ,hR,hra,hth,hns,htk⟩:=hH.blk 0 _ hg0;obtain⟨v',xs,hv',hown,hmax,hsl⟩:=hH.blk 1 _ hg1;obtain⟨c1,c2,rfl,hR1,hR2⟩:=hR;obtain⟨d1,d2,rfl,⟨a,cap,rfl,hcap,hl⟩,hd2⟩:=hR2;obtain⟨p',hJ',⟨hp0,_,_,_⟩,hc1⟩:=hR1;rw[hJ] at hJ';obtain rfl:=aNa hJ';obtain⟨b,o,k⟩:=p;have ho:o=0:=by simpa using hp0
  subst ho;have hlen1:c1.length=1:=by rcases hc1 with rfl|rfl<;>rfl
  obtain⟨q,hq,hva⟩:=zB ra.1;rw[hJ] at hq;cases hq;subst hva;have hcell1:w.cell? ⟨b,1,none⟩=some (.slice a bv.1.length cap):=hra 1 _ (by rw[aNg pM,hlen1];rfl);obtain⟨u,l,v,hget,hcv,hcur⟩:=htk 1 1 pO;have hvv:v= .slice a bv.1.length cap:=by
   rw[aNg pM,hlen1] at hcv;exact(aNa hcv).symm
  have hll:l.length=bv.1.length:=a8r hget;rw[hll,hv',hvv] at hcur;obtain rfl:=aNa hcur;have hbl:b<w.heap.size:=md hcell1;have hdr: ∀(s:pI) (sd:List Prop),M3 g w _ ⟨sd,[(.val .str s,none)],[.cells (.pair .mref (.pair (.list (.int .u8)) .unit)) ((some (0,0)),bv) [],.dead]⟩ g w.drew (.string ⟨s.toArray⟩):=λs sd=>
   rj hH rfl rfl rfl (aNt _) (λ_ _ _=>rfl) (λ_ _ h=>h) (λ_ _ _=>rfl)
  obtain⟨hx,⟨hnil,h0⟩ |⟨gb,cap',cur,hsl',hb0,hbk,hnc,hcm,hcs,htake⟩⟩:=hown
  .have hb0:bv.1=[]:=aOf.1 h0;have hz:tQ bv.1=[]:=by rw[hb0];rfl
   have hl0:List.length bv.1=0:=h0;injection hnil with e1 e2 e3
   subst e1;subst e3;refine(rh Tryz.lays169 Tryz.builderExtra b bv.1.length 0 none none .empty w w.drew hcell1 rfl (by rw[hl0];exact Any.unsafeString_none Tryz.lays169 Tryz.builderExtra w.drew none)).mono ?_;rintro e w' ⟨rfl,rfl⟩;exact⟨_,g,rfl,by rw[hz];exact hdr [] _⟩
  injection hsl' with e1 e2 e3
  subst e1;subst e3;have hsz:bv.1.length<=cur.size:=by omega
  by_cases hb0:bv.1=[]
  .have hz:tQ bv.1=[]:=by rw[hb0];rfl
   have hl0:List.length bv.1=0:=by rw[hb0];rfl
   by_cases hc0:cap=0
   .subst hc0;rw[hl0] at hcell1;refine(a8m Tryz.lays169 Tryz.builderExtra b gb cur w hbl hcell1 hbk).mono ?_;rintro e w' ⟨rfl,rfl⟩;have hold: ∀c,c<w.heap.size->(w.drew.alloc (.view ⟨gb,0,none⟩ 5)).heap[c]? =w.heap[c]? :=λc hc=>Lib.alloc_old w.drew _ c hc;refine⟨_,g,rfl,?_⟩;rw[hz];exact rj hH rfl rfl rfl pO (λc o hc=>aNx (a:=⟨c,o,none⟩) (hold c hc)) (λc s h=>(EV (hold c (EU h))).trans h) (λc hc _=>hold c hc)
   refine(rh Tryz.lays169 Tryz.builderExtra b bv.1.length cap (some ⟨gb,0,none⟩) (some ⟨gb,0,none⟩) .empty w w.drew hcell1 (Lib.run_unsafeSliceData_row _ _ _ _ _ _ hc0) (by rw[hl0];exact Any.unsafeString_none Tryz.lays169 Tryz.builderExtra w.drew _)).mono ?_;rintro e w' ⟨rfl,rfl⟩;exact⟨_,g,rfl,by rw[hz];exact hdr [] _⟩
  have hcap0:cap≠0:=λh=>hb0 (aOf.1 pM);have hcb: ∀j x,bv.1[j]? =some x->w.cell? ⟨gb,j,none⟩=some (.int .u8 x):=by
   rcases hl with hl|⟨b',o',ha',hl⟩
   .exact absurd hl hb0
   cases ha';intro j x hj;have:=Ib hl j x hj;rwa [aNF] at this
  have hbk':w.drew.heap[gb]? =some (.cells cur 5 (0,0)):=hbk;have hshp:w.drew.shape? gb=some (5,cur.size):=by simp only[World.shape?,hbk']
  refine(rh Tryz.lays169 Tryz.builderExtra b bv.1.length cap (some ⟨gb,0,none⟩) (some ⟨gb,0,none⟩) ⟨(tQ bv.1).toArray⟩ w (w.drew.freeze ⟨gb,0,none⟩ bv.1.length) hcell1 (Lib.run_unsafeSliceData_row _ _ _ _ _ _ hcap0)
   (a8l w.drew _ _ _ 5 (Tryz.lays169).t127 (Tryz.builderExtra).cellsByte gb cur.size hshp bv.1 hb0 hsz (by unfold maxLen at hcm;omega) (λj x h=>by rw[aOg,aNF];exact hcb j x h))).mono ?_
  rintro e w' ⟨rfl,rfl⟩;refine⟨_,g,rfl,?_⟩;have hblk: ∀c,(∀o,¬sB g 1 (.grow 5 1 (List.length bv.1)) c o)->(w.drew.freeze ⟨gb,0,none⟩ bv.1.length).heap[c]? =w.heap[c]? :=λc hc=>a8p w.drew _ _ c λe=>hc 0 ⟨_,hv',by rw[e];rfl⟩;have hr:=a8q w.drew ⟨gb,0,none⟩ bv.1.length;refine rj hH hr.1 hr.2.1 hr.2.2.1 (aOv hr.2.2.2.symm) (λc o _=>a8n w.drew _ _ _) (λc s h=>(a8o w.drew _ _ c).trans h) (λc _ hc=>hblk c hc)
 cases hC
end Go.Proofs.YtedimeeleabhnaaGreatDoor
namespace Go.Proofs
open Go.RowKit Go.Lib
open Tryz
def Tryz.lays156_ren:Go.Shelf.Ren:=⟨fun|156=>59|165=>96|166=>92|169=>95|240=>129|241=>134|276=>178|277=>183|n=>n,fun|31=>22|9=>9|3=>3|4=>4|0=>0|20=>20|72=>113|76=>116|70=>110|37=>111|75=>115|127=>153|164=>202|5=>5|80=>120|n=>n,fun|n=>n⟩
theorem Tryz.lays156:Go.Proofs.Lays.n156 prog Tryz.lays156_ren:={
 mixed:=by kernel_rfl
 f156:=Tryz.func59.trans (aNz some qA)
 f165:=Tryz.func96.trans (aNz some qA)
 f166:=Tryz.func92.trans (aNz some qA)
 f169:=Tryz.func95.trans (aNz some qA)
 f240:=Tryz.func129.trans (aNz some qA)
 f241:=Tryz.func134.trans (aNz some qA)
 f276:=Tryz.func178.trans (aNz some qA)
 f277:=Tryz.func183.trans (aNz some qA)
 t0:=Tryz.underlying0
 a0:=Tryz.isAgg0
 z0:=Tryz.sizeOf0
 v0:=Tryz.zeroValue0
 t3:=Tryz.underlying3
 a3:=Tryz.isAgg3
 z3:=Tryz.sizeOf3
 v3:=Tryz.zeroValue3
 t4:=Tryz.underlying4
 a4:=Tryz.isAgg4
 z4:=Tryz.sizeOf4
 v4:=Tryz.zeroValue4
 t9:=Tryz.underlying9
 a9:=Tryz.isAgg9
 z9:=Tryz.sizeOf9
 v9:=Tryz.zeroValue9
 t20:=Tryz.underlying20
 a20:=Tryz.isAgg20
 z20:=Tryz.sizeOf20
 v20:=Tryz.zeroValue20
 t31:=Tryz.underlying22
 a31:=Tryz.isAgg22
 z31:=Tryz.sizeOf22
 v31:=Tryz.zeroValue22
 t37:=Tryz.underlying111
 a37:=Tryz.isAgg111
 z37:=Tryz.sizeOf111
 v37:=Tryz.zeroValue111
 t70:=Tryz.underlying110
 a70:=Tryz.isAgg110
 z70:=Tryz.sizeOf110
 v70:=Tryz.zeroValue110
 t72:=Tryz.underlying113
 a72:=Tryz.isAgg113
 z72:=Tryz.sizeOf113
 v72:=Tryz.zeroValue113
 t75:=Tryz.underlying115
 a75:=Tryz.isAgg115
 z75:=Tryz.sizeOf115
 v75:=Tryz.zeroValue115
 t76:=Tryz.underlying116
 a76:=Tryz.isAgg116
 z76:=Tryz.sizeOf116
 v76:=Tryz.zeroValue116
 t127:=Tryz.underlying153
 a127:=Tryz.isAgg153
 z127:=Tryz.sizeOf153
 v127:=Tryz.zeroValue153
 t164:=Tryz.underlying202
 a164:=Tryz.isAgg202
 z164:=Tryz.sizeOf202
 v164:=Tryz.zeroValue202}
theorem Tryz.builderExtraJ:Builder.Extra prog Tryz.lays156_ren:={
 sizeBuilder:=by kernel_rfl
 liesBuilder:=by kernel_rfl
 t5:=Tryz.underlying5
 a5:=Tryz.isAgg5
 z5:=Tryz.sizeOf5
 v5:=Tryz.zeroValue5
 infoByte:=by kernel_rfl
 cellsByte:=by kernel_rfl
 sizeByte:=by kernel_rfl
 neB5:=by decide}
def Tryz.lays160_ren:Go.Shelf.Ren:=⟨fun|160=>333|232=>336|231=>335|227=>337|234=>339|233=>338|236=>341|235=>340|228=>342|271=>344|151=>343|197=>302|120=>346|152=>345|260=>318|137=>132|119=>347|224=>320|225=>319|217=>180|266=>242|n=>n,fun|9=>9|4=>4|3=>3|5=>5|117=>312|116=>311|0=>0|124=>315|21=>21|105=>289|46=>250|119=>246|139=>249|138=>248|n=>n,fun|3=>0|4=>1|n=>n⟩
theorem Tryz.lays160:Go.Proofs.Lays.n160 prog Tryz.lays160_ren:={
 mixed:=by kernel_rfl
 f119:=Tryz.func347.trans (aNz some qA)
 f120:=Tryz.func346.trans (aNz some qA)
 f137:=Tryz.func132.trans (aNz some qA)
 f151:=Tryz.func343.trans (aNz some qA)
 f152:=Tryz.func345.trans (aNz some qA)
 f160:=Tryz.func333.trans (aNz some qA)
 f197:=Tryz.func302.trans (aNz some qA)
 f217:=Tryz.func180.trans (aNz some qA)
 f224:=Tryz.func320.trans (aNz some qA)
 f225:=Tryz.func319.trans (aNz some qA)
 f227:=Tryz.func337.trans (aNz some qA)
 f228:=Tryz.func342.trans (aNz some qA)
 f231:=Tryz.func335.trans (aNz some qA)
 f232:=Tryz.func336.trans (aNz some qA)
 f233:=Tryz.func338.trans (aNz some qA)
 f234:=Tryz.func339.trans (aNz some qA)
 f235:=Tryz.func340.trans (aNz some qA)
 f236:=Tryz.func341.trans (aNz some qA)
 f260:=Tryz.func318.trans (aNz some qA)
 f266:=Tryz.func242.trans (aNz some qA)
 f271:=Tryz.func344.trans (aNz some qA)
 t0:=Tryz.underlying0
 a0:=Tryz.isAgg0
 z0:=Tryz.sizeOf0
 v0:=Tryz.zeroValue0
 t3:=Tryz.underlying3
 a3:=Tryz.isAgg3
 z3:=Tryz.sizeOf3
 v3:=Tryz.zeroValue3
 t4:=Tryz.underlying4
 a4:=Tryz.isAgg4
 z4:=Tryz.sizeOf4
 v4:=Tryz.zeroValue4
 t5:=Tryz.underlying5
 a5:=Tryz.isAgg5
 z5:=Tryz.sizeOf5
 v5:=Tryz.zeroValue5
 t9:=Tryz.underlying9
 a9:=Tryz.isAgg9
 z9:=Tryz.sizeOf9
 v9:=Tryz.zeroValue9
 t21:=Tryz.underlying21
 a21:=Tryz.isAgg21
 z21:=Tryz.sizeOf21
 v21:=Tryz.zeroValue21
 t46:=Tryz.underlying250
 a46:=Tryz.isAgg250
 z46:=Tryz.sizeOf250
 v46:=Tryz.zeroValue250
 t105:=Tryz.underlying289
 a105:=Tryz.isAgg289
 z105:=Tryz.sizeOf289
 v105:=Tryz.zeroValue289
 t116:=Tryz.underlying311
 a116:=Tryz.isAgg311
 z116:=Tryz.sizeOf311
 t117:=Tryz.underlying312
 a117:=Tryz.isAgg312
 z117:=Tryz.sizeOf312
 v117:=Tryz.zeroValue312
 t119:=Tryz.underlying246
 a119:=Tryz.isAgg246
 z119:=Tryz.sizeOf246
 t124:=Tryz.underlying315
 a124:=Tryz.isAgg315
 z124:=Tryz.sizeOf315
 v124:=Tryz.zeroValue315
 t138:=Tryz.underlying248
 a138:=Tryz.isAgg248
 z138:=Tryz.sizeOf248
 v138:=Tryz.zeroValue248
 t139:=Tryz.underlying249
 a139:=Tryz.isAgg249
 z139:=Tryz.sizeOf249
 v139:=Tryz.zeroValue249
 g3:=by kernel_rfl
 g4:=by kernel_rfl}
def Tryz.lays171M_ren:Go.Shelf.Ren:=⟨fun|171=>131|243=>179|246=>241|283=>281|284=>282|285=>283|286=>284|129=>306|317=>305|318=>307|319=>308|320=>309|337=>322|338=>323|n=>n,fun|3=>3|9=>9|2=>2|4=>4|171=>271|0=>0|53=>270|37=>111|5=>5|173=>274|212=>293|51=>276|20=>20|213=>294|46=>250|232=>305|233=>306|n=>n,fun|17=>3|18=>4|19=>5|n=>n⟩
theorem Tryz.lays171M:Go.Proofs.LaysM.n171 prog Tryz.lays171M_ren:={
 mixed:=by kernel_rfl
 f129:=Tryz.func306.trans (aNz some qA)
 f171:=Tryz.func131.trans (aNz some qA)
 f243:=Tryz.func179.trans (aNz some qA)
 f246:=Tryz.func241.trans (aNz some qA)
 f283:=Tryz.func281.trans (aNz some qA)
 f284:=Tryz.func282.trans (aNz some qA)
 f285:=Tryz.func283.trans (aNz some qA)
 f286:=Tryz.func284.trans (aNz some qA)
 f317:=Tryz.func305.trans (aNz some qA)
 f318:=Tryz.func307.trans (aNz some qA)
 f319:=Tryz.func308.trans (aNz some qA)
 f320:=Tryz.func309.trans (aNz some qA)
 f337:=Tryz.func322.trans (aNz some qA)
 f338:=Tryz.func323.trans (aNz some qA)
 t0:=Tryz.underlying0
 a0:=Tryz.isAgg0
 z0:=Tryz.sizeOf0
 v0:=Tryz.zeroValue0
 t2:=Tryz.underlying2
 a2:=Tryz.isAgg2
 z2:=Tryz.sizeOf2
 v2:=Tryz.zeroValue2
 t3:=Tryz.underlying3
 a3:=Tryz.isAgg3
 z3:=Tryz.sizeOf3
 v3:=Tryz.zeroValue3
 t4:=Tryz.underlying4
 a4:=Tryz.isAgg4
 z4:=Tryz.sizeOf4
 v4:=Tryz.zeroValue4
 t5:=Tryz.underlying5
 a5:=Tryz.isAgg5
 z5:=Tryz.sizeOf5
 v5:=Tryz.zeroValue5
 t9:=Tryz.underlying9
 a9:=Tryz.isAgg9
 z9:=Tryz.sizeOf9
 v9:=Tryz.zeroValue9
 t20:=Tryz.underlying20
 a20:=Tryz.isAgg20
 z20:=Tryz.sizeOf20
 v20:=Tryz.zeroValue20
 t37:=Tryz.underlying111
 a37:=Tryz.isAgg111
 z37:=Tryz.sizeOf111
 v37:=Tryz.zeroValue111
 t46:=Tryz.underlying250
 a46:=Tryz.isAgg250
 z46:=Tryz.sizeOf250
 v46:=Tryz.zeroValue250
 t51:=Tryz.underlying276
 a51:=Tryz.isAgg276
 z51:=Tryz.sizeOf276
 v51:=Tryz.zeroValue276
 t53:=Tryz.underlying270
 a53:=Tryz.isAgg270
 z53:=Tryz.sizeOf270
 v53:=Tryz.zeroValue270
 t171:=Tryz.underlying271
 a171:=Tryz.isAgg271
 z171:=Tryz.sizeOf271
 v171:=Tryz.zeroValue271
 t173:=Tryz.underlying274
 a173:=Tryz.isAgg274
 z173:=Tryz.sizeOf274
 v173:=Tryz.zeroValue274
 t212:=Tryz.underlying293
 a212:=Tryz.isAgg293
 z212:=Tryz.sizeOf293
 v212:=Tryz.zeroValue293
 t213:=Tryz.underlying294
 a213:=Tryz.isAgg294
 z213:=Tryz.sizeOf294
 t232:=Tryz.underlying305
 a232:=Tryz.isAgg305
 z232:=Tryz.sizeOf305
 v232:=Tryz.zeroValue305
 t233:=Tryz.underlying306
 a233:=Tryz.isAgg306
 z233:=Tryz.sizeOf306
 v233:=Tryz.zeroValue306
 g17:=by kernel_rfl
 g18:=by kernel_rfl
 g19:=by kernel_rfl
 i0:=by kernel_rfl
 i2:=by kernel_rfl
 i3:=by kernel_rfl
 i4:=by kernel_rfl
 i5:=by kernel_rfl
 i9:=by kernel_rfl
 i20:=by kernel_rfl
 i37:=by kernel_rfl
 i46:=by kernel_rfl
 i51:=by kernel_rfl
 i53:=by kernel_rfl
 i171:=by kernel_rfl
 i173:=by kernel_rfl
 i212:=by kernel_rfl
 i232:=by kernel_rfl
 i233:=by kernel_rfl
 m17:=by kernel_rfl
 m18:=by kernel_rfl
 m19:=by kernel_rfl}
def Tryz.lays219_ren:Go.Shelf.Ren:=⟨fun|219=>304|217=>180|225=>319|224=>320|267=>321|266=>242|314=>327|n=>n,fun|9=>9|3=>3|4=>4|5=>5|46=>250|146=>277|51=>276|n=>n,fun|1=>2|n=>n⟩
theorem Tryz.lays219:Go.Proofs.Lays.n219 prog Tryz.lays219_ren:={
 mixed:=by kernel_rfl
 f217:=Tryz.func180.trans (aNz some qA)
 f219:=Tryz.func304.trans (aNz some qA)
 f224:=Tryz.func320.trans (aNz some qA)
 f225:=Tryz.func319.trans (aNz some qA)
 f266:=Tryz.func242.trans (aNz some qA)
 f267:=Tryz.func321.trans (aNz some qA)
 f314:=Tryz.func327.trans (aNz some qA)
 t3:=Tryz.underlying3
 a3:=Tryz.isAgg3
 z3:=Tryz.sizeOf3
 v3:=Tryz.zeroValue3
 t4:=Tryz.underlying4
 a4:=Tryz.isAgg4
 z4:=Tryz.sizeOf4
 v4:=Tryz.zeroValue4
 t5:=Tryz.underlying5
 a5:=Tryz.isAgg5
 z5:=Tryz.sizeOf5
 v5:=Tryz.zeroValue5
 t9:=Tryz.underlying9
 a9:=Tryz.isAgg9
 z9:=Tryz.sizeOf9
 v9:=Tryz.zeroValue9
 t46:=Tryz.underlying250
 a46:=Tryz.isAgg250
 z46:=Tryz.sizeOf250
 v46:=Tryz.zeroValue250
 t51:=Tryz.underlying276
 a51:=Tryz.isAgg276
 z51:=Tryz.sizeOf276
 v51:=Tryz.zeroValue276
 t146:=Tryz.underlying277
 a146:=Tryz.isAgg277
 z146:=Tryz.sizeOf277
 v146:=Tryz.zeroValue277
 g1:=by kernel_rfl}
end Go.Proofs
namespace Go.Proofs.YtedimeeleabhnaaGreatDoor
open Vc Go.RowKit
open Tryz
theorem a8t {w:pY}(h:IT w):Lib.TabIs prog w "internal/strconv.uint64pow10" .u64 Lib.pow10Tab:=by
 obtain⟨_,e,fz,h1⟩:=h.2.2.2.2 _ (aNq);unfold Lib.TabIs World.var?;rw[show Tryz.prog.globalNamed "internal/strconv.uint64pow10" =some 3 from by kernel_rfl]
 simp only[aM3];rw[h1]
@[go_sem] def rk:List qK->List qP->Option r8
 |[(.val .str O,none),(.val .str a8,none)],[]=>some ⟨[(List.all a8 λb=>decide (b.toNat<128))=true/\List.length a8<4294967281,List.length O<=9223372036854775807],[(.val .str (Lib.trimS O a8),none)],[]⟩
 |_,_=>none
theorem a8u:yV prog 333 rk:=by
 refine F1 (λ_ _=>rfl) λg w args vals L r hT ha hC hs=>?_;unfold rk at hC;split at hC
 .rename_i s c;cases hC;obtain⟨h1,h2⟩:=hs _ aNq;have h3:=hs (List.length s<=9223372036854775807) pO;obtain⟨va,_,rfl,ra,vb,_,rfl,rb,hv⟩:=ha;obtain rfl:=xO ra.1;obtain rfl:=xO rb.1;cases hv;exact⟨rfl,rfl,(Any.strings_Trim_laid Tryz.lays160 qA ⟨List.toArray s⟩ ⟨List.toArray c⟩ w h3 h2 (ascii_of_all h1)).mono λe w' ⟨he,hb⟩=>⟨_,he,hb,BR _ _ _,trivial⟩⟩
 cases hC
@[go_sem] def rm:List qK->List qP->Option r8
 |[(.val (.int .i64) n,none)],[]=>some ⟨[-9223372036854775808<=n/\n<=9223372036854775807],[(.val .str (Lib.itoa n),none)],[]⟩
 |_,_=>none
theorem a8v:yV prog 131 rm:=by
 refine F1 (λ_ _=>rfl) λg w args vals L r hT ha hC hs=>?_;unfold rm at hC;split at hC
 .rename_i n;cases hC;obtain⟨h1,h2⟩:=hs _ aNq;obtain⟨va,_,rfl,ra,hv⟩:=ha;obtain rfl:=vF ra.1;cases hv;refine⟨rfl,rfl,(Any.strconv_Itoa Tryz.lays171M n h1 h2 w (a8t hT)).mono λe w' ⟨he,k,os,hw⟩=>⟨_,he,?_,BR _ _ _,trivial⟩⟩;subst hw;exact⟨rfl,rfl,rfl,by show w.heap.size<=(w.heap++os).size;rw[aOU];omega,λ_ hj=>Sort.heap_grow_old (w.drewN k) os hj⟩
 cases hC
@[go_sem] def rn:List qK->List qP->Option r8
 |[(.val .str O,none),(.val .str a8,none)],[]=>some ⟨[List.length O<4294967281],[(.val (.int .i64) (FU O a8),none)],[]⟩
 |_,_=>none
theorem a8w:yV prog 304 rn:=by
 refine F1 (λ_ _=>rfl) λg w args vals L r hT ha hC hs=>?_;unfold rn at hC;split at hC
 .rename_i s c;cases hC;have h1:=hs _ aNq;obtain⟨va,_,rfl,ra,vb,_,rfl,rb,hv⟩:=ha;obtain rfl:=xO ra.1;obtain rfl:=xO rb.1;cases hv;obtain⟨m,hm⟩:=hT.2.2.1;exact⟨rfl,rfl,(cb (Any.stringslite_Index Tryz.lays219 ⟨List.toArray s⟩ ⟨List.toArray c⟩ m w h1 hm)).mono λe w' ⟨he,hb⟩=>⟨_,he,hb,wO _ _ _ _,trivial⟩⟩
 cases hC
def F2 (l:pJ) (sep:pI):pI:=Lib.join l sep
@[go_sem] def rp:List qK->List qP->Option r8
 |[(.val (.list .str) l,none),(.val .str c,none)],[]=>some ⟨[List.length l<=140737488355328/\List.length (F2 l c)<=140737488355328],[(.val .str (F2 l c),none)],[]⟩
 |_,_=>none
theorem a8x:yV prog 59 rp:=by
 refine F1 (λ_ _=>rfl) λg w args vals L r hT ha hC hs=>?_;unfold rp at hC;split at hC
 .rename_i l c;cases hC;obtain⟨h1,h2⟩:=hs _ aNq;obtain⟨va,_,rfl,ra,vb,_,rfl,rb,hv⟩:=ha;obtain⟨a,cap,rfl,hcap,hlist⟩:=EY ra.1;obtain rfl:=xO rb.1;cases hv;refine⟨rfl,rfl,?_⟩;unfold F2 at h2;have hxm:(l.map λx=>(⟨x.toArray⟩:ByteArray)).map (·.data.toList)=l:=by
   rw[List.map_map];exact(List.map_congr_left λx _=>rfl).trans (List.map_id l)
  rcases l with _|⟨x,_|⟨y,r⟩⟩
  .exact(cb (Any.strings_Join_none Tryz.lays156 Tryz.builderExtraJ a cap ⟨List.toArray c⟩ w)).mono λe w' ⟨he,hb⟩=>⟨_,he,hb,BR _ _ _,trivial⟩
  .rcases hlist with h|⟨b,o,rfl,hL⟩
   .cases h
   obtain⟨cs,k1,k2,k3,k4⟩:=VH hL (i:=0) (x:=x) rfl;rw[show cs=[.string ⟨List.toArray x⟩] from k4] at k2;have k5:=k2 0 _ rfl;rw[Nat.zero_mul,aOd] at k5;exact(cb (Any.strings_Join_one Tryz.lays156 Tryz.builderExtraJ b o cap ⟨List.toArray x⟩ ⟨List.toArray c⟩ w k5)).mono λe w' ⟨he,hb⟩=>⟨_,he,hb,(by rw[show F2 [x] c=x from Lib.join_one x c];exact BR _ _ _),trivial⟩
  rcases hlist with h|⟨b,o,rfl,hL⟩
  .cases h
  have hc: ∀(j:Nat) z,((x::y::r).map λx=>(⟨List.toArray x⟩:ByteArray))[j]? =some z->w.cell? ⟨b,o+j,none⟩=some (.string z):=by
   intro j z hz;rw[List.getElem?_map] at hz;obtain⟨u,hu,rfl⟩:=aNh.1 hz;obtain⟨cs,k1,k2,k3,k4⟩:=VH hL hu;rw[show cs=[.string ⟨List.toArray u⟩] from k4] at k2;have k5:=k2 0 _ rfl;rw[aOd,show j*Ty.str.cells=j from aO3 j] at k5;exact k5
  have h0:=hc 0 _ rfl;have:=Any.strings_Join_many Tryz.lays156 Tryz.builderExtraJ b o cap ((x::y::r).map λx=>(⟨List.toArray x⟩:ByteArray)) ⟨List.toArray c⟩ w hc (World.block_lt_of_cell? _ _ h0) pO (by simpa using h1) (by simpa using hcap) (by rw[hxm];exact h2);rw[hxm] at this;rw[aN9] at this;exact this.mono λe w' ⟨he,hb⟩=>⟨_,he,hb,BR _ _ _,trivial⟩
 cases hC
end Go.Proofs.YtedimeeleabhnaaGreatDoor
namespace Go.Proofs.YtedimeeleabhnaaGreatDoor
open Go.RowKit Go.Shelf Go.Lib
theorem a8y {w:pY}(hc:w.cell? ⟨5,15,none⟩=some (.int .u8 4)):
  Calls Tryz.prog 323 #[.int .u64 16] w λe w'=>e= .returned (.int .i64 4)/\w'=w:=by
 go_enter Tryz.func323,Tryz.ntmps323
 have k0:bits BinOp.and IntKind.u64 16 (IntKind.u64.wrap (-16))=16:=by decide+kernel
 have k1:IntKind.u64.wrap (16*285870213051353865) /288230376151711744=15:=by decide+kernel
 go_wp2
 go_ret
 exact⟨rfl,rfl⟩
theorem Ic {w:pY}(hc:w.cell? ⟨5,15,none⟩=some (.int .u8 4)):
  Calls Tryz.prog 309 #[.int .u64 16] w λe w'=>e= .returned (.int .i64 4)/\w'=w:=by
 go_enter Tryz.func309,Tryz.ntmps309
 go_wp2_with fail
 refine(a8y hc).mono ?_;rintro e w' ⟨rfl,rfl⟩
 go_wp2
 go_ret
 exact⟨rfl,rfl⟩
theorem Id {w:pY}:
  Calls Tryz.prog 308 #[.int .i64 16] w λe w'=>e= .returned (.bool true)/\w'=w:=by
 have k0:bits BinOp.and IntKind.i64 16 15=0:=by decide+kernel
 go_enter Tryz.func308,Tryz.ntmps308
 go_wp2
 go_ret
 exact⟨rfl,rfl⟩
theorem Ie {w:pY}{a:Addr}{v:pZ}(h:w.cell? a=some v):a.block<w.heap.size:=by
 unfold World.cell? at h;split at h
 .rename_i hb;exact(aNr.1 hb).1
 cases h
def MG (n:Nat):UInt8:=if n<10 then(48+n).toUInt8 else(87+n).toUInt8
theorem a8z (w:pY) (d:UInt8):(convert 111 9 (.slice (some ⟨w.heap.size,64,none⟩) 1 1)).run Tryz.prog (w.alloc (.cells (Tryz.zeroCells294.setIfInBounds 64 (.int .u8 (d.toNat:Int))) 294))= .ok (.string ⟨#[d]⟩) (w.alloc (.cells (Tryz.zeroCells294.setIfInBounds 64 (.int .u8 (d.toNat:Int))) 294)):=by
 refine run_convert_bytes_back _ _ _ 5 ⟨w.heap.size,64,none⟩ 1 [d] Tryz.underlying111 Tryz.underlying5 Tryz.underlying9 λj hj=>?_;have:j=0:=by simpa using hj
 subst this;simp [Addr.add,aOo]
theorem rq: ∀u:Fin 16,(⟨#[48,49,50,51,52,53,54,55,56,57,97,98,99,100,101,102,103,104,105,106,107,108,109,110,111,112,113,114,115,116,117,118,119,120,121,122]⟩:ByteArray).data[u.val]? =some (MG u.val):=by decide+kernel
theorem a8A {w:pY}(hc:w.cell? ⟨5,15,none⟩=some (.int .u8 4)) (u:Nat) (hu:u<16):
  Calls Tryz.prog 284 #[.slice none 0 0,.int .u64 u,.int .i64 16,.bool false,.bool false] w λe w'=>e= .returned (.tuple #[.slice none 0 0,.string ⟨#[MG u]⟩])/\Below w.heap.size w w':=by
 have hc2:(w.alloc (.cells Tryz.zeroCells294 294)).cell? ⟨5,15,none⟩=some (.int .u8 4):=by
  rw[aNx (a:=⟨5,15,none⟩) (aNB _ _ _ (Ie hc))];exact hc
 go_enter Tryz.func284,Tryz.ntmps284
 go_wp2_with fail
 refine Id.mono ?_;rintro e w' ⟨rfl,rfl⟩
 go_wp2_with fail
 refine(Ic hc2).mono ?_;rintro e w' ⟨rfl,rfl⟩
 go_wp2_with fail
 go_rounds 1
 rw[a8z];simp only[Result.andThen];rw[Oper.upon_value]
 go_wp2
 go_ret2
 refine⟨?_,(Below.refl _ _).alloc (aNt _) _⟩;have h:=rq ⟨u,hu⟩;obtain⟨h1,h2⟩:=aNr.1 h;rw[<-h2];rfl
theorem a8B (w:pY) (d e:UInt8):(convert 111 9 (.slice (some ⟨w.heap.size,63,none⟩) 2 2)).run Tryz.prog (w.alloc (.cells ((Tryz.zeroCells294.setIfInBounds 64 (.int .u8 (e.toNat:Int))).setIfInBounds 63 (.int .u8 (d.toNat:Int))) 294))= .ok (.string ⟨#[d,e]⟩) (w.alloc (.cells ((Tryz.zeroCells294.setIfInBounds 64 (.int .u8 (e.toNat:Int))).setIfInBounds 63 (.int .u8 (d.toNat:Int))) 294)):=by
 refine run_convert_bytes_back _ _ _ 5 ⟨w.heap.size,63,none⟩ 2 [d,e] Tryz.underlying111 Tryz.underlying5 Tryz.underlying9 λj hj=>?_
 match j,hj with
 |0,_=>simp [Addr.add,aOo]
 |1,_=>simp [Addr.add,aOo]
theorem a8C: ∀u:Fin 256,bits BinOp.and IntKind.u64 (u.val:Int) 15=((u.val%16:Nat):Int):=by decide+kernel
theorem a8D {w:pY}(hc:w.cell? ⟨5,15,none⟩=some (.int .u8 4)) (u:Nat) (hu:16<=u) (hu2:u<256):
  Calls Tryz.prog 284 #[.slice none 0 0,.int .u64 u,.int .i64 16,.bool false,.bool false] w λe w'=>e= .returned (.tuple #[.slice none 0 0,.string ⟨#[MG (u/16),MG (u%16)]⟩])/\Below w.heap.size w w':=by
 have hc2:(w.alloc (.cells Tryz.zeroCells294 294)).cell? ⟨5,15,none⟩=some (.int .u8 4):=by
  rw[aNx (a:=⟨5,15,none⟩) (aNB _ _ _ (Ie hc))];exact hc
 have h15:=a8C ⟨u,hu2⟩;have hm:u%16<16:=Nat.mod_lt _ pN;have hq:u/16<16:=by omega
 have hq2:((u:Int)) /16=((u/16:Nat):Int):=rfl;dsimp only at h15;have H15:=Lib.hid h15;clear h15;obtain⟨m,hmm⟩: ∃m,u%16=m:=⟨_,rfl⟩;obtain⟨q,hqq⟩: ∃q,u/16=q:=⟨_,rfl⟩;rw[hmm] at hm;rw[hqq] at hq hq2;have h15:=H15.out;rw[hmm] at h15;have HM:=Lib.hid hmm;have HQ:=Lib.hid hqq;clear hmm hqq H15
 go_enter Tryz.func284,Tryz.ntmps284
 go_wp2_with fail
 refine Id.mono ?_;rintro e w' ⟨rfl,rfl⟩
 go_wp2_with fail
 refine(Ic hc2).mono ?_;rintro e w' ⟨rfl,rfl⟩
 go_wp2_with fail
 go_rounds 2
 rw[a8B];simp only[Result.andThen];rw[Oper.upon_value]
 go_wp2
 go_ret2
 refine⟨?_,(Below.refl _ _).alloc (aNt _) _⟩;have h:=rq ⟨m,hm⟩;obtain⟨h1,h2⟩:=aNr.1 h;have k:=rq ⟨q,hq⟩;obtain⟨k1,k2⟩:=aNr.1 k;rw[HM.out,HQ.out,<-h2,<-k2];rfl
def xH (c _b:Int):pI:=if c<16 then[MG c.toNat] else[MG (c.toNat/16),MG (c.toNat%16)]
theorem fb {w:pY}(hc:w.cell? ⟨5,15,none⟩=some (.int .u8 4)) (u:Nat) (hu2:u<256):
  Calls Tryz.prog 284 #[.slice none 0 0,.int .u64 u,.int .i64 16,.bool false,.bool false] w λe w'=>e= .returned (.tuple #[.slice none 0 0,.string ⟨(xH u 16).toArray⟩])/\Below w.heap.size w w':=by
 unfold xH;by_cases h:(u:Int)<16
 .rw[aM4 h];exact a8A hc u pM
 rw[aM9 h];exact a8D hc u pM hu2
theorem a8E {w:pY}(hc:w.cell? ⟨5,15,none⟩=some (.int .u8 4)) (u:Nat) (hu2:u<256):
  Calls Tryz.prog 241 #[.int .i64 u,.int .i64 16] w λe w'=>e= .returned (.string ⟨(xH u 16).toArray⟩)/\Below w.heap.size w w':=by
 obtain⟨s,hs⟩: ∃s,xH u 16=s:=⟨_,rfl⟩;have hfb:=fb hc u hu2;rw[hs] at hfb|-;clear hs;have hk:IntKind.u64.wrap (u:Int)=u:=by rw[IntKind.wrap_u64];omega
 have hn: ¬(u:Int)<0:=by omega
 go_enter Tryz.func241,Tryz.ntmps241
 go_wp2_with fail
 refine hfb.mono ?_;rintro e w' ⟨rfl,hb⟩
 go_wp2
 go_ret
 exact⟨rfl,hb⟩
theorem If {w:pY}(hc:w.cell? ⟨5,15,none⟩=some (.int .u8 4)) (u:Nat) (hu2:u<256):
  Calls Tryz.prog 181 #[.int .i64 u,.int .i64 16] w λe w'=>e= .returned (.string ⟨(xH u 16).toArray⟩)/\Below w.heap.size w w':=by
 obtain⟨s,hs⟩: ∃s,xH u 16=s:=⟨_,rfl⟩;have hfb:=a8E hc u hu2;rw[hs] at hfb|-;clear hs
 go_enter Tryz.func181,Tryz.ntmps181
 go_wp2_with fail
 refine hfb.mono ?_;rintro e w' ⟨rfl,hb⟩
 go_wp2
 go_ret
 exact⟨rfl,hb⟩
#print axioms If
end Go.Proofs.YtedimeeleabhnaaGreatDoor
namespace Go.Proofs
open Go.RowKit Go.Lib
def Tryz.lays105_ren:Go.Shelf.Ren:=⟨fun|105=>182|212=>243|99=>159|165=>96|166=>92|170=>244|169=>95|263=>285|264=>286|206=>222|240=>129|241=>134|276=>178|277=>183|n=>n,fun|9=>9|3=>3|4=>4|20=>20|0=>0|46=>250|109=>251|5=>5|72=>113|76=>116|51=>276|146=>277|53=>270|148=>279|70=>110|37=>111|75=>115|127=>153|164=>202|80=>120|n=>n,fun|n=>n⟩
theorem Tryz.lays105:Go.Proofs.Lays.n105 Tryz.prog Tryz.lays105_ren:={
 mixed:=by kernel_rfl
 f99:=Tryz.func159.trans (aNz some qA)
 f105:=Tryz.func182.trans (aNz some qA)
 f165:=Tryz.func96.trans (aNz some qA)
 f166:=Tryz.func92.trans (aNz some qA)
 f169:=Tryz.func95.trans (aNz some qA)
 f170:=Tryz.func244.trans (aNz some qA)
 f206:=Tryz.func222.trans (aNz some qA)
 f212:=Tryz.func243.trans (aNz some qA)
 f240:=Tryz.func129.trans (aNz some qA)
 f241:=Tryz.func134.trans (aNz some qA)
 f263:=Tryz.func285.trans (aNz some qA)
 f264:=Tryz.func286.trans (aNz some qA)
 f276:=Tryz.func178.trans (aNz some qA)
 f277:=Tryz.func183.trans (aNz some qA)
 t0:=Tryz.underlying0
 a0:=Tryz.isAgg0
 z0:=Tryz.sizeOf0
 v0:=Tryz.zeroValue0
 t3:=Tryz.underlying3
 a3:=Tryz.isAgg3
 z3:=Tryz.sizeOf3
 v3:=Tryz.zeroValue3
 t4:=Tryz.underlying4
 a4:=Tryz.isAgg4
 z4:=Tryz.sizeOf4
 v4:=Tryz.zeroValue4
 t5:=Tryz.underlying5
 a5:=Tryz.isAgg5
 z5:=Tryz.sizeOf5
 v5:=Tryz.zeroValue5
 t9:=Tryz.underlying9
 a9:=Tryz.isAgg9
 z9:=Tryz.sizeOf9
 v9:=Tryz.zeroValue9
 t20:=Tryz.underlying20
 a20:=Tryz.isAgg20
 z20:=Tryz.sizeOf20
 v20:=Tryz.zeroValue20
 t37:=Tryz.underlying111
 a37:=Tryz.isAgg111
 z37:=Tryz.sizeOf111
 v37:=Tryz.zeroValue111
 t46:=Tryz.underlying250
 a46:=Tryz.isAgg250
 z46:=Tryz.sizeOf250
 v46:=Tryz.zeroValue250
 t51:=Tryz.underlying276
 a51:=Tryz.isAgg276
 z51:=Tryz.sizeOf276
 v51:=Tryz.zeroValue276
 t53:=Tryz.underlying270
 a53:=Tryz.isAgg270
 z53:=Tryz.sizeOf270
 v53:=Tryz.zeroValue270
 t70:=Tryz.underlying110
 a70:=Tryz.isAgg110
 z70:=Tryz.sizeOf110
 v70:=Tryz.zeroValue110
 t72:=Tryz.underlying113
 a72:=Tryz.isAgg113
 z72:=Tryz.sizeOf113
 v72:=Tryz.zeroValue113
 t75:=Tryz.underlying115
 a75:=Tryz.isAgg115
 z75:=Tryz.sizeOf115
 v75:=Tryz.zeroValue115
 t76:=Tryz.underlying116
 a76:=Tryz.isAgg116
 z76:=Tryz.sizeOf116
 v76:=Tryz.zeroValue116
 t109:=Tryz.underlying251
 a109:=Tryz.isAgg251
 z109:=Tryz.sizeOf251
 v109:=Tryz.zeroValue251
 t127:=Tryz.underlying153
 a127:=Tryz.isAgg153
 z127:=Tryz.sizeOf153
 v127:=Tryz.zeroValue153
 t146:=Tryz.underlying277
 a146:=Tryz.isAgg277
 z146:=Tryz.sizeOf277
 v146:=Tryz.zeroValue277
 t148:=Tryz.underlying279
 a148:=Tryz.isAgg279
 z148:=Tryz.sizeOf279
 v148:=Tryz.zeroValue279
 t164:=Tryz.underlying202
 a164:=Tryz.isAgg202
 z164:=Tryz.sizeOf202
 v164:=Tryz.zeroValue202}
theorem Tryz.Builder_Extra_105:Builder.Extra Tryz.prog Tryz.lays105_ren:={
 sizeBuilder:=by kernel_rfl
 liesBuilder:=by kernel_rfl
 t5:=Tryz.underlying5
 a5:=Tryz.isAgg5
 z5:=Tryz.sizeOf5
 v5:=Tryz.zeroValue5
 infoByte:=by kernel_rfl
 cellsByte:=by kernel_rfl
 sizeByte:=by kernel_rfl
 neB5:=by decide}
end Go.Proofs
namespace Go.Proofs.YtedimeeleabhnaaGreatDoor
open Vc Go.RowKit
def rr (n:Int):Prop:=n=16
instance (n:Int):Decidable (rr n):=inferInstanceAs (Decidable (n=16))
@[go_sem] def ru:List qK->List qP->Option r8
 |[(.val (.int .i64) O,none),(.val (.int .i64) a8,none)],[]=>some ⟨[0<=O/\O<256/\rr a8],[(.val .str (xH O a8),none)],[]⟩
 |_,_=>none
theorem a8F:yV Tryz.prog 181 ru:=by
 refine F1 (λ_ _=>rfl) λg w args vals L r hT ha hC hs=>?_;unfold ru at hC;split at hC
 .rename_i c d;cases hC;obtain⟨h1,h2,h3⟩:=hs _ aNq;obtain⟨va,_,rfl,ra,vb,_,rfl,rb,hv⟩:=ha;obtain rfl:=vF ra.1;obtain rfl:=vF rb.1;cases hv;obtain⟨u,rfl⟩: ∃u:Nat,c=((u:Nat):Int):=⟨Int.toNat c,(Int.toNat_of_nonneg h1).symm⟩;have h2:(u:Int)<256:=h2;obtain rfl:d=(16:Int):=h3;have hcell:w.cell? ⟨5,15,none⟩=some (.int .u8 4):=(hT.2.2.2.1 _ aNq).2;exact⟨rfl,rfl,(If hcell u pM).mono λe w' ⟨he,hb⟩=>⟨_,he,hb,BR _ _ _,trivial⟩⟩
 cases hC
def MH (s:pI) (c:Int):pI:=Lib.repeatL s c.toNat
@[go_sem] def rz:List qK->List qP->Option r8
 |[(.val .str O,none),(.val (.int .i64) a8,none)],[]=>some ⟨[0<=a8/\a8<=140737488355328/\(List.length O:Int)*a8<=140737488355328],[(.val .str (MH O a8),none)],[]⟩
 |_,_=>none
theorem a8G:yV Tryz.prog 182 rz:=by
 refine F1 (λ_ _=>rfl) λg w args vals L r hT ha hC hs=>?_;unfold rz at hC;split at hC
 .rename_i s c;cases hC;obtain⟨h1,h2,h3⟩:=hs _ aNq;obtain⟨va,_,rfl,ra,vb,_,rfl,rb,hv⟩:=ha;obtain rfl:=xO ra.1;obtain rfl:=vF rb.1;cases hv;obtain⟨u,rfl⟩: ∃u:Nat,c=((u:Nat):Int):=⟨Int.toNat c,(Int.toNat_of_nonneg h1).symm⟩;have h2:(u:Int)<=140737488355328:=h2;have h3:((List.length s:Nat):Int)*(u:Int)<=140737488355328:=h3;have h4:List.length s*u<=140737488355328:=by rw[<-Int.natCast_mul] at h3;exact Int.ofNat_le.1 h3
  have h:=Any.strings_Repeat Tryz.lays105 Tryz.Builder_Extra_105 ⟨List.toArray s⟩ u w pM (by show (List.toArray s).size*u<=_;rw[aN3];exact h4);exact⟨rfl,rfl,h.mono λe w' ⟨he,hb⟩=>⟨_,he,hb,BR _ _ _,trivial⟩⟩
 cases hC
def W4 (_c:Int):pI:=[]
@[go_sem] def sa:List qK->List qP->Option r8
 |[(.val (.int .u8) O,none)],[]=>some ⟨[False],[(.val .str (W4 O),none)],[]⟩
 |_,_=>none
theorem a8H:yV Tryz.prog 93 sa:=by
 refine F1 (λ_ _=>rfl) λg w args vals L r hT ha hC hs=>?_;unfold sa at hC;split at hC
 .cases hC;exact(hs _ aNq).elim
 cases hC
@[go_sem] def sb:List qK->List qP->Option r8
 |[(.val (.int .u8) O,none)],[]=>some ⟨[False],[(.val .str (W4 O),none)],[]⟩
 |_,_=>none
theorem a8I:yV Tryz.prog 138 sb:=by
 refine F1 (λ_ _=>rfl) λg w args vals L r hT ha hC hs=>?_;unfold sb at hC;split at hC
 .cases hC;exact(hs _ aNq).elim
 cases hC
end Go.Proofs.YtedimeeleabhnaaGreatDoor
namespace Go.Proofs.YtedimeeleabhnaaGreatDoor
open Vc Go.RowKit
theorem a8J {P:Program}{f:FuncId}{V:Type}{p:V->List qK}{q:V->List qP}{R:V->r8}{ps:List PK}{gs:List (Nat×Nat×PK)}{same:pX}(hcall: ∀args w,(callFunc f args).run P w= .ok (.enter f args) w) (h: ∀v,¬uU (R v).side):qW P (f,⟨ps,DZ p q R,gs,same,none⟩):=
 ⟨⟨hcall,λg w args vals L r _ _ hC hs=>by
  obtain⟨v,rfl,rfl,rfl⟩:=Hz hC;exact(h v (qy hs)).elim⟩,λ_ h=>by cases h⟩
@[go_sem] def W5 (t:Nat):sH->sH
 |[]=>[]
 |(k,s)::r=>if k=t then W5 t r else(k,s)::W5 t r
theorem se {P:Program}{t:Nat}: ∀{T:sH},vX P T->vX P (W5 t T)
 |[],h=>h
 |(k,s)::r,⟨h1,h2⟩=>by
  simp only[W5];split
  .exact se h2
  exact⟨h1,se h2⟩
theorem a8K {P:Program}{T:sH}{Γ:tS}(t:Nat) (h:vP P T Γ):vP P (W5 t T) Γ:=⟨se h.T,h.Γ,h.m⟩
attribute [go_sem] or_true true_or
end Go.Proofs.YtedimeeleabhnaaGreatDoor
namespace Go.Proofs.YtedimeeleabhnaaGreatDoor.Vc
open Go.RowKit
@[go_sem] def sf (np:Nat):DV->Bool
 | .any=>true
 | .nilS=>true
 | .val .ref (some (i,_))=>decide (i<np)
 | .val .ref none=>true
 | .val t _=>t.pure
 |_=>false
@[go_sem] def cd (np:Nat):qK->Bool
 |(d,none)=>sf np d
 |(.val (.list t) _,some k)=>t.pure&&decide (k<np)
 |_=>false
@[go_sem] def W6 (np:Nat):List (Nat×qK)->Bool
 |[]=>true
 |(_,s)::r=>cd np s&&W6 np r
theorem Ig {np:Nat}: ∀{env:List (Nat×qK)},W6 np env=true->∀t,cd np (lk env t)=true
 |[],_,t=>rfl
 |(k,s)::r,h,t=>by
  simp only[W6,aNf] at h;unfold lk;split
  .exact h.1
  exact Ig h.2 t
theorem a8L {np:Nat}{g g':Gh}{w:pY}(K:g'.S=g.S) (M: ∀i,i<np->g'.J i=g.J i) (Q: ∀i n,i<np->g'.cur i n=g.cur i n) {s:qK}{v:pZ}(hp:cd np s=true) (h:rY g w s v):rY g' w s v:=by
 have I: ∀{t:Ty}{x:t.den},t.pure=true->sR g w t x v->sR g' w t x v:=λG hv=>by
  rcases hv with⟨j,cs,z,R⟩ |⟨j,z⟩
  .exact .inl ⟨j,cs,z,vE K G R⟩
  exact .inr ⟨j,vE K G z⟩
 have O: ∀d,sf np d=true->zA g w d v->zA g' w d v:=by
  intro d D hr;unfold sf at D;split at D
  .trivial
  .exact hr
  .rename_i i o;have hi:=aNV D;rcases hr with⟨j,_⟩ |⟨j,z⟩
   .cases j
   refine .inr ⟨j,?_⟩;obtain⟨p,F,E⟩:=z;exact⟨p,(M i hi).trans F,E⟩
  .rcases hr with⟨j,_⟩ |⟨j,z⟩
   .cases j
   exact .inr ⟨j,z⟩
  .exact I D hr
  cases D
 obtain⟨d,k⟩:=s;cases k with
 |none=>exact⟨O d hp h.1,trivial⟩
 |some k=>
  unfold cd at hp;split at hp
  .rename_i heq;cases heq
  .rename_i t x k' heq;cases heq;simp only[aNf,aNj] at hp;exact⟨I (t:= .list t) hp.1 h.1,(Q k _ hp.2).trans h.2⟩
  cases hp
theorem a8M {np:Nat}{g g':Gh}{w w':pY}{env:List (Nat×qK)}{tmps:Array pZ}(h:DU g w env tmps) (hp:W6 np env=true) (D: ∀b o,g.S b o->g'.S b o) (z: ∀b o,g.S b o->w'.cell? ⟨b,o,none⟩=w.cell? ⟨b,o,none⟩)
  (E: ∀i p,i<np->g.J i=some p->g'.J i=some p) (F: ∀i n v,i<np->g.cur i n=some v->g'.cur i n=some v):DU g' w' env tmps:=λt=>by
 have le:Le g w ⟨g'.S,λi=>if i<np then g'.J i else g.J i,λi n=>if i<np then g'.cur i n else g.cur i n⟩ w':=by
  refine⟨D,z,λi p hi=>?_,λi n v hi=>?_⟩
  .show (if i<np then _ else _)=_;split
   .rename_i j;exact E i p j hi
   exact hi
  show (if i<np then _ else _)=_;split
  .rename_i j;exact F i n v j hi
  exact hi
 exact a8L (np:=np) (g:=⟨g'.S,λi=>if i<np then g'.J i else g.J i,λi n=>if i<np then g'.cur i n else g.cur i n⟩) (g':=g') rfl (λi hi=>(aM4 hi).symm) (λi n hi=>by show g'.cur i n=(if i<np then g'.cur i n else g.cur i n);rw[aM4 hi]) (Ig hp t) (DQ le (h t))
theorem tE.inner {A A':Nat->Nat->Prop}{L L':List qP}{g0 g g':Gh}{w0 w w':pY}{H H':sA}(h:tE A L g0 w0 g w H) (k:tE A' L' g w g' w' H') (I: ∀b o,A' b o->w.heap.size<=b\/wQ g H b o) (K:L.length<=L'.length)
  (G: ∀i,i<L.length->∀b,L'[i]? =some b->qT H i=some b):tE A L g0 w0 g' w' H':=by
 have own: ∀b o,A' b o->w0.heap.size<=b\/A b o:=λb o x=>by
  rcases I b o x with j|⟨i,blk,j,z⟩
  .exact .inl (aNK h.fr.size j)
  exact h.perm i blk b o j z
 refine⟨λb o x=>?_,h.fr.trans k.fr own,λi blk b o j z=>?_,λi p hi hp=>k.J i p pM (h.J i p hi hp),λi hi=>k.live i pM,λi u y us hi F=>?_,λi n v hi hv=>k.cur i n v pM (h.cur i n v hi hv)⟩
 .obtain⟨j,z⟩:=h.shut b o x;obtain⟨k1,k2⟩:=k.shut b o j;exact⟨k1,k2.trans z⟩
 .rcases k.perm i blk b o j z with D|D
  .exact .inl (aNK h.fr.size D)
  exact own b o D
 obtain⟨x,ts,E⟩:=k.ty i u y us pM F;exact h.ty i u x ts hi (G i hi _ E)
theorem tE.start {g:Gh}{w:pY}{H:sA}{L':List qP}(hH:sL g w H) (G: ∀i b,L'[i]? =some b->qT H i=some b/\b≠.dead) (D: ∀i,i<L'.length->∀b,qT H i=some b->L'[i]? =some b):tE (wQ g H) L' g w g w H:=by
 refine⟨λb o h=>⟨h,rfl⟩,Fr.refl _ _ _,λi blk b o z F=> .inr ⟨i,blk,z,F⟩,λ_ _ _ h=>h,λi hi=>?_,λi u y us hi z=>⟨y,us,D i hi _ z⟩,λ_ _ _ _ h=>h⟩;obtain⟨I,E⟩:=G i L'[i] pO;have j:=hH.blk i _ I;generalize L'[i]=blk at j E;cases blk with
 |cells t x ts=>obtain⟨p,cs,hp,_⟩:=j;exact .inl ⟨p,hp⟩
 |grow e c n=>obtain⟨v,xs,hv,_⟩:=j;exact .inr ⟨n,v,hv⟩
 |row e t l n=>obtain⟨_,v,xs,hv,_⟩:=j;exact .inr ⟨n,v,hv⟩
 |map k v l=>obtain⟨p,es,cl,hp,_⟩:=j;exact .inl ⟨p,hp⟩
 |iter s n=>obtain⟨p,hp,_⟩:=j;exact .inl ⟨p,hp⟩
 |dead=>exact absurd rfl E
section
variable {B:Nat}{A:Nat->Nat->Prop}{L:List qP}{g0 g:Gh}{w0 w:pY}{b0 o0 n0:Nat}{cs:pU}{E0:List (Nat×qK)}{tmps:Array pZ}{ds:List Deferred}
structure RJ (B:Nat) (A:Nat->Nat->Prop) (L:List qP) (g0:Gh) (w0:pY) (g:Gh) (w:pY) (b0 o0 n0:Nat) (cs:pU) (E0:List (Nat×qK)) (tmps:Array pZ) (ds:List Deferred) (g1:Gh) (W:pY) (H:sA):Prop where
 env:DU g1 W E0 tmps
 heap:sL g1 W H
 good:tE A L g0 w0 g1 W H
 sld: ∀b o,g.S b o->g1.S b o/\W.cell? ⟨b,o,none⟩=w.cell? ⟨b,o,none⟩
 rng:W.rangeAt b0 o0 cs
 len:cs.length=n0
 lt:0<n0->b0<W.heap.size
 out: ∀o,o0<=o->o<o0+n0->¬wQ g1 H b0 o
 defs:zT B W ds
theorem RJ.turn {g1:Gh}{W W2:pY}{H:sA}(h:RJ B A L g0 w0 g w b0 o0 n0 cs E0 tmps ds g1 W H) (t:wB w0.heap.size W W2) {ds':List Deferred}(z:zT B W2 ds'):RJ B A L g0 w0 g w b0 o0 n0 cs E0 tmps ds' g1 W2 H:=by
 refine⟨λx=>DQ (t.le h.heap.sl) (h.env x),t.heapOk h.heap,h.good.turn h.heap.sl t,λb o x=>⟨(h.sld b o x).1,(t.cell (h.heap.sl b o (h.sld b o x).1) o).1.trans (h.sld b o x).2⟩,λj v hv=>?_,h.len,λx=>aNI (h.lt x) t.size,h.out,z⟩;have D:j<cs.length:=(aNl.1 hv).1;have:=h.len;exact(t.cell (h.lt pM) _).1.trans (h.rng j v hv)
theorem RJ.inner {g1 g2:Gh}{W W2:pY}{H H2:sA}{L':List qP}{np':Nat}(h:RJ B A L g0 w0 g w b0 o0 n0 cs E0 tmps ds g1 W H) (k:tE (wQ g1 H) L' g1 W g2 W2 H2) (hH:sL g2 W2 H2) (F:W6 np' E0=true) (I:np'=L'.length) (M:L.length<=L'.length)
  (O: ∀i,i<L.length->∀b,L'[i]? =some b->qT H i=some b):RJ B A L g0 w0 g w b0 o0 n0 cs E0 tmps ds g2 W2 H2:=by
 subst I;refine⟨a8M h.env F (λb o x=>(k.shut b o x).1) (λb o x=>(k.shut b o x).2) (λi p hi x=>k.J i p hi x) (λi n v hi x=>k.cur i n v hi x),hH,h.good.inner k (λb o x=> .inr x) M O,λb o x=>?_,λj v hv=>?_,h.len,λx=>aNI (h.lt x) k.fr.size,λo z E ⟨i,blk,R,Q⟩=>?_,h.defs.same λD G=>?_⟩
 .obtain⟨z,E⟩:=h.sld b o x;exact⟨(k.shut b o z).1,(k.shut b o z).2.trans E⟩
 .have U:j<cs.length:=(aNl.1 hv).1;have:=h.len;exact(k.fr.cell _ _ (h.lt pM) (h.out _ pM pM)).1.trans (h.rng j v hv)
 .rcases k.perm i blk _ _ R Q with K|K
  .have:=h.lt pM;omega
  exact h.out o z E K
 rw[k.fr.blk D (aNr.1 G).1 (λo ⟨i,blk,z,E⟩=>bf (h.heap.blk i blk z) E G rfl)];exact G
end
theorem wB.put {B:Nat}{W:pY}{l:Nat}{o o':Obj}(h:W.heap[l]? =some o) (E:B<=l) (D:NG<=l) (hm:JC o=true) (j:JC o'=true):wB B W (W.putObj l o'):=by
 have z:=(aNr.1 h).1;refine⟨rfl,rfl,rfl,by simp [World.putObj],λb hb=>?_⟩;by_cases e:b=l
 .subst e;exact .inr ⟨E,D,_,_,h,World.putObj_heap_same z,hm,j⟩
 exact .inl (World.putObj_heap_other e)
theorem wB.new (B:Nat) (W:pY) (o:Obj):wB B W (W.alloc o):=by
 refine⟨rfl,rfl,rfl,by simp,λb hb=> .inl ?_⟩;exact aNB W o b hb
end Go.Proofs.YtedimeeleabhnaaGreatDoor.Vc
namespace Go.Proofs.YtedimeeleabhnaaGreatDoor.Vc
open Go.RowKit
open Go.ChangeMaps (setBlock)
@[go_sem] def a8N:Option qP->Bool
 |some .dead=>false
 |none=>false
 |_=>true
@[go_sem] def AG (H:List (Nat×qP)):Nat->Bool
 |0=>true
 |n+1=>AG H n&&a8N (qT H n)
theorem sh {H:List (Nat×qP)}: ∀{n:Nat},AG H n=true->∃L:List qP,L.length=n/\∀i b,L[i]? =some b->qT H i=some b/\b≠.dead
 |0,_=>⟨[],rfl,λi b h=>by simp at h⟩
 |n+1,h=>by
  simp only[AG,aNf] at h;obtain⟨L,h1,h2⟩:=sh h.1;cases hb:qT H n with
  |none=>rw[hb] at h;cases h.2
  |some b=>
   refine⟨L++[b],by simp [h1],λi c hc=>?_⟩;by_cases hi:i<L.length
   .rw[aNo hi] at hc;exact h2 i c hc
   have hlt:=(aNl.1 hc).1;simp only[aM7,aM5,aM8] at hlt;obtain rfl:i=L.length:=by omega
   simp only[List.getElem?_concat_length,aM6] at hc;subst hc;rw[h1];exact⟨hb,λe=>by subst e;rw[hb] at h;cases h.2⟩
def JI (g:Gh) (w:pY) (g':Gh) (w':pY):Prop:= ∀b o,g.S b o->g'.S b o/\w'.cell? ⟨b,o,none⟩=w.cell? ⟨b,o,none⟩
def RK (g g':Gh):Gh:=⟨g'.S,g.J,g.cur⟩
theorem Ih {g g':Gh}{w w':pY}(hs:JI g w g' w'):Le g w (RK g g') w':=⟨λb o h=>(hs b o h).1,λb o h=>(hs b o h).2,λ_ _ h=>h,λ_ _ _ h=>h⟩
theorem sj {g g':Gh}{w w':pY}{k v:Ty}(hk:k.pure=true) (hv:v.pure=true) {l:List (k.den×v.den)}{es:List MapEntry}(h:xF g w k v l es) (hs:JI g w g' w'):xF g' w' k v l es:=
 LX (g:=RK g g') (g':=g') rfl hk hv (VC (g':=RK g g') (Ih hs) h)
theorem ce {g g':Gh}{w w':pY}{k:Ty}(hk:k.pure=true) {x:k.den}{v:pZ}(h:sR g w k x v) (hs:JI g w g' w'):sR g' w' k x v:=by
 have h1:sR (RK g g') w' k x v:=LV (Ih hs) h;exact h1.imp (λ⟨a,cs,e,q⟩=>⟨a,cs,e,vE (g:=RK g g') (g':=g') rfl hk q⟩) (λ⟨a,q⟩=>⟨a,vE (g:=RK g g') (g':=g') rfl hk q⟩)
section
variable {R:Bool}{P:Program}{k v:Ty}
theorem a8O {c:Code}{s:St}{Q:Ex->St->Prop}(h:Ev R P c s Q) (hl:AG s.H s.np=true) {ro:pW}(hro:ro.isSome=R) {A:Nat->Nat->Prop}{L:List qP}{g0:Gh}{w0:pY}{g:Gh}{a:Act}{w:pY}{B:Nat}(hB:B<=w0.heap.size)
  (hr:tZ B g w s a) (hg:tE A L g0 w0 g w s.H) (hn:s.np=L.length):
  c.wpIn (yX ro) 0 P (λx a' w'=> ∃e g' s',B5 x=some e/\Q e s'/\tZ B g' w' s' a'/\tE A L g0 w0 g' w' s'.H/\s'.np=L.length/\JI g w g' w'/\∀b,b<w.heap.size->(∀o,¬wQ g s.H b o)->w'.heap[b]? =w.heap[b]? /\∀o,¬wQ g' s'.H b o) a w:=by
 obtain⟨L',hlen,hL⟩:=sh hl;have hty: ∀i,i<L'.length->∀b,qT s.H i=some b->L'[i]? =some b:=λi hi b hb=>by
  obtain⟨c,hc⟩: ∃c,L'[i]? =some c:=⟨_,aNe hi⟩;have:=(hL i c hc).1;rw[hb] at this;rw[hc,aNa this]
 refine aOl (h ro hro (wQ g s.H) L' g w g a w B (aNK hB hg.fr.size) hr (tE.start hr.heap hL hty) hlen.symm) λx a' w' hp=>?_;obtain⟨e,g',s',h1,h2,h3,h4,h5⟩:=hp;refine⟨e,g',s',h1,h2,h3,hg.inner h4 (λb o x=> .inr x) pM (λi _ b hb=>(hL i b hb).1),pM,λb o x=>h4.shut b o x,λb hb hno=>⟨h4.fr.blk b hb hno,λo ⟨i,blk,k1,k2⟩=>?_⟩⟩;rcases h4.perm i blk b o k1 k2 with k3|k3
 .omega
 exact hno o k3
structure MS (k v:Ty) where
 it:Nat
 rem:List (k.den×v.den)
 cur:Option (k.den×v.den)
def cf (g:Gh) (w:pY) (k v:Ty) (es:Array MapEntry) (seen:Array Nat):Option (k.den×v.den)->Prop
 |none=>True
 |some (x,y)=> ∃(e:MapEntry) (sn:Array Nat),e∈es.toList/\seen=sn.push e.born/\sR g w k x e.key/\sR g w v y e.val
theorem cf.shut {g g':Gh}{w w':pY}{es:Array MapEntry}{seen:Array Nat}{cu:Option (k.den×v.den)}(h:cf g w k v es seen cu) (hk:k.pure=true) (hv:v.pure=true) (hs:JI g w g' w'):cf g' w' k v es seen cu:=by
 cases cu with
 |none=>trivial
 |some q=>
  obtain⟨e,sn,h1,h2,h3,h4⟩:=h;exact⟨e,sn,h1,h2,ce hk h3 hs,ce hv h4 hs⟩
structure RL (B0:Nat) (m:MS k v) (g:Gh) (w:pY) (H:List (Nat×qP)) (bm:Nat) (es:Array MapEntry) (cl:Nat) (seen:Array Nat):Prop where
 hm:w.heap[bm]? =some (.map es cl)
 hi:w.heap[m.it]? =some (.mapIter (some bm) cl seen cl)
 nm: ∀o,¬wQ g H bm o
 b0:B0<=m.it
 ng:NG<=m.it
 st:J8 es cl
 rd:xF g w k v m.rem (leftOf es seen).toList
 cu:cf g w k v es seen m.cur
def HB (B0:Nat) (m:MS k v) (g:Gh) (w:pY) (H:List (Nat×qP)):Prop:= ∃bm es cl seen,RL B0 m g w H bm es cl seen
theorem RL.frame {B0:Nat}{m:MS k v}{g g':Gh}{w w':pY}{H H':List (Nat×qP)}{bm:Nat}{es:Array MapEntry}{cl:Nat}{seen:Array Nat}(hk:k.pure=true) (hv:v.pure=true) (hH:sL g w H) (h:RL B0 m g w H bm es cl seen) (hs:JI g w g' w')
  (hU: ∀b,b<w.heap.size->(∀o,¬wQ g H b o)->w'.heap[b]? =w.heap[b]? /\∀o,¬wQ g' H' b o):RL B0 m g' w' H' bm es cl seen:=by
 have hb:=hU bm (aNr.1 h.hm).1 h.nm;have hi:=hU m.it (aNr.1 h.hi).1 (λo ⟨i,blk,h1,h2⟩=>bf (hH.blk i blk h1) h2 h.hi rfl);exact⟨hb.1.trans h.hm,hi.1.trans h.hi,hb.2,h.b0,h.ng,h.st,sj hk hv h.rd hs,h.cu.shut hk hv hs⟩
def zV (R:Bool) (P:Program) (c:Code) (s:St) (m:MS k v) (Q:Ex->St->MS k v->Prop):Prop:=
 ∀(ro:pW),ro.isSome=R->
 ∀(A:Nat->Nat->Prop) (L:List qP) (g0:Gh) (w0:pY) (g:Gh) (a:Act) (w:pY) (B:Nat),B<=w0.heap.size->tZ B g w s a->tE A L g0 w0 g w s.H->s.np=L.length->HB w0.heap.size m g w s.H->
  c.wpIn (yX ro) 0 P (λx a' w'=> ∃e g' s' m',B5 x=some e/\Q e s' m'/\tZ B g' w' s' a'/\tE A L g0 w0 g' w' s'.H/\s'.np=L.length/\HB w0.heap.size m' g' w' s'.H) a w
def Ii (R:Bool) (P:Program) (c:Code) (s:St) (m:MS k v) (Q:Ex->St->Prop):Prop:=
 ∀(ro:pW),ro.isSome=R->
 ∀(A:Nat->Nat->Prop) (L:List qP) (g0:Gh) (w0:pY) (g:Gh) (a:Act) (w:pY) (B:Nat),B<=w0.heap.size->tZ B g w s a->tE A L g0 w0 g w s.H->s.np=L.length->HB w0.heap.size m g w s.H->c.wpIn (yX ro) 0 P (qn B A L g0 w0 Q) a w
theorem a8P {id:Nat}{s:St}{m:MS k v}{Q:Ex->St->MS k v->Prop}(h:Q (.exit id) s m):zV R P (.exit id) s m Q:=λ_ _ _ _ _ _ g _ _ _ _ hr hg hn hM=>wpIn_exit ⟨.exit id,g,s,m,rfl,h,hr,hg,hn,hM⟩
theorem a8Q {s:St}{m:MS k v}{Q:Ex->St->MS k v->Prop}(h:Q .normal s m):zV R P .skip s m Q:=λ_ _ _ _ _ _ g _ _ _ _ hr hg hn hM=>wpIn_skip ⟨.normal,g,s,m,rfl,h,hr,hg,hn,hM⟩
theorem a8R {c:Code}{s:St}{m:MS k v}{Q:Ex->St->Prop}{Q1:Ex->St->MS k v->Prop}(h:zV R P c s m Q1) (hq: ∀e s' m',Q1 e s' m'->∃kq:tX,Q e (s'.keep kq)):Ii R P c s m Q:=by
 intro ro hro A L g0 w0 g a w B hB hr hg hnp hM;refine aOl (h ro hro A L g0 w0 g a w B hB hr hg hnp hM) λx a' w' hp=>?_;obtain⟨e,g',s',m',h1,h2,h3,h4,h5,_⟩:=hp;obtain⟨kq,hk⟩:=hq e s' m' h2;obtain⟨g1,k1,k2,k3,_⟩:=M7 h3 h4 h5 kq;exact⟨e,g1,s'.keep kq,h1,hk,k1,k2,k3⟩
theorem a8S {c:Code}{s:St}{m:MS k v}{Q:Ex->St->MS k v->Prop}(hk:k.pure=true) (hv:v.pure=true) (hl:AG s.H s.np=true) (h:Ev R P c s λe s'=>Q e s' m):zV R P c s m Q:=by
 intro ro hro A L g0 w0 g a w B hB hr hg hn ⟨bm,es,cl,seen,hm⟩;refine aOl (a8O h hl hro hB hr hg hn) λx a' w' hp=>?_;obtain⟨e,g',s',h1,h2,h3,h4,h5,h6,h7⟩:=hp;exact⟨e,g',s',m,h1,h2,h3,h4,h5,bm,es,cl,seen,hm.frame hk hv hr.heap h6 h7⟩
theorem cg {x y:Code}{s:St}{m:MS k v}{Q Q1:Ex->St->MS k v->Prop}(h:zV R P x s m Q1) (hn: ∀s' m',Q1 .normal s' m'->zV R P y s' m' Q) (hx: ∀e s' m',e≠.normal->Q1 e s' m'->Q e s' m'):zV R P (.seq x y) s m Q:=by
 intro ro hro A L g0 w0 g a w B hB hr hg hnp hM;refine wpIn_seq (aOl (h ro hro A L g0 w0 g a w B hB hr hg hnp hM) λe a' w' hp=>?_);obtain⟨e',g',s',m',h1,h2,h3,h4,h5,h6⟩:=hp;cases e<;>simp only[B5,aM6] at h1
 case normal=>subst h1;exact hn s' m' h2 ro hro A L g0 w0 g' a' w' B hB h3 h4 h5 h6
 case exit id=>subst h1;exact⟨.exit id,g',s',m',rfl,hx _ _ _ pO h2,h3,h4,h5,h6⟩
 case ret=>subst h1;exact⟨.ret,g',s',m',rfl,hx _ _ _ pO h2,h3,h4,h5,h6⟩
 all_goals cases h1
theorem Ij {c:Operand}{x y:Code}{s:St}{m:MS k v}{Q:Ex->St->MS k v->Prop}{b:Bool}{k0:pW}(h:tC s.env c=(.val .bool b,k0)) (ht:b=true->zV R P x s m Q) (hf:b=false->zV R P y s m Q):zV R P (.cond c x y) s m Q:=by
 intro ro hro A L g0 w0 g a w B hB hr hg hn hM;have hc:=yW hr.env c;rw[h] at hc;exact wpIn_cond_split (vO hc.1) (λe=>ht e ro hro A L g0 w0 g a w B hB hr hg hn hM) (λe=>hf e ro hro A L g0 w0 g a w B hB hr hg hn hM)
theorem Ik {id:Nat}{c:Code}{s:St}{m:MS k v}{Q Q1:Ex->St->MS k v->Prop}(h:zV R P c s m Q1) (hn: ∀s' m',Q1 .normal s' m'\/Q1 (.exit id) s' m'->Q .normal s' m') (hx: ∀j s' m',j≠id->Q1 (.exit j) s' m'->Q (.exit j) s' m') (hret: ∀s' m',Q1 .ret s' m'->Q .ret s' m'):zV R P (.block id c) s m Q:=by
 intro ro hro A L g0 w0 g a w B hB hr hg hnp hM;refine wpIn_block (aOl (h ro hro A L g0 w0 g a w B hB hr hg hnp hM) λe a' w' hp=>?_);obtain⟨e',g',s',m',h1,h2,h3⟩:=hp;cases e<;>simp only[B5,aM6] at h1
 case normal=>subst h1;exact⟨.normal,g',s',m',rfl,hn _ _ (.inl h2),h3⟩
 case exit j=>
  subst h1;simp only[Exit.inBlock];split
  .rename_i hj;subst hj;exact⟨.normal,g',s',m',rfl,hn _ _ (.inr h2),h3⟩
  rename_i hj;exact⟨.exit j,g',s',m',rfl,hx _ _ _ hj h2,h3⟩
 case ret=>subst h1;exact⟨.ret,g',s',m',rfl,hret _ _ h2,h3⟩
 all_goals cases h1
theorem a8T {c:Code}{s:St}{m:MS k v}{Q:Ex->St->MS k v->Prop}(hk:k.pure=true) (hv:v.pure=true) (I:Nat->St->MS k v->Prop) (n0:Nat) (h0:I n0 s m)
  (h: ∀n s m,I n s m->zV R P c s m (λe s' m'=>match e with| .normal=> ∃(kp:tX) (n':Nat),n'<n/\vI s'.np kp.ids=true/\I n' (s'.keep kp) m'|e=>Q e s' m')):zV R P (.loop c) s m Q:=by
 intro ro hro A L g0 w0 g a w B hB hr hg hn hM
 let J:Act->pY->Nat->Prop:=λa w n=> ∃g s m,I n s m/\tZ B g w s a/\tE A L g0 w0 g w s.H/\s.np=L.length/\HB w0.heap.size m g w s.H
 refine wpIn_loop (λa w=> ∃n,J a w n) (λa w=>R9 (J a w)) ⟨n0,g,s,m,h0,hr,hg,hn,hM⟩ (λa w hI=>?_);obtain⟨⟨g2,s2,m2,i1,i3,i4,i5,i6⟩,_⟩:=RB hI;refine aOl (h _ s2 m2 i1 ro hro A L g0 w0 g2 a w B hB i3 i4 i5 i6) λe a' w' hp=>?_;obtain⟨e',g',s',m',h1,h2,h3,h4,h5,bm,es,cl,seen,h6⟩:=hp;cases e<;>simp only[B5,aM6] at h1
 case normal=>
  subst h1;obtain⟨kp,n',j1,j2,j3⟩:=h2;obtain⟨l1,l2,l3,_⟩:=bo h3 h4 h5 kp j2;have hno: ∀b,(∀o,¬wQ g' s'.H b o)->∀o,¬wQ (uI g' s'.np kp.ids) (s'.keep kp).H b o:=by
   rintro b hno o ⟨i,blk,k1,k2⟩;have k1':qT (QO s' kp (vI s'.np kp.ids)).H i=some blk:=k1;rw[j2] at k1';obtain⟨o',k3,rfl⟩:=H8 k1';obtain⟨c1,k4,k5⟩:=(JD j2 k3 λc1 hc1=>h3.heap.blk o' c1 hc1).2 _ _ k2;exact hno o ⟨o',c1,k4,k5⟩
  have hM':HB w0.heap.size m' (uI g' s'.np kp.ids) w' (s'.keep kp).H:=⟨bm,es,cl,seen,h6.hm,h6.hi,hno _ h6.nm,h6.b0,h6.ng,h6.st,sj hk hv h6.rd (λb o x=>⟨x,rfl⟩),h6.cu.shut hk hv λb o x=>⟨x,rfl⟩⟩;have hR:J a' w' n':=⟨_,s'.keep kp,m',j3,l1,l2,l3,hM'⟩;exact⟨⟨_,hR⟩,Nat.lt_of_le_of_lt ((RB ⟨_,hR⟩).2 _ hR) j1⟩
 case exit id=>subst h1;exact⟨.exit id,g',s',m',rfl,h2,h3,h4,h5,bm,es,cl,seen,h6⟩
 case ret=>subst h1;exact⟨.ret,g',s',m',rfl,h2,h3,h4,h5,bm,es,cl,seen,h6⟩
 all_goals cases h1
end
theorem a8U {g:Gh}{w:pY}{k v:Ty}{l:List (k.den×v.den)}(h:xF g w k v l []):l=[]:=by
 cases l with
 |nil=>rfl
 |cons q l=>obtain⟨e,es',h1,_⟩:=h;cases h1
theorem Il {g:Gh}{w:pY}{k v:Ty}{e:MapEntry}: ∀{l:List (k.den×v.den)}{es:List MapEntry},xF g w k v l es->(es.map (·.born)).Nodup->e∈es->
  ∃x y l',l.Perm ((x,y)::l')/\sR g w k x e.key/\sR g w v y e.val/\xF g w k v l' (es.filter λz=> !(z.born==e.born))
 |[],es,h,_,he=>by rw[show es=[] from h] at he;cases he
 |(a,b)::l,_,⟨z,es',rfl,h1,h2,h3⟩,hn,he=>by
  simp only[aN8,List.nodup_cons] at hn;by_cases hz:z.born=e.born
  .have:z=e:=by
    rcases aNk.1 he with rfl|h
    .rfl
    exact absurd (List.mem_map.2 ⟨e,h,hz.symm⟩) hn.1
   subst this;refine⟨a,b,l,List.Perm.refl _,h1,h2,?_⟩;rw[List.filter_cons_of_neg pO,List.filter_eq_self.2]
   .exact h3
   intro q hq;simp only[aNS,beq_eq_false_iff_ne];intro e1;exact hn.1 (List.mem_map.2 ⟨q,hq,e1⟩)
  have he':e∈es':=by
   rcases aNk.1 he with rfl|h
   .exact absurd rfl hz
   exact h
  obtain⟨x,y,l',p1,p2,p3,p4⟩:=Il h3 hn.2 he';refine⟨x,y,(a,b)::l',(List.Perm.cons _ p1).trans (List.Perm.swap _ _ _),p2,p3,?_⟩;rw[List.filter_cons_of_pos (by simpa using hz)];exact⟨z,_,rfl,h1,h2,p4⟩
theorem a8V (es:Array MapEntry) (seen:Array Nat) (b:Nat):(leftOf es (seen.push b)).toList=(leftOf es seen).toList.filter λz=> !(z.born==b):=by
 unfold leftOf;simp only[Array.toList_filter,List.filter_filter];congr 1;funext z;rw[contains_push,Bool.not_or,Bool.and_comm]
theorem a8W {es:Array MapEntry}{seen:Array Nat}(h:(es.toList.map (·.born)).Nodup):((leftOf es seen).toList.map (·.born)).Nodup:=by
 unfold leftOf;rw[Array.toList_filter];exact List.Nodup.sublist (List.Sublist.map _ List.filter_sublist) h
theorem a8X (es:Array MapEntry):(leftOf es #[]).toList=es.toList:=by
 unfold leftOf;rw[Array.toList_filter];exact List.filter_eq_self.2 λx _=>by simp
section
variable {B:Nat}{P:Program}{T:sH}{Γ:tS}(hE:vP P T Γ) {A:Nat->Nat->Prop}{L:List qP}{g0:Gh}{w0:pY}{Q:Exit->Act->pY->Prop}
include hE
theorem sp {ro:pW}{ops:Array Oper}{l:List Oper}{x y:uM}{a:Act}{w:pY}{g:Gh}(h:tP T Γ ops.toList l (some x)=some y) (hs: ∀p∈y.side,p) (hl:AG x.s.H x.s.np=true) (hr:tZ B g w x.s a) (hg:tE A L g0 w0 g w x.s.H) (hn:L.length=x.s.np)
  (hQ: ∀g' a' w',tZ B g' w' y.s a'->tE A L g0 w0 g' w' y.s.H->JI g w g' w'->(∀b,b<w.heap.size->(∀o,¬wQ g x.s.H b o)->w'.heap[b]? =w.heap[b]? /\∀o,¬wQ g' y.s.H b o)->Q .normal a' w'):wpListIn (yX ro) 0 P ops Q l a w:=by
 obtain⟨L',hlen,hL⟩:=sh hl;have hty: ∀i,i<L'.length->∀b,qT x.s.H i=some b->L'[i]? =some b:=λi hi b hb=>by
  obtain⟨c,hc⟩: ∃c,L'[i]? =some c:=⟨_,aNe hi⟩;have:=(hL i c hc).1;rw[hb] at this;rw[hc,aNa this]
 refine pz hE.T hE.Γ h hs hr (tE.start hr.heap hL hty) hlen λg' a' w' h3 h4=>hQ g' a' w' h3 (hg.inner h4 (λb o x=> .inr x) pM (λi _ b hb=>(hL i b hb).1)) (λb o x=>h4.shut b o x) λb hb hno=>⟨h4.fr.blk b hb hno,λo ⟨i,blk,k1,k2⟩=>?_⟩;rcases h4.perm i blk b o k1 k2 with k3|k3
 .omega
 exact hno o k3
theorem Im {ro:pW}{ops:Array Oper}{l2:List Oper}: ∀{l:List Oper}{x y:uM}{a:Act}{w:pY}{g:Gh},tP T Γ ops.toList l (some x)=some y->(∀p∈y.side,p)->tZ B g w x.s a->tE A L g0 w0 g w x.s.H->L.length=x.s.np->
  (∀g' a' w',tZ B g' w' y.s a'->tE A L g0 w0 g' w' y.s.H->wpListIn (yX ro) 0 P ops Q l2 a' w')->wpListIn (yX ro) 0 P ops Q (l++l2) a w
 |[],x,y,a,w,g,h,hs,hr,hg,hn,hQ=>by
  simp only[tP,aM6] at h;subst h;exact hQ g a w hr hg
 |o::l,x,y,a,w,g,h,hs,hr,hg,hn,hQ=>by
  obtain⟨e,h1,h2,h3,h4⟩:=bp h;have hside: ∀p∈e.side,p:=λp hp=>hs p ((BU h4).1 p (wS.2 (.inr (wS.2 (.inr hp)))));have key:=pm hE.T hE.Γ (ops:=ops.toList) (o:=o) (a:=a) (K:=wpListIn (yX ro) 0 P ops Q (l++l2)) (Q:=Q) hr.env hr.heap h1 hside (Fw hE.T hE.Γ hr e) (λg' w' v k=>Im h4 hs (hr.step k h2 h3) (hg.eff k (hn▸(R5 h1).2)) hn hQ);simp only[aOk] at key;rw[List.cons_append];unfold wpListIn;split at key
  .rename_i hw;rw[aM4 hw];exact bq (pw h1) key
  rename_i hw;rw[aM9 hw];exact⟨λ_ _=>trivial,key⟩
omit hE in
theorem ch {ro:pW}{ops:Array Oper}{o:Oper}{l:List Oper}{a:Act}{w w':pY}{v:pZ}(hg:o.guard=none) (hd: ∀c,o.op≠.defer c) (hr:(execOp a.eval o).run P w= .ok (.value v) w') (h:wpListIn (yX ro) 0 P ops Q l (a.put o.dst v) w'):wpListIn (yX ro) 0 P ops Q (o::l) a w:=by
 have hw:Region.wanted o (yielded ops a.tmps)=true:=by unfold Region.wanted;rw[hg]
 unfold wpListIn;rw[aM4 hw];refine bq hd ?_;unfold Oper.wp;rw[hr];exact h
omit hE in
theorem tZ.put {g:Gh}{w:pY}{s:St}{a:Act}(h:tZ B g w s a) {o:Oper}{sl:qK}{x:pZ}(hs:rY g w sl x) (hd:zP s.N o.dst=true):tZ B g w ⟨tH o.dst sl s.env,s.H,s.nb,s.N,s.np⟩ (a.put o.dst x):=
 ⟨pr h.env (Le.refl g w) hs h.size hd,h.heap,(pu _ _ _).trans h.size,h.nb,by rw[pv];exact h.def_,h.np⟩
omit hE in
theorem tZ.turnW {g:Gh}{w w':pY}{s:St}{a:Act}(h:tZ B g w s a) {B':Nat}(t:wB B' w w') (hd:zT B w' a.defers):tZ B g w' s a:=
 ⟨λx=>DQ (t.le h.heap.sl) (h.env x),t.heapOk h.heap,h.size,h.nb,hd,h.np⟩
end
section
variable {R:Bool}{P:Program}{k v:Ty}{T:sH}{Γ:tS}
@[go_sem] def ci:qK:=(.tup [(⟨.bool,false⟩,none)],none)
@[go_sem] def t8 (k v:Ty) (x:k.den) (y:v.den):qK:=(.tup [(⟨.bool,true⟩,none),(⟨k,x⟩,none),(⟨v,y⟩,none)],none)
@[go_sem] def W7 (k v:Ty) (x:k.den) (y:v.den):qK:=(.tup [(⟨k,x⟩,none),(⟨v,y⟩,none)],none)
theorem a8Y (hE:vP P T Γ) (hk:k.pure=true) (hv:v.pure=true) {id:Nat}{ops:Array Oper}{o:Oper}{l:List Oper}{it:Operand}{s:St}{m:MS k v}{Q:Ex->St->MS k v->Prop}(hops:ops.toList=o::l) (hgd:o.guard=none) (hop:o.op= .next it false) (hx:tC s.env it=(.itr m.it,none))
  (hd:zP s.N o.dst=true) (hl:AG s.H s.np=true)
  (hend:m.rem=[]->∃y,tP T Γ ops.toList l (some ⟨⟨tH o.dst ci s.env,s.H,s.nb,s.N,s.np⟩,[],[]⟩)=some y/\uU y.side/\Q .normal y.s m)
  (hpick: ∀x z rem,m.rem.Perm ((x,z)::rem)->∃y,tP T Γ ops.toList l (some ⟨⟨tH o.dst (t8 k v x z) s.env,s.H,s.nb,s.N,s.np⟩,[],[]⟩)=some y/\uU y.side/\Q .normal y.s ⟨m.it,rem,some (x,z)⟩):
  zV R P (.region id ops false) s m Q:=by
 intro ro hro A L g0 w0 g a w B hB hr hg hn ⟨bm,es,cl,seen,hM⟩;refine wpIn_region_list ?_;rw[hops];have hev:a.eval it= .pointer (some ⟨m.it,0,none⟩):=by
  have:=(yW hr.env it).1;rw[hx] at this;exact this
 have hexe: ∀{val:pZ}{w':pY},(Instr.next (.pointer (some ⟨m.it,0,none⟩)) false o.type).run P w= .ok val w'->(execOp a.eval o).run P w= .ok (.value val) w':=by
  intro val w' h;unfold execOp;rw[hop];simp only[hev,aNi,h,aNb,aNu]
 rcases run_next_at (P:=P) w o.type m.it bm cl cl seen es cl hM.hi hM.hm hM.st.1 (aNt _) with⟨h0,hrun⟩ |⟨e,he,w1,hw1,hrun⟩
 .have hrem:m.rem=[]:=by
   have:=hM.rd;rw[show (leftOf es seen).toList=[] by simp [Array.eq_empty_of_size_eq_zero h0]] at this;exact a8U this
  obtain⟨y,y1,y2,y3⟩:=hend hrem;refine ch hgd aPp (hexe hrun) ?_;have hr2:=hr.put (o:=o) (sl:=ci) (x:= .tuple #[.bool false]) ⟨⟨[_],rfl,_,[],rfl,w5 g w false,trivial,rfl⟩,trivial⟩ hd;exact sp hE y1 (M9 y2) hl hr2 hg hn.symm λg' a' w' h3 h4 h5 h6=>⟨.normal,g',y.s,m,rfl,y3,h3,h4,(BU y1).2.2.trans hn,bm,es,cl,seen,hM.frame hk hv hr.heap h5 h6⟩
 obtain⟨x,z,rem,p1,p2,p3,p4⟩:=Il hM.rd (a8W hM.st.2) he;obtain⟨y,y1,y2,y3⟩:=hpick x z rem p1;refine ch hgd aPp (hexe hrun) ?_;have hi1:w1.heap=w.heap:=by rcases hw1 with rfl|rfl<;>rfl
 have hlt:m.it<w.heap.size:=(aNr.1 hM.hi).1;have hoth: ∀b,b≠m.it->(setBlock w1 m.it (.mapIter (some bm) cl (seen.push e.born) cl)).heap[b]? =w.heap[b]? :=λb hne=>by
  show (w1.heap.setIfInBounds m.it _)[b]? =_;rw[hi1,aNY (Ne.symm hne)]
 have hnew:(setBlock w1 m.it (.mapIter (some bm) cl (seen.push e.born) cl)).heap[m.it]? =some (.mapIter (some bm) cl (seen.push e.born) cl):=by
  show (w1.heap.setIfInBounds m.it _)[m.it]? =_;rw[hi1,Array.getElem?_setIfInBounds_self_of_lt hlt]
 generalize hW:setBlock w1 m.it (.mapIter (some bm) cl (seen.push e.born) cl)=W at hoth hnew hrun;have t:wB w0.heap.size w W:=by
  refine⟨?_,?_,?_,?_,λb hb=>?_⟩
  .rw[<-hW];rcases hw1 with rfl|rfl<;>rfl
  .rw[<-hW];rcases hw1 with rfl|rfl<;>rfl
  .rw[<-hW];rcases hw1 with rfl|rfl<;>rfl
  .rw[<-hW];show w.heap.size<=(w1.heap.setIfInBounds _ _).size;rw[Array.size_setIfInBounds,hi1];exact aNt _
  by_cases hb2:b=m.it
  .subst hb2;exact .inr ⟨hM.b0,hM.ng,_,_,hM.hi,hnew,rfl,rfl⟩
  exact .inl (hoth b hb2)
 have hbm:bm≠m.it:=λe1=>by
  have:=hM.hm;rw[e1,hM.hi] at this;cases this
 have hdefs:zT B W a.defers:=hr.def_.same λD hD=>(hoth D (λe1=>by rw[e1,hM.hi] at hD;cases hD)).trans hD;have hrW:=hr.turnW t hdefs;have le:Le g w g W:=t.le hr.heap.sl;have hgW:tE A L g0 w0 g W s.H:=hg.turn hr.heap.sl t;have hr2:=hrW.put (o:=o) (sl:=t8 k v x z) (x:= .tuple #[.bool true,e.key,e.val]) ⟨⟨[_,_,_],rfl,_,[_,_],rfl,w5 g W true,trivial,_,[_],rfl,LV le p2,trivial,_,[],rfl,LV le p3,trivial,rfl⟩,trivial⟩ hd;have hshut:JI g w g W:=λb o h=>⟨h,le.cell b o h⟩;have hM2:RL w0.heap.size (⟨m.it,rem,some (x,z)⟩:MS k v) g W s.H bm es cl (seen.push e.born):=by
  refine⟨(hoth bm hbm).trans hM.hm,hnew,hM.nm,hM.b0,hM.ng,hM.st,?_,?_⟩
  .rw[a8V];exact sj hk hv p4 hshut
  exact⟨e,seen,(mem_left he).1,rfl,ce hk p2 hshut,ce hv p3 hshut⟩
 exact sp hE y1 (M9 y2) hl hr2 hgW hn.symm λg' a' w' h3 h4 h5 h6=>⟨.normal,g',y.s,_,rfl,y3,h3,h4,(BU y1).2.2.trans hn,bm,es,cl,seen.push e.born,hM2.frame hk hv hrW.heap h5 h6⟩
theorem a8Z (hE:vP P T Γ) (hk:k.pure=true) (hv:v.pure=true) {id:Nat}{ops:Array Oper}{o:Oper}{l:List Oper}{it:Operand}{s:St}{m:MS k v}{Q:Ex->St->MS k v->Prop}{x:k.den}{z:v.den}{y:uM}(hops:ops.toList=o::l) (hgd:o.guard=none) (hop:o.op= .entry it) (hx:tC s.env it=(.itr m.it,none))
  (hd:zP s.N o.dst=true) (hl:AG s.H s.np=true) (hc:m.cur=some (x,z)) (hy:tP T Γ ops.toList l (some ⟨⟨tH o.dst (W7 k v x z) s.env,s.H,s.nb,s.N,s.np⟩,[],[]⟩)=some y) (hs:uU y.side) (hq:Q .normal y.s m):zV R P (.region id ops false) s m Q:=by
 intro ro hro A L g0 w0 g a w B hB hr hg hn ⟨bm,es,cl,seen,hM⟩;refine wpIn_region_list ?_;rw[hops];have hev:a.eval it= .pointer (some ⟨m.it,0,none⟩):=by
  have:=(yW hr.env it).1;rw[hx] at this;exact this
 have hcu:=hM.cu;rw[hc] at hcu;obtain⟨e,sn,c1,c2,c3,c4⟩:=hcu;have hi:=hM.hi;rw[c2] at hi;have hrun:=run_entry_at (P:=P) w m.it bm cl sn es cl e hi hM.hm c1 hM.st.2;refine ch hgd aPp (v:= .tuple #[e.key,e.val]) (w':=w) ?_ ?_
 .unfold execOp;rw[hop];simp only[hev,aNi,hrun,aNb,aNu]
 have hr2:=hr.put (o:=o) (sl:=W7 k v x z) (x:= .tuple #[e.key,e.val]) ⟨⟨[_,_],rfl,_,[_],rfl,c3,trivial,_,[],rfl,c4,trivial,rfl⟩,trivial⟩ hd;exact sp hE hy (M9 hs) hl hr2 hg hn.symm λg' a' w' h3 h4 h5 h6=>⟨.normal,g',y.s,m,rfl,hq,h3,h4,(BU hy).2.2.trans hn,bm,es,cl,seen,hM.frame hk hv hr.heap h5 h6⟩
@[go_sem] def MI:List Oper->Option (List Oper×Oper)
 |[]=>none
 |[o]=>some ([],o)
 |o::p::r=>match MI (p::r) with
  |some (l,q)=>some (o::l,q)
  |none=>none
theorem In: ∀(l:List Oper) {m:List Oper}{o:Oper},MI l=some (m,o)->l=m++[o]
 |[],m,o,h=>by unfold MI at h;cases h
 |a::l,m,o,h=>by
  cases l with
  |nil=>
   unfold MI at h;injection h with h
   injection h with h1 h2
   rw[<-h1,<-h2];rfl
  |cons b r=>
   unfold MI at h;cases hq:MI (b::r) with
   |none=>rw[hq] at h;cases h
   |some q=>
    rw[hq] at h;injection h with h
    injection h with h1 h2
    rw[In (b::r) hq,<-h1,<-h2];rfl
theorem a80 (hE:vP P T Γ) (hk:k.pure=true) (hv:v.pure=true) {id:Nat}{ops:Array Oper}{l:List Oper}{o:Oper}{ty:TypeId}{mo:Operand}{c2:Code}{s:St}{Q:Ex->St->Prop}{y:uM}{c:Nat}{k0:pW}{rem:List (k.den×v.den)}{kt vt:TypeId}(hops:ops.toList=l++[o]) (hgd:o.guard=none) (hop:o.op= .range ty mo)
  (hy:tP T Γ ops.toList l (some ⟨s,[],[]⟩)=some y) (hs:uU y.side) (hx:tC y.s.env mo=(.val .mp (some c),k0)) (hc:qT y.s.H c=some (.map k v rem)) (hu:P.underlying ty=some (.map kt vt)) (hd:zP y.s.N o.dst=true)
  (kp:tX) (hkp:vI y.s.np kp.ids=true) (hkc:kp.ids.all (λq=>decide (q.2≠c))=true)
  (h: ∀it,Ii R P c2 (St.keep ⟨tH o.dst (.itr it,none) y.s.env,y.s.H,y.s.nb,y.s.N,y.s.np⟩ kp) (⟨it,rem,none⟩:MS k v) Q):Ev R P (.seq (.region id ops false) c2) s Q:=by
 intro ro hro A L g0 w0 g a w B hB hr hg hn;refine wpIn_seq (wpIn_region_list ?_);rw[hops];refine Im hE hy (M9 hs) hr hg hn.symm λg1 a1 w1 r1 d1=>?_;obtain⟨p,es,cl,hp,hp0,hh,hM,hS⟩:=r1.heap.blk c _ hc;have hev:a1.eval mo= .map (some p.1):=by
  have:=yW r1.env mo;rw[hx] at this;obtain⟨p',h1,h2⟩:=ny hE.T r1.heap this;rw[hp] at h1;obtain rfl:=aNa h1;exact h2
 have hrun:=run_range_map (P:=P) w1 ty kt vt p.1 es cl hu hh;refine ch hgd aPp (v:= .pointer (some ⟨w1.heap.size,0,none⟩)) (w':=w1.alloc (.mapIter (some p.1) cl #[] cl)) ?_ ?_
 .unfold execOp;rw[hop];simp only[hev,aNi,hrun,aNb,aNu]
 have t:wB w0.heap.size w1 (w1.alloc (.mapIter (some p.1) cl #[] cl)):=wB.new _ _ _;have hdefs:zT B (w1.alloc (.mapIter (some p.1) cl #[] cl)) a1.defers:=r1.def_.same λD hD=>(aNB _ _ D (aNr.1 hD).1).trans hD;have r2:=(r1.turnW t hdefs).put (o:=o) (sl:=(.itr w1.heap.size,none)) (x:= .pointer (some ⟨w1.heap.size,0,none⟩)) ⟨rfl,trivial⟩ hd;have d2:=d1.turn r1.heap.sl t;have hnp:y.s.np=L.length:=(BU hy).2.2.trans hn;obtain⟨r3,d3,n3,_⟩:=bo r2 d2 hnp kp hkp;have hm:RL w0.heap.size (⟨w1.heap.size,rem,none⟩:MS k v) (uI g1 y.s.np kp.ids) (w1.alloc (.mapIter (some p.1) cl #[] cl)) (St.keep ⟨tH o.dst (.itr w1.heap.size,none) y.s.env,y.s.H,y.s.nb,y.s.N,y.s.np⟩ kp).H p.1 es cl #[]:=by
  refine⟨(aNB _ _ _ (aNr.1 hh).1).trans hh,World.alloc_heap_new _ _,?_,d1.fr.size,r1.heap.tab.1.1,hp0.2,?_,trivial⟩
  .rintro b ⟨i,blk,k1,k2⟩;have k1':qT (QO (⟨tH o.dst (.itr w1.heap.size,none) y.s.env,y.s.H,y.s.nb,y.s.N,y.s.np⟩:St) kp (vI y.s.np kp.ids)).H i=some blk:=k1;rw[hkp] at k1';obtain⟨o',k3,rfl⟩:=H8 k1';obtain⟨c1,k4,k5⟩:=(JD hkp k3 λc1 hc1=>r1.heap.blk o' c1 hc1).2 _ _ k2;exact r1.heap.dis o' c c1 _ p.1 b (aNV (aN4.1 hkc _ k3)) k4 hc k5 ⟨p,hp,rfl⟩
  rw[a8X];exact LX (g:=g1) (g':=uI g1 y.s.np kp.ids) rfl hk hv (VC (t.le r1.heap.sl) hM)
 exact h w1.heap.size ro hro A L g0 w0 _ _ _ B hB r3 d3 n3 ⟨p.1,es,cl,#[],hm⟩
end
def HC {ι σ:Type}(f:ι->σ->Option σ):List ι->σ->Option σ
 |[],x=>some x
 |i::r,x=>(f i x).bind (HC f r)
def JJ {ι σ:Type}(f:ι->σ->Option σ) (l:List ι) (x y:σ):Prop:= ∀l',l'.Perm l->HC f l' x=some y
open Classical in
noncomputable def RN {ι σ:Type}(f:ι->σ->Option σ) (l:List ι) (x:σ):Option σ:=if∀l',List.Perm l' l->HC f l' x=HC f l x then HC f l x else none
theorem a81 {ι σ:Type}{f:ι->σ->Option σ}{l:List ι}{x y:σ}(h:RN f l x=some y):JJ f l x y:=by
 unfold RN at h;split at h
 .rename_i h1;exact λl' hl=>(h1 l' hl).trans h
 cases h
theorem JJ.pick {ι σ:Type}{f:ι->σ->Option σ}{l l':List ι}{q:ι}{x y:σ}(h:JJ f l x y) (hp:l.Perm (q::l')): ∃x',f q x=some x'/\JJ f l' x' y:=by
 have h1: ∀r,r.Perm l'->(f q x).bind (HC f r)=some y:=λr hr=>h (q::r) ((List.Perm.cons q hr).trans hp.symm);cases hf:f q x with
 |none=>have:=h1 l' (List.Perm.refl _);rw[hf] at this;cases this
 |some x'=>exact⟨x',rfl,λr hr=>by have:=h1 r hr;rw[hf] at this;exact this⟩
def CY {ι σ ρ:Type}(f:ι->σ->Option (σ⊕ρ)) (i:ι) (x:σ):Option σ:=(f i x).bind λw=>match w with
 | .inl x'=>some x'
 | .inr _=>none
theorem a82 {ι σ ρ:Type}{f:ι->σ->Option (σ⊕ρ)}{i:ι}{x x':σ}(h:CY f i x=some x'):f i x=some (.inl x'):=by
 unfold CY at h;cases hf:f i x with
 |none=>rw[hf] at h;cases h
 |some w=>
  rw[hf] at h;cases w with
  |inl z=>cases h;rfl
  |inr z=>cases h
def qM {σ:Type}(enc:σ->St) (b4:Nat) (x':σ):Ex->St->Prop
 | .normal,s=> ∃kp:tX,vI s.np kp.ids=true/\s.keep kp=enc x'
 | .exit j,s=>j=b4/\∃kp:tX,vI s.np kp.ids=true/\s.keep kp=enc x'
 | .ret,_=>False
theorem Io {σ:Type}{enc:σ->St}{b4:Nat}{x':σ}{s:St}(kp:tX) (h1:vI s.np kp.ids=true) (h2:s.keep kp=enc x'):qM enc b4 x' .normal s:=⟨kp,h1,h2⟩
section
variable {R:Bool}{P:Program}{k v:Ty}{T:sH}{Γ:tS}
theorem a83 (hE:vP P T Γ) (hk:k.pure=true) (hv:v.pure=true) {id8 id9 b3 b4 it:Nat}{ops8 ops9:Array Oper}{l8 l9:List Oper}{o8 o9:Oper}{tb:Nat}{tI:Operand}{body:Code}{l:List (k.den×v.den)}{σ ρ:Type}{f:k.den×v.den->σ->Option (σ⊕ρ)}{x0 y:σ}
  (hy:JJ (CY f) l x0 y) (enc:σ->St) (tO:σ->St) (h8:ops8.toList=o8::l8) (g8:o8.guard=none) (p8:o8.op= .next tI false) (h9:ops9.toList=o9::l9) (g9:o9.guard=none) (p9:o9.op= .entry tI)
  (m8: ∀x,tC (enc x).env tI=(.itr it,none)) (d8: ∀x,zP (enc x).N o8.dst=true) (v8: ∀x,AG (enc x).H (enc x).np=true) (hb:b4≠b3)
  (hend: ∀x,∃a,tP T Γ ops8.toList l8 (some ⟨⟨tH o8.dst ci (enc x).env,(enc x).H,(enc x).nb,(enc x).N,(enc x).np⟩,[],[]⟩)=some a/\uU a.side/\tC a.s.env (.tmp tb)=(.val .bool false,none)/\∃kq:tX,a.s.keep kq=tO x)
  (hround: ∀i j x x',f (i,j) x=some (.inl x')->∃a,tP T Γ ops8.toList l8 (some ⟨⟨tH o8.dst (t8 k v i j) (enc x).env,(enc x).H,(enc x).nb,(enc x).N,(enc x).np⟩,[],[]⟩)=some a/\uU a.side/\tC a.s.env (.tmp tb)=(.val .bool true,none)/\tC a.s.env tI=(.itr it,none)/\zP a.s.N o9.dst=true/\AG a.s.H a.s.np=true/\
   ∃a9,tP T Γ ops9.toList l9 (some ⟨⟨tH o9.dst (W7 k v i j) a.s.env,a.s.H,a.s.nb,a.s.N,a.s.np⟩,[],[]⟩)=some a9/\uU a9.side/\AG a9.s.H a9.s.np=true/\Ev R P body a9.s (qM enc b4 x')):
  zV R P (.block b3 (.loop (.seq (.region id8 ops8 false) (.seq (.cond (.tmp tb) .skip (.exit b3)) (.block b4 (.seq (.region id9 ops9 false) body)))))) (enc x0) (⟨it,l,none⟩:MS k v) (λe s' _=>e= .normal/\∃kq:tX,s'.keep kq=tO y):=by
 refine Ik (Q1:=λe s' _=>e= .exit b3/\∃kq:tX,s'.keep kq=tO y) ?_ (λs' m' h=>⟨rfl,h.elim (λh=>by cases h.1) λh=>h.2⟩) (λj s' m' hj h=>absurd (Ex.exit.inj h.1) hj) (λs' m' h=>by cases h.1);refine a8T hk hv (λn s m=> ∃x,s=enc x/\m.it=it/\m.rem.length=n/\JJ (CY f) m.rem x y) l.length ⟨x0,rfl,rfl,rfl,hy⟩ λn s m ⟨x,e1,e2,e3,e4⟩=>?_;subst e1;refine cg (Q1:=λe s' m'=>e= .normal/\((tC s'.env (.tmp tb)=(.val .bool false,none)/\∃kq:tX,s'.keep kq=tO y)\/
   ∃i j rem x',rem.length+1=n/\JJ (CY f) rem x' y/\m'=⟨it,rem,some (i,j)⟩/\tC s'.env (.tmp tb)=(.val .bool true,none)/\tC s'.env tI=(.itr it,none)/\zP s'.N o9.dst=true/\AG s'.H s'.np=true/\
    ∃a9,tP T Γ ops9.toList l9 (some ⟨⟨tH o9.dst (W7 k v i j) s'.env,s'.H,s'.nb,s'.N,s'.np⟩,[],[]⟩)=some a9/\uU a9.side/\AG a9.s.H a9.s.np=true/\Ev R P body a9.s (qM enc b4 x'))) ?_ ?_ (λe s' m' hne h=>absurd h.1 hne)
 .refine a8Y hE hk hv h8 g8 p8 (by rw[e2];exact m8 x) (d8 x) (v8 x) (λh0=>?_) (λi j rem hp=>?_)
  .obtain⟨a,a1,a2,a3,a4⟩:=hend x;have hxy:x=y:=by
    rw[h0] at e4;exact aNa (e4 [] (List.Perm.refl _))
   subst hxy;exact⟨a,a1,a2,rfl,.inl ⟨a3,a4⟩⟩
  obtain⟨x',f1,f2⟩:=e4.pick hp;obtain⟨a,a1,a2,a3,a4,a5,a6,a7⟩:=hround i j x x' (a82 f1);refine⟨a,a1,a2,rfl,.inr ⟨i,j,rem,x',?_,f2,by rw[e2],a3,a4,a5,a6,a7⟩⟩;rw[<-e3,hp.length_eq,aM5]
 rintro s1 m1 ⟨-,(⟨q1,q2⟩ |⟨i,j,rem,x',q1,q2,rfl,q3,q4,q5,q6,a9,q7,q8,q9,q10⟩)⟩
 .refine cg (Q1:=λe s' _=>e= .exit b3/\∃kq:tX,s'.keep kq=tO y) (Ij q1 (λh=>by cases h) λ_=>a8P ⟨rfl,q2⟩) (λs' m' h=>by cases h.1) (λe s' m' hne h=>?_);obtain⟨rfl,h⟩:=h;exact⟨rfl,h⟩
 refine cg (Q1:=λe s' m'=>e= .normal/\s'=s1/\m'=⟨it,rem,some (i,j)⟩) (Ij q3 (λ_=>a8Q ⟨rfl,rfl,rfl⟩) λh=>by cases h) ?_ (λe s' m' hne h=>absurd h.1 hne);rintro s2 m2 ⟨-,rfl,rfl⟩;have hfin: ∀s' m',(qM enc b4 x' .normal s'/\m'=(⟨it,rem,some (i,j)⟩:MS k v))->∃(kp:tX) (n':Nat),n'<n/\vI s'.np kp.ids=true/\∃x,s'.keep kp=enc x/\m'.it=it/\m'.rem.length=n'/\JJ (CY f) m'.rem x y:=by
  rintro s' m' ⟨⟨kp,k1,k2⟩,rfl⟩;exact⟨kp,rem.length,pM,k1,x',k2,rfl,rfl,q2⟩
 refine Ik (Q1:=λe s' m'=>qM enc b4 x' e s'/\m'=(⟨it,rem,some (i,j)⟩:MS k v)) ?_ (λs' m' h=>hfin s' m' (h.elim id λh=>⟨h.1.2,h.2⟩)) (λj' s' m' hj h=>absurd h.1.1 hj) (λs' m' h=>h.1.elim);refine cg (Q1:=λe s' m'=>e= .normal/\s'=a9.s/\m'=(⟨it,rem,some (i,j)⟩:MS k v)) (a8Z hE hk hv h9 g9 p9 q4 q5 q6 rfl q7 q8 ⟨rfl,rfl,rfl⟩) ?_ (λe s' m' hne h=>absurd h.1 hne);rintro s3 m3 ⟨-,rfl,rfl⟩;exact a8S hk hv q9 (MB q10 λe s' h=>⟨h,rfl⟩)
theorem a84 (hE:vP P T Γ) (hk:k.pure=true) (hv:v.pure=true) {id1 id8 id9 b3 b4:Nat}{ops1 ops8 ops9:Array Oper}{l1 l8 l9:List Oper}{o1 o8 o9:Oper}{tb:Nat}{tI mo:Operand}{ty el fl:TypeId}{ar:Bool}{ls:List (Nat×TypeId×Nat)}{body:Code}{s:St}{Q:Ex->St->Prop}{y1:uM}{c:Nat}{k0:pW}
  {l:List (k.den×v.den)}{σ ρ:Type}{f:k.den×v.den->σ->Option (σ⊕ρ)}{x0 y:σ}(hy:RN (CY f) l x0=some y)
  (h1:MI ops1.toList=some (l1,o1)) (g1:o1.guard=none) (p1:o1.op= .range ty mo) (h8:ops8.toList=o8::l8) (g8:o8.guard=none) (p8:o8.op= .next tI false) (h9:ops9.toList=o9::l9) (g9:o9.guard=none) (p9:o9.op= .entry tI) (hb:b4≠b3)
  (e1:tP T Γ ops1.toList l1 (some ⟨s,[],[]⟩)=some y1) (s1:uU y1.side) (m1:tC y1.s.env mo=(.val .mp (some c),k0)) (c1:qT y1.s.H c=some (.map k v l)) (u1:s0 T ty=some ⟨.mp,el,fl,ar,ls⟩) (d1:zP y1.s.N o1.dst=true)
  (kp:tX) (hkp:vI y1.s.np kp.ids=true) (hkc:kp.ids.all (λq=>decide (q.2≠c))=true) (enc:Nat->σ->St) (tO:σ->St) (h0: ∀it,St.keep ⟨tH o1.dst (.itr it,none) y1.s.env,y1.s.H,y1.s.nb,y1.s.N,y1.s.np⟩ kp=enc it x0)
  (m8: ∀it x,tC (enc it x).env tI=(.itr it,none)) (d8: ∀it x,zP (enc it x).N o8.dst=true) (v8: ∀it x,AG (enc it x).H (enc it x).np=true)
  (hend: ∀it x,∃a,tP T Γ ops8.toList l8 (some ⟨⟨tH o8.dst ci (enc it x).env,(enc it x).H,(enc it x).nb,(enc it x).N,(enc it x).np⟩,[],[]⟩)=some a/\uU a.side/\tC a.s.env (.tmp tb)=(.val .bool false,none)/\∃kq:tX,a.s.keep kq=tO x)
  (hround: ∀it i j x x',f (i,j) x=some (.inl x')->∃a,tP T Γ ops8.toList l8 (some ⟨⟨tH o8.dst (t8 k v i j) (enc it x).env,(enc it x).H,(enc it x).nb,(enc it x).N,(enc it x).np⟩,[],[]⟩)=some a/\uU a.side/\tC a.s.env (.tmp tb)=(.val .bool true,none)/\tC a.s.env tI=(.itr it,none)/\zP a.s.N o9.dst=true/\AG a.s.H a.s.np=true/\
   ∃a9,tP T Γ ops9.toList l9 (some ⟨⟨tH o9.dst (W7 k v i j) a.s.env,a.s.H,a.s.nb,a.s.N,a.s.np⟩,[],[]⟩)=some a9/\uU a9.side/\AG a9.s.H a9.s.np=true/\Ev R P body a9.s (qM (enc it) b4 x'))
  (hrest:Q .normal (tO y)):
  Ev R P (.seq (.region id1 ops1 false) (.block b3 (.loop (.seq (.region id8 ops8 false) (.seq (.cond (.tmp tb) .skip (.exit b3)) (.block b4 (.seq (.region id9 ops9 false) body))))))) s Q:=by
 have hu:P.underlying ty=some (.map el fl):=by
  have hm:=(t7 hE.T u1).2;simpa only[xG] using hm
 refine a80 hE hk hv (In _ h1) g1 p1 e1 s1 m1 c1 hu d1 kp hkp hkc λit=>?_;rw[h0 it];refine a8R (a83 hE hk hv (a81 hy) (enc it) tO h8 g8 p8 h9 g9 p9 (m8 it) (d8 it) (v8 it) hb (hend it) (hround it)) λe s' m' h=>?_;obtain⟨rfl,kq,hq⟩:=h;exact⟨kq,by rw[hq];exact hrest⟩
end
end Go.Proofs.YtedimeeleabhnaaGreatDoor.Vc
namespace Go.Proofs.YtedimeeleabhnaaGreatDoor
open Go.RowKit Go.Shelf Vc
open Tryz
abbrev W8:Type:=Int×Int×Int×Unit
def HD (s:ByteArray):Nat->Nat->Int->Int->List W8
 |0,_,_,_=>[]
 |n+1,i,L,C=>if i<s.size then((i:Int),L,C,())::(if (Utf8.decode s i).1=10 then HD s n (i+(Utf8.decode s i).2) (L+1) 1 else HD s n (i+(Utf8.decode s i).2) L (C+1)) else[((s.size:Int),L,C,())]
def zW (s:ByteArray):List W8:=HD s (s.size+1) 0 1 1
def RO (it:W8):pU:=[.agg #[.int .i64 it.1,.int .i64 it.2.1,.int .i64 it.2.2.1]]
theorem a85 {P:Program}(w:pY) (r:Nat) (s:ByteArray) (i:Nat) (ty:TypeId) (hh:w.heap[r]? =some (.stringIter s i)) (hi:i<s.size) {c k:Nat}(hd:Utf8.decode s i=(c,k)):
  (Instr.next (.pointer (some ⟨r,0,none⟩)) true ty).run P w= .ok (.tuple #[.bool true,.int .i64 i,.int .i32 c]) {w with heap:=w.heap.setIfInBounds r (.stringIter s (i+k))}:=by
 simp [Instr.next,getObj,setObj,Sem.run,hh,hi,hd,goInt]
theorem a86 {P:Program}(w:pY) (r:Nat) (s:ByteArray) (i:Nat) (ty:TypeId) (hh:w.heap[r]? =some (.stringIter s i)) (hi: ¬i<s.size):
  (Instr.next (.pointer (some ⟨r,0,none⟩)) true ty).run P w= .ok (.tuple #[.bool false]) w:=by
 simp [Instr.next,getObj,Sem.run,hh,hi]
theorem CZ {w:pY}{b:Nat}{arr:Array pZ}{T:TypeId}(h:w.heap[b]? =some (.cells arr T)) (o:Nat) (v:pZ):(w.setCell ⟨b,o,none⟩ v).heap[b]? =some (.cells (arr.setIfInBounds o v) T):=by
 simp [World.setCell,aOy,h]
theorem a87 (s:ByteArray) (i:Nat) (hi:i<s.size):1<=(Utf8.decode s i).2/\i+(Utf8.decode s i).2<=s.size:=by
 unfold Utf8.decode;simp only[aOd,aNf,aNj]
 repeat' split
 all_goals (simp only;omega)
theorem E1 {w:pY}{b:Nat}{arr:Array pZ}{T:TypeId}(h:w.heap[b]? =some (.cells arr T)) (o:Nat):w.frozen? ⟨b,o,none⟩=false:=by
 simp [World.frozen?,h]
theorem Ip {N:Nat}{W V:pY}{o:Obj}(h:Below N W V):Below N W (V.putObj (N+4) o):=h.trans ⟨rfl,rfl,rfl,by simp [World.putObj],λk hk=>World.putObj_heap_other pM⟩
theorem a88 {B r:Nat}{a w:pY}{o:Obj}(h:Below B a w) (hr:B<=r):Below B a {w with heap:=w.heap.setIfInBounds r o}:=
 ⟨h.os,h.tape,h.output,by simpa using h.size,λk hk=>by
  show (w.heap.setIfInBounds r o)[k]? =_;rw[aNY pM];exact h.block k hk⟩
section
attribute [local go_sem] Oper.semAt_some
theorem a89 (s:ByteArray) (hs:s.size<=4611686018427387904) (l n0:Nat) (J:Nat->pY->Prop) (Jx:pY->Prop) (hJo: ∀i W W',J i W->Below n0 W W'->J i W') (_: ∀W W',Jx W->Below n0 W W'->Jx W')
  (hY: ∀i it W,(zW s)[i]? =some it->J i W->n0<=W.heap.size->YieldAt Fence.wide 0 prog l (RO it).toArray W λe W'=>((e= .returned (.bool true)/\J (i+1) W')\/(e= .returned (.bool false)/\Jx W'))/\W.heap.size<=W'.heap.size/\∀D,n0<=D->D<W.heap.size->W'.heap[D]? =W.heap[D]?) (W:pY) (hW:n0<=W.heap.size) (h0:J 0 W):
  Calls prog 201 #[.string s,.func (.yield l) #[] #[]] W λe W'=>(∃v,e= .returned v)/\(J (zW s).length W'\/Jx W'):=by
 refine(callsIn_wide (n:=0)).1 (callsIn_of_wp func201 rfl trivial ?_);simp only[Tryz.ntmps201,aN3,aM5,aM8,Nat.reduceAdd,Nat.reduceSub,Array.replicate_succ,Array.replicate_zero,List.push_toArray,List.append_toArray,List.nil_append,List.cons_append]
 gi_wp2
 gi_loopg [] s.size (λm wr=> ∃i k n:Nat,∃o L C:Int,i+m=s.size/\s.size<n+i/\(zW s).drop k=HD s n i L C/\k<=(zW s).length/\1<=L/\L<=i+1/\1<=C/\C<=i+1/\J k wr/\W.heap.size+1<wr.heap.size/\
  wr.heap[W.heap.size]? =some (.cells #[.int .i64 o,.int .i64 L,.int .i64 C] 90)/\wr.heap[W.heap.size+1]? =some (.stringIter s i))
 case atStart=>
  refine⟨0,0,s.size+1,0,1,1,pM,pM,rfl,aOz _,pN,pN,pN,pN,hJo _ _ _ h0 ?_,?_,?_,?_⟩
  .exact((Below.refl _ _).alloc hW _).alloc pP _
  .simp [World.iter]
  .exact(aNB _ _ _ pO).trans (World.alloc_heap_new W _)
  have:=World.iter_heap (W.alloc (Obj.cells #[Value.int IntKind.i64 0,Value.int IntKind.i64 1,Value.int IntKind.i64 1] 90)) s 0;rwa [World.size_alloc] at this
 case round=>
  obtain⟨i,k,n,o,L,C,hm,hn,hdrop,hk,hL1,hL2,hC1,hC2,hJs,hsz,hcell,hiter⟩:=hrel;obtain⟨n',rfl⟩: ∃n',n=n'+1:=⟨n-1,pM⟩;by_cases hi:i<s.size
  .obtain⟨c,kk,hd⟩: ∃c kk,Utf8.decode s i=(c,kk):=⟨_,_,rfl⟩;have hnx:=λty=>a85 (P:=prog) wr (W.heap.size+1) s i ty hiter hi hd;obtain⟨w1,hw1⟩: ∃w1:pY,{wr with heap:=wr.heap.setIfInBounds (W.heap.size+1) (.stringIter s (i+kk))}=w1:=⟨_,rfl⟩
   have h1cell:w1.heap[W.heap.size]? =some (.cells #[.int .i64 o,.int .i64 L,.int .i64 C] 90):=by
    rw[<-hw1];show (wr.heap.setIfInBounds _ _)[_]? =_;rw[aNY pM];exact hcell
   have h1iter:w1.heap[W.heap.size+1]? =some (.stringIter s (i+kk)):=by
    rw[<-hw1];show (wr.heap.setIfInBounds _ _)[_]? =_;simp [hsz]
   have h1c0:w1.cell? ⟨W.heap.size,0,none⟩=some (.int .i64 o):=Lib.cell_of_heap h1cell 0;have h1c1:w1.cell? ⟨W.heap.size,1,none⟩=some (.int .i64 L):=Lib.cell_of_heap h1cell 1;have h1c2:w1.cell? ⟨W.heap.size,2,none⟩=some (.int .i64 C):=Lib.cell_of_heap h1cell 2;have h1f:w1.frozen? ⟨W.heap.size,0,none⟩=false:=E1 h1cell 0;have h1s:w1.heap.size=wr.heap.size:=by rw[<-hw1];simp
   have hb1:Below n0 wr w1:=by rw[<-hw1];exact a88 (Below.refl _ _) pM
   rw[hw1] at hnx;have hJ2:J k (w1.setCell ⟨W.heap.size,0,none⟩ (.int .i64 i)):=hJo _ _ _ hJs (hb1.setCell hW _);have h2b:=CZ h1cell 0 (.int .i64 i);have h2i:(w1.setCell ⟨W.heap.size,0,none⟩ (.int .i64 i)).heap[W.heap.size+1]? =some (.stringIter s (i+kk)):=(Go.Deep.blk_setCell_other _ _ _ _ (by show W.heap.size+1≠W.heap.size;omega)).trans h1iter;have h2s:(w1.setCell ⟨W.heap.size,0,none⟩ (.int .i64 i)).heap.size=wr.heap.size:=by rw[Go.Deep.nblk_setCell,h1s]
   have hq:(zW s)[k]? =some ((i:Int),L,C,()):=by
    have:=aNz (·[0]?) hdrop;rw[HD,aM4 hi] at this;simpa using this
   have hd2:(zW s).drop (k+1)=(if c=10 then HD s n' (i+kk) (L+1) 1 else HD s n' (i+kk) L (C+1)):=by
    have:=aNz (List.drop 1) hdrop;rw[HD,aM4 hi,hd] at this;simpa[aOa,Nat.add_comm] using this
   have hk2:k+1<=(zW s).length:=(aNl.1 hq).1;obtain⟨fn,tmps,assign,body,hy,hQ⟩:=hY _ _ _ hq hJ2 (by rw[h2s];omega);dsimp only[RO] at hy;clear hcell hiter hdrop hb1 hJs hJ2
   gi_wp2
   refine⟨rfl,hQ.mono ?_⟩;clear hQ hy;rintro e W2 ⟨h12,hsz2,hkeep⟩;rw[h2s] at hsz2 hkeep;have hblk:=(hkeep W.heap.size hW pM).trans h2b;have hitr:=(hkeep (W.heap.size+1) pM hsz).trans h2i;have hc1:W2.cell? ⟨W.heap.size,1,none⟩=some (.int .i64 L):=Lib.cell_of_heap hblk 1;have hc2:W2.cell? ⟨W.heap.size,2,none⟩=some (.int .i64 C):=Lib.cell_of_heap hblk 2;have hf1:W2.frozen? ⟨W.heap.size,1,none⟩=false:=E1 hblk 1;have hf2:W2.frozen? ⟨W.heap.size,2,none⟩=false:=E1 hblk 2;clear hkeep h2b h2i h2s h1cell h1iter h1c0 h1c1 h1c2 hnx;rcases h12 with⟨rfl,hJ3⟩ |⟨rfl,hJx⟩
   .have hkk:=a87 s i hi;rw[hd] at hkk;obtain⟨hk3,hk4⟩:1<=kk/\i+kk<=s.size:=hkk;by_cases hc:c=10
    .subst hc;rw[aM4 rfl] at hd2
     gi_wp2
     gi_roundg (gk-kk)
     case measure=>omega
     case rel=>
      refine⟨i+kk,k+1,n',i,L+1,1,pM,pM,hd2,hk2,pM,pM,pM,pM,hJo _ _ _ hJ3 ((((Below.refl _ _).setCell hW _).setCell hW _).setCell hW _),by simp only[Go.Deep.nblk_setCell];omega,?_,?_⟩
      .exact CZ (CZ (CZ hblk 2 (.int .i64 (C+1))) 1 (.int .i64 (L+1))) 2 (.int .i64 1)
      rw[Go.Deep.blk_setCell_other _ _ _ _ pO,Go.Deep.blk_setCell_other _ _ _ _ pO,Go.Deep.blk_setCell_other _ _ _ _ pO];exact hitr
    have hcd:decide ((c:Int)=10)=false:=decide_eq_false pM;rw[aM9 hc] at hd2
    gi_wp2
    gi_roundg (gk-kk)
    case measure=>omega
    case rel=>
     refine⟨i+kk,k+1,n',i,L,C+1,pM,pM,hd2,hk2,pM,pM,pM,pM,hJo _ _ _ hJ3 ((Below.refl _ _).setCell hW _),by simp only[Go.Deep.nblk_setCell];omega,?_,?_⟩
     .exact CZ hblk 2 (.int .i64 (C+1))
     rw[Go.Deep.blk_setCell_other _ _ _ _ pO];exact hitr
   gi_wp2
   refine bodyPost_ret (results_none rfl _ _ _) rfl ?_;exact⟨⟨_,rfl⟩,.inr hJx⟩
  obtain rfl:i=s.size:=by omega
  have hnx:=λty=>a86 (P:=prog) wr (W.heap.size+1) s s.size ty hiter hi;rw[HD,aM9 hi] at hdrop;have hq:(zW s)[k]? =some ((s.size:Int),L,C,()):=by
   have:=aNz (·[0]?) hdrop;simpa using this
  have hkk:k+1=(zW s).length:=by
   have h1:=aNz List.length hdrop;rw[aNE] at h1;simp only[aM5,aM8] at h1;omega
  have h1f:wr.frozen? ⟨W.heap.size,0,none⟩=false:=E1 hcell 0;have h1c0:wr.cell? ⟨W.heap.size,0,none⟩=some (.int .i64 o):=Lib.cell_of_heap hcell 0;have h1c1:wr.cell? ⟨W.heap.size,1,none⟩=some (.int .i64 L):=Lib.cell_of_heap hcell 1;have h1c2:wr.cell? ⟨W.heap.size,2,none⟩=some (.int .i64 C):=Lib.cell_of_heap hcell 2;have hJ2:J k (wr.setCell ⟨W.heap.size,0,none⟩ (.int .i64 s.size)):=hJo _ _ _ hJs ((Below.refl _ _).setCell hW _);obtain⟨fn,tmps,assign,body,hy,hQ⟩:=hY _ _ _ hq hJ2 (by rw[Go.Deep.nblk_setCell];omega);dsimp only[RO] at hy;clear hcell hiter hdrop hJs hJ2
  gi_wp2
  refine⟨rfl,hQ.mono ?_⟩;clear hQ hy;rintro e W2 ⟨h12,-⟩;rcases h12 with⟨rfl,hJ3⟩ |⟨rfl,hJx⟩
  .gi_wp2
   go_end0
   exact⟨⟨_,rfl⟩,.inl (hkk▸hJ3)⟩
  gi_wp2
  go_end0
  exact⟨⟨_,rfl⟩,.inr hJx⟩
theorem a9a (s:ByteArray) (hs:s.size<=4611686018427387904) (l n0:Nat) (J:Nat->pY->Prop) (Jx:pY->Prop) (hJo: ∀i W W',J i W->Below n0 W W'->J i W') (hJxo: ∀W W',Jx W->Below n0 W W'->Jx W')
  (hY: ∀i it W,(zW s)[i]? =some it->J i W->n0<=W.heap.size->YieldAt Fence.wide 0 prog l (RO it).toArray W λe W'=>((e= .returned (.bool true)/\J (i+1) W')\/(e= .returned (.bool false)/\Jx W'))/\W.heap.size<=W'.heap.size/\∀D,n0<=D->D<W.heap.size->W'.heap[D]? =W.heap[D]?) (W:pY) (hW:n0<=W.heap.size) (h0:J 0 W) (b o:Nat) (hc:W.cell? ⟨b,o,none⟩=some (.string s)):
  Calls prog 200 #[.func (.yield l) #[] #[],.pointer (some ⟨b,o,none⟩)] W λe W'=>(∃v,e= .returned v)/\(J (zW s).length W'\/Jx W'):=by
 have hcall:=a89 s hs l n0 J Jx hJo hJxo hY W hW h0;refine(callsIn_wide (n:=0)).1 (callsIn_of_wp func200 rfl trivial ?_);simp only[Tryz.ntmps200,aN3,aM5,aM8,Nat.reduceAdd,Nat.reduceSub,Array.replicate_succ,Array.replicate_zero,List.push_toArray,List.append_toArray,List.nil_append,List.cons_append];clear hY
 gi_wp2
 refine⟨trivial,rfl,(callsIn_wide.2 hcall).mono ?_⟩;rintro e w' ⟨⟨v,rfl⟩,hr⟩
 gi_wp2
 go_end0
 exact⟨⟨_,rfl⟩,hr⟩
theorem MJ {A:pY}{o:Obj}{i:Nat}(h:i=A.heap.size):(A.alloc o).heap[i]? =some o:=by subst h;exact World.alloc_heap_new A o
theorem HE {A:pY}{o x:Obj}{i:Nat}(h:A.heap[i]? =some x):(A.alloc o).heap[i]? =some x:=(aNB _ _ _ (aNr.1 h).1).trans h
theorem a9b {P:Program}{fo:Operand}{ps:Array Tmp}{assign body:Code}{Q:Exit->Act->pY->Prop}{a:Act}{w:pY}{gf:Nat}{lb:Array pZ}(hg:a.eval fo= .func (.func gf) #[] lb) (eg: ∀args w,(callFunc gf args).run P w= .ok (.enter gf args) w) {ι:Type}{items:List ι}{vl:ι->pU}(hps: ∀it,(vl it).toArray.size=ps.size)
  (call: ∀(l n0:Nat) (J:Nat->pY->Prop) (Jx:pY->Prop),(∀i W W',J i W->Below n0 W W'->J i W')->(∀W W',Jx W->Below n0 W W'->Jx W')->
   (∀i it W,items[i]? =some it->J i W->n0<=W.heap.size->YieldAt Fence.wide 0 P l (vl it).toArray W λe W'=>((e= .returned (.bool true)/\J (i+1) W')\/(e= .returned (.bool false)/\Jx W'))/\W.heap.size<=W'.heap.size/\∀D,n0<=D->D<W.heap.size->W'.heap[D]? =W.heap[D]?)->
   ∀W,Below w.heap.size w W->n0<=W.heap.size->J 0 W->Calls P gf (#[.func (.yield l) #[] #[]]++lb) W λe W'=>(∃v,e= .returned v)/\(J items.length W'\/Jx W'))
  (R:Nat->Prop) (h0:R 0) (Ix:pY->Prop) (hIx: ∀W W',Ix W->Below w.heap.size W W'->Ix W')
  (hround: ∀(l i:Nat) (it:ι) (V:pY),items[i]? =some it->R i->Below w.heap.size w V->w.heap.size+2<=V.heap.size->
   assign.wpIn (Fence.wide.inRound l) 0 P (λe a1 Va=>e= .normal/\Below V.heap.size V Va/\∀Vb,(∀D,V.heap.size<=D->Vb.heap[D]? =Va.heap[D]?)->Below w.heap.size Va Vb->Vb.heap.size=Va.heap.size->
    body.wpIn (Fence.wide.inRound l) 0 P (λe _ Vc=>(e= .normal/\Below Vb.heap.size Vb Vc/\R (i+1))\/(e= .ret/\Ix Vc/\Vb.heap.size<=Vc.heap.size/\∀D,w.heap.size<=D->D<Vb.heap.size->Vc.heap[D]? =Vb.heap[D]?)) a1 Vb) {tmps:=(ps.zip (vl it).toArray).foldl (λt (p,v)=>t.setIfInBounds p v) a.tmps,defers:=[]} V)
  (hdone: ∀V,R items.length->Below w.heap.size w V->V.heap[w.heap.size]? =some (.deferred (some []))->Q .normal {a with defers:={target:= .collected w.heap.size,args:= #[]}::a.defers} V)
  (hstop: ∀V,Ix V->V.heap[w.heap.size]? =some (.deferred (some []))->(Code.ret).wpIn Fence.wide 0 P Q {a with defers:={target:= .collected w.heap.size,args:= #[]}::a.defers} V):
  (Code.rangeFunc fo ps assign body).wpIn Fence.wide 0 P Q a w:=by
 refine wpIn_rangeFunc λfn _=>?_;obtain⟨rec,hrec⟩: ∃rec:LoopState->Option Code->Loop,rec=λst pe=>{state:=st,pending:=pe,fn,tmps:=a.tmps,params:=ps,assign,body,defers:=w.heap.size}:=⟨_,rfl⟩;obtain⟨W1,hW1⟩: ∃W1,(w.alloc (.deferred (some []))).alloc (.loop (rec .ready none))=W1:=⟨_,rfl⟩;have hL1:W1.heap[w.heap.size+1]? =some (.loop (rec .ready none)):=by rw[<-hW1];exact MJ pO
 have hK1:W1.heap[w.heap.size]? =some (.deferred (some [])):=by rw[<-hW1];exact HE (MJ rfl)
 have hs1:W1.heap.size=w.heap.size+2:=by rw[<-hW1];simp
 have b1:Below w.heap.size w W1:=by rw[<-hW1];exact((Below.refl _ _).alloc (aNt _) _).alloc pO _
 let l:=w.heap.size+1
 let J:Nat->pY->Prop:=λi V=>R i/\Below w.heap.size w V/\w.heap.size+2<=V.heap.size/\V.heap[w.heap.size]? =some (.deferred (some []))/\V.heap[l]? =some (.loop (rec .ready none))
 let Jx:pY->Prop:=λV=>Ix V/\w.heap.size+2<=V.heap.size/\V.heap[w.heap.size]? =some (.deferred (some []))/\V.heap[l]? =some (.loop (rec .done (some .ret)))
 have hJo: ∀i V V',J i V->Below (w.heap.size+2) V V'->J i V':=λi V V' ⟨h1,h2,h3,h4,h5⟩ hb=>⟨h1,h2.trans (hb.mono pM),aNK h3 hb.size,(hb.block _ pM).trans h4,(hb.block _ aPq).trans h5⟩;have hJxo: ∀V V',Jx V->Below (w.heap.size+2) V V'->Jx V':=λV V' ⟨h1,h3,h4,h5⟩ hb=>⟨hIx _ _ h1 (hb.mono pM),aNK h3 hb.size,(hb.block _ pM).trans h4,(hb.block _ aPq).trans h5⟩;have hY: ∀i it V,items[i]? =some it->J i V->w.heap.size+2<=V.heap.size->YieldAt Fence.wide 0 P l (vl it).toArray V λe V'=>((e= .returned (.bool true)/\J (i+1) V')\/(e= .returned (.bool false)/\Jx V'))/\V.heap.size<=V'.heap.size/\∀D,w.heap.size+2<=D->D<V.heap.size->V'.heap[D]? =V.heap[D]? :=by
  rintro i it V hi ⟨h1,h2,h3,h4,h5⟩-;have hyl:=run_yield (P:=P) (args:=(vl it).toArray) h5 (by rw[hrec];exact hps it);rw[hrec] at hyl;refine⟨fn,_,assign,body,hyl,roundIn_of_wpIn trivial ?_⟩;refine aOl (hround l i it V hi h1 h2 h3) λe a1 Va hp=>?_;obtain⟨rfl,ha,hb⟩:=hp;have hla:Va.heap[l]? =some (.loop (rec .ready none)):=(ha.block _ (aNr.1 h5).1).trans h5;have hka:Va.heap[w.heap.size]? =some (.deferred (some [])):=(ha.block _ pM).trans h4;refine⟨_,run_beginRound hla (by rw[hrec]),?_⟩;obtain⟨Vb,hVb⟩: ∃Vb,Va.putObj l (.loop {rec .ready none with state:= .busy})=Vb:=⟨_,rfl⟩
  have hlt:=(aNr.1 hla).1;have hlb:Vb.heap[l]? =some (.loop {rec .ready none with state:= .busy}):=by rw[<-hVb];exact World.putObj_heap_same hlt
  have hkb:Vb.heap[w.heap.size]? =some (.deferred (some [])):=by rw[<-hVb];exact(World.putObj_heap_other aPr).trans hka
  have hsb:Vb.heap.size=Va.heap.size:=by rw[<-hVb];simp [World.putObj]
  have hob: ∀D,D≠l->Vb.heap[D]? =Va.heap[D]? :=λD hD=>by rw[<-hVb];exact World.putObj_heap_other hD
  have tH: ∀(X:pY) (o:Obj),Below w.heap.size X (X.putObj l o):=λX o=>⟨rfl,rfl,rfl,by simp [World.putObj],λk hk=>World.putObj_heap_other aPs⟩;have hbb:Below w.heap.size Va Vb:=by rw[<-hVb];exact tH _ _
  rw[hVb];refine aOl (hb Vb (λD hD=>hob D aPt) hbb hsb) λe a2 Vc hq=>?_;have hva:=ha.size;rcases hq with⟨rfl,hc,hR⟩ |⟨rfl,hx,hcs,hck⟩
  .have hlc:Vc.heap[l]? =some (.loop {rec .ready none with state:= .busy}):=(hc.block _ aPq).trans hlb
   have hkc:Vc.heap[w.heap.size]? =some (.deferred (some [])):=(hc.block _ pM).trans hkb;have hltc:=(aNr.1 hlc).1;have hcz:=hc.size;refine⟨_,_,(by have:=run_endRound (P:=P) none hlc;rw[hrec] at this;exact this),.inl ⟨rfl,hR,?_,?_,?_,?_⟩,?_,?_⟩
   .exact((((h2.trans (ha.mono pM)).trans hbb).trans (hc.mono pM)).trans (tH _ _))
   .simp [World.putObj];omega
   .exact(World.putObj_heap_other aPr).trans hkc
   .have:=World.putObj_heap_same (o:= .loop (rec .ready none)) hltc;rw[hrec] at this;rw[hrec];exact this
   .simp [World.putObj];omega
   intro D h6 h7;rw[World.putObj_heap_other aPt,hc.block D pM,hob D aPt,ha.block D h7]
  have hlc:Vc.heap[l]? =some (.loop {rec .ready none with state:= .busy}):=(hck l (by show w.heap.size<=w.heap.size+1;omega) aPq).trans hlb
  have hkc:Vc.heap[w.heap.size]? =some (.deferred (some [])):=(hck _ pM pM).trans hkb;have hltc:=(aNr.1 hlc).1;refine⟨_,_,(by have:=run_endRound (P:=P) (some .ret) hlc;rw[hrec] at this;exact this),.inr ⟨rfl,hIx _ _ hx (tH _ _),?_,?_,?_⟩,?_,?_⟩
  .simp [World.putObj];omega
  .exact(World.putObj_heap_other aPr).trans hkc
  .have:=World.putObj_heap_same (o:= .loop (rec .done (some .ret))) hltc;rw[hrec] at this;rw[hrec];exact this
  .simp [World.putObj];omega
  intro D h6 h7;rw[World.putObj_heap_other aPt,hck D pM pM,hob D aPt,ha.block D h7]
 refine⟨l,[{target:= .collected w.heap.size,args:= #[]}],W1,{target:= .fn (.func gf) lb,args:= #[.func (.yield l) #[] #[]]},W1,gf,#[.func (.yield l) #[] #[]]++lb,W1,?_,?_,λ_ _=>trivial,?_,λh=>aPo,?_⟩
 .rw[<-hW1,hrec];exact run_enterLoop_outer _ _ _ _ _
 .simp only[resolve,hg];simp [go_sem]
 .simp [invoke,go_sem,eg]
 refine(callsIn_wide.2 (call l _ J Jx hJo hJxo hY W1 b1 pM ⟨h0,b1,pM,hK1,hL1⟩)).mono ?_;rintro e W2 ⟨⟨v,rfl⟩,(⟨h1,h2,h3,h4,h5⟩ |⟨h1,h3,h4,h5⟩)⟩
 .refine⟨none,W2.putObj l (.loop {rec .ready none with state:= .exhausted}),by have:=run_endLoop (P:=P) h5 (by rw[hrec];simp);rw[hrec] at this|-;exact this,?_⟩
  exact hdone _ h1 (h2.trans ⟨rfl,rfl,rfl,by simp [World.putObj],λk hk=>World.putObj_heap_other aPs⟩) ((World.putObj_heap_other aPr).trans h4)
 refine⟨some .ret,W2.putObj l (.loop {rec .done (some .ret) with state:= .exhausted}),by have:=run_endLoop (P:=P) h5 (by rw[hrec];simp);rw[hrec] at this|-;exact this,?_⟩
 exact hstop _ (hIx _ _ h1 ⟨rfl,rfl,rfl,by simp [World.putObj],λk hk=>World.putObj_heap_other aPs⟩) ((World.putObj_heap_other aPr).trans h4)
def HF (s:ByteArray) (off:Int):W8×Int:=match (zW s).find? (λit=>decide (it.1=off)) with
 |some it=>(it,0)
 |none=>((0,0,0,()),2)
theorem Iq {R:Ending->pY->Prop}{tmps:Array pZ}{N:Nat}{V:pY}{x y z k:Int}(hp:tmps[4]? =some (.pointer (some ⟨N+2,0,none⟩))) (hq:tmps[5]? =some (.pointer (some ⟨N+3,0,none⟩))) (hD:V.heap[N+4]? =some (.deferred (some [])))
  (b2:V.heap[N+2]? =some (.cells #[.int .i64 x,.int .i64 y,.int .i64 z] 90)) (b3:V.heap[N+3]? =some (.cells #[.int .i64 k] 30))
  (hR:R (.returned (.tuple #[.agg #[.int .i64 x,.int .i64 y,.int .i64 z],.int .i64 k])) (V.putObj (N+4) (.deferred none))):LeavesInM Fence.wide 0 prog Tryz.f147 tmps R [{target:= .collected (N+4),args:= #[]}] .returning V:=by
 refine⟨by simp,.inl ⟨N+4,_,rfl,run_takeDeferred hD,?_⟩⟩;have e2:(V.putObj (N+4) (.deferred none)).heap[N+2]? =some (.cells #[.int .i64 x,.int .i64 y,.int .i64 z] 90):=(World.putObj_heap_other pM).trans b2;have e3:(V.putObj (N+4) (.deferred none)).heap[N+3]? =some (.cells #[.int .i64 k] 30):=(World.putObj_heap_other pM).trans b3;refine⟨_,Hy (ts:=[(4,some 90),(5,some 30)]) rfl (vs:=[.agg #[.int .i64 x,.int .i64 y,.int .i64 z],.int .i64 k]) ?_,hR⟩;have c0:=Lib.cell_of_heap e2 0;have c1:=Lib.cell_of_heap e2 1;have c2:=Lib.cell_of_heap e2 2;have c3:=Lib.cell_of_heap e3 0;have hp':tmps.getD 4 undef= .pointer (some ⟨N+2,0,none⟩):=by simp [aNw,hp]
 have hq':tmps.getD 5 undef= .pointer (some ⟨N+3,0,none⟩):=by simp [aNw,hq]
 simp only[List.mapM_cons,List.mapM_nil,JH,C0,hp',hq',asAddr];simp [go_sem,c0,c1,c2,c3]
theorem a9c (s:ByteArray) (hs:s.size<=4611686018427387904) (off:Int) (W:pY):
  Calls prog 147 #[.string s,.int .i64 off] W λe W'=>Below W.heap.size W W'/\e= .returned (.tuple #[.agg #[.int .i64 (HF s off).1.1,.int .i64 (HF s off).1.2.1,.int .i64 (HF s off).1.2.2.1],.int .i64 (HF s off).2]):=by
 refine(callsIn_wide (n:=0)).1 (callsIn_of_wp_marks func147 rfl trivial ?_);simp only[Tryz.ntmps147,aN3,aM5,aM8,Nat.reduceAdd,Nat.reduceSub,Array.replicate_succ,Array.replicate_zero,List.push_toArray,List.append_toArray,List.nil_append,List.cons_append]
 gi_wp2
 obtain⟨w,hw⟩: ∃w,(((W.alloc (Obj.cells #[Value.string s] 9)).alloc (Obj.cells #[Value.int IntKind.i64 off] 3)).alloc (Obj.cells #[Value.int IntKind.i64 0,Value.int IntKind.i64 0,Value.int IntKind.i64 0] 90)).alloc (Obj.cells #[Value.int IntKind.i64 0] 30)=w:=⟨_,rfl⟩;have hsz:w.heap.size=W.heap.size+4:=by rw[<-hw];simp
 have hbw:Below W.heap.size W w:=by rw[<-hw];exact((((Below.refl _ _).alloc (aNt _) _).alloc pO _).alloc pP _).alloc pP _
 have k0:w.heap[W.heap.size]? =some (.cells #[.string s] 9):=by rw[<-hw];exact HE (HE (HE (MJ rfl)))
 have k1:w.heap[W.heap.size+1]? =some (.cells #[.int .i64 off] 3):=by rw[<-hw];exact HE (HE (MJ pO))
 have k2:w.heap[W.heap.size+2]? =some (.cells #[.int .i64 0,.int .i64 0,.int .i64 0] 90):=by rw[<-hw];exact HE (MJ pO)
 have k3:w.heap[W.heap.size+3]? =some (.cells #[.int .i64 0] 30):=by rw[<-hw];exact MJ pO
 rw[hw];simp only[aNN,Nat.reduceAdd];clear hw;generalize hN:W.heap.size=N at*;refine a9b (gf:=200) (lb:= #[.pointer (some ⟨N,0,none⟩)]) rfl (λ_ _=>rfl) (items:=zW s) (vl:=RO) (λ_=>rfl) ?call (λi=> ∀j it,j<i->(zW s)[j]? =some it->it.1≠off) (λ_ _ h=>absurd h (Nat.not_lt_zero _))
  (λV=> ∃it,(zW s).find? (λit=>decide (it.1=off))=some it/\Below N W V/\V.heap[N+2]? =some (.cells #[.int .i64 it.1,.int .i64 it.2.1,.int .i64 it.2.2.1] 90)/\V.heap[N+3]? =some (.cells #[.int .i64 0] 30)) ?ix ?round ?done ?stop
 case call=>
  intro l n0 J Jx hJ hJx hY V hV hn h0;have hcl:V.cell? ⟨N,0,none⟩=some (.string s):=Lib.cell_of_heap ((hV.block N pM).trans k0) 0;exact a9a s hs l n0 J Jx hJ hJx hY V hn h0 N 0 hcl
 case ix=>
  rintro V V' ⟨it,h1,h2,h3,h4⟩ hb;exact⟨it,h1,h2.trans (hb.mono pM),(hb.block _ pM).trans h3,(hb.block _ pM).trans h4⟩
 case round=>
  intro l i it V hi hR hb hz;dsimp only[RO];simp only[List.zip_toArray,List.zip_cons_cons,List.zip_nil_right,List.foldl_toArray,List.foldl_cons,List.foldl_nil]
  gi_wp2
  refine⟨(Below.refl _ _).alloc (aNt _) _,λVb h1 h2 h3=>?_⟩;have hbV:Below (N+4) w Vb:=((hsz▸hb:Below (N+4) w V).trans ((Below.refl _ _).alloc pM _)).trans h2;have c6:Vb.heap[V.heap.size]? =some (.cells #[.int .i64 it.1,.int .i64 it.2.1,.int .i64 it.2.2.1] 90):=(h1 _ (aNt _)).trans (MJ rfl);have c60:Vb.cell? ⟨V.heap.size,0,none⟩=some (.int .i64 it.1):=Lib.cell_of_heap c6 0;have c61:Vb.cell? ⟨V.heap.size,1,none⟩=some (.int .i64 it.2.1):=Lib.cell_of_heap c6 1;have c62:Vb.cell? ⟨V.heap.size,2,none⟩=some (.int .i64 it.2.2.1):=Lib.cell_of_heap c6 2;have b2:=(hbV.block (N+2) pM).trans k2;have b3:=(hbV.block (N+3) pM).trans k3;have c10:Vb.cell? ⟨N+1,0,none⟩=some (.int .i64 off):=Lib.cell_of_heap ((hbV.block (N+1) pM).trans k1) 0;have f20:Vb.frozen? ⟨N+2,0,none⟩=false:=E1 b2 0;have f21:Vb.frozen? ⟨N+2,1,none⟩=false:=E1 b2 1;have f22:Vb.frozen? ⟨N+2,2,none⟩=false:=E1 b2 2;have f30:Vb.frozen? ⟨N+3,0,none⟩=false:=E1 b3 0;have c20:Vb.cell? ⟨N+2,0,none⟩=some (.int .i64 0):=Lib.cell_of_heap b2 0;have c21:Vb.cell? ⟨N+2,1,none⟩=some (.int .i64 0):=Lib.cell_of_heap b2 1;have c22:Vb.cell? ⟨N+2,2,none⟩=some (.int .i64 0):=Lib.cell_of_heap b2 2;have c30:Vb.cell? ⟨N+3,0,none⟩=some (.int .i64 0):=Lib.cell_of_heap b3 0;clear h1 h2 k0 k1 k2 k3 c6;by_cases he:it.1=off
  .have hed:decide (it.1=off)=true:=aN6 he;have hfind:(zW s).find? (λit=>decide (it.1=off))=some it:=by
    rw[List.find?_eq_some_iff_getElem];obtain⟨hl,hg⟩:=aNl.1 hi;exact⟨hed,i,hl,hg,λj hj=>by
     have:=hR j _ hj (aNe (Nat.lt_trans hj hl));simpa using this⟩
   gi_wp2
   subst he;obtain⟨p1,p2,p3,p4⟩:=it;refine⟨⟨p1,p2,p3,⟨_,rfl⟩,?_,?_,?_⟩,?_⟩
   .exact(((((hbw.trans (hbV.mono pM)).setCell pO _).setCell pO _).setCell pO _).setCell pO _)
   .rw[Go.Deep.blk_setCell_other _ _ _ _ pO];exact CZ (CZ (CZ b2 0 _) 1 _) 2 _
   .refine CZ (arr:= #[.int .i64 0]) ?_ 0 (.int .i64 0);rw[Go.Deep.blk_setCell_other _ _ _ _ pO,Go.Deep.blk_setCell_other _ _ _ _ pO,Go.Deep.blk_setCell_other _ _ _ _ pO];exact b3
   intro D h1 h2;rw[Go.Deep.blk_setCell_other _ _ _ _ pP,Go.Deep.blk_setCell_other _ _ _ _ pP,Go.Deep.blk_setCell_other _ _ _ _ pP,Go.Deep.blk_setCell_other _ _ _ _ pP]
  have hed:decide (it.1=off)=false:=decide_eq_false he
  gi_wp2
  refine⟨Below.refl _ _,λj a b c d hj hg=>?_⟩;rcases aOi j i with h|h
  .exact hR j _ h hg
  obtain rfl:j=i:=by omega
  rw[hi] at hg;cases hg;exact he
 case done=>
  intro V hR hb hD;have hbV:Below (N+4) w V:=hsz▸hb;have b2:=(hbV.block (N+2) pM).trans k2;have b3:=(hbV.block (N+3) pM).trans k3;have f20:V.frozen? ⟨N+2,0,none⟩=false:=E1 b2 0;have f21:V.frozen? ⟨N+2,1,none⟩=false:=E1 b2 1;have f22:V.frozen? ⟨N+2,2,none⟩=false:=E1 b2 2;have f30:V.frozen? ⟨N+3,0,none⟩=false:=E1 b3 0;have c20:V.cell? ⟨N+2,0,none⟩=some (.int .i64 0):=Lib.cell_of_heap b2 0;have c21:V.cell? ⟨N+2,1,none⟩=some (.int .i64 0):=Lib.cell_of_heap b2 1;have c22:V.cell? ⟨N+2,2,none⟩=some (.int .i64 0):=Lib.cell_of_heap b2 2;have c30:V.cell? ⟨N+3,0,none⟩=some (.int .i64 0):=Lib.cell_of_heap b3 0;have hnone:(zW s).find? (λit=>decide (it.1=off))=none:=by
   rw[List.find?_eq_none];intro it hit;obtain⟨j,hj,rfl⟩:=aOC hit;simpa using hR j _ hj (aNe hj)
  have hat:HF s off=((0,0,0,()),2):=by unfold HF;rw[hnone]
  dsimp only;have hDV:V.heap[N+4]? =some (.deferred (some [])):=hsz▸hD;rw[hsz]
  gi_wp2
  have z2:=CZ (CZ (CZ b2 0 (.int .i64 0)) 1 (.int .i64 0)) 2 (.int .i64 0);have hfin:Below N W ((((V.setCell ⟨N+2,0,none⟩ (.int .i64 0)).setCell ⟨N+2,1,none⟩ (.int .i64 0)).setCell ⟨N+2,2,none⟩ (.int .i64 0)).setCell ⟨N+3,0,none⟩ (.int .i64 2)):=((((hbw.trans (hbV.mono (Nat.le_add_right _ _))).setCell (Nat.le_add_right N 2) _).setCell (Nat.le_add_right N 2) _).setCell (Nat.le_add_right N 2) _).setCell (Nat.le_add_right N 3) _;refine Iq (N:=N) (x:=0) (y:=0) (z:=0) (k:=2) rfl rfl ?_ ?_ ?_ ?_
  .rw[Go.Deep.blk_setCell_other _ _ _ _ pO,Go.Deep.blk_setCell_other _ _ _ _ pO,Go.Deep.blk_setCell_other _ _ _ _ pO,Go.Deep.blk_setCell_other _ _ _ _ pO];exact hDV
  .rw[Go.Deep.blk_setCell_other _ _ _ _ pO];exact z2
  .refine CZ (arr:= #[.int .i64 0]) ?_ 0 (.int .i64 2);rw[Go.Deep.blk_setCell_other _ _ _ _ pO,Go.Deep.blk_setCell_other _ _ _ _ pO,Go.Deep.blk_setCell_other _ _ _ _ pO];exact b3
  rw[hat];exact⟨by rw[hN];exact Ip hfin,rfl⟩
 case stop=>
  rintro V ⟨it,hf,hb,b2,b3⟩ hD;have hat:HF s off=(it,0):=by unfold HF;rw[hf]
  have c20:V.cell? ⟨N+2,0,none⟩=some (.int .i64 it.1):=Lib.cell_of_heap b2 0;have c21:V.cell? ⟨N+2,1,none⟩=some (.int .i64 it.2.1):=Lib.cell_of_heap b2 1;have c22:V.cell? ⟨N+2,2,none⟩=some (.int .i64 it.2.2.1):=Lib.cell_of_heap b2 2;have c30:V.cell? ⟨N+3,0,none⟩=some (.int .i64 0):=Lib.cell_of_heap b3 0;have hDV:V.heap[N+4]? =some (.deferred (some [])):=hsz▸hD;rw[hsz]
  gi_wp2
  refine Iq (N:=N) rfl rfl hDV b2 b3 ?_;rw[hat];exact⟨by rw[hN];exact Ip hb,rfl⟩
end
def cj (s:pI) (n:Int):W8×Int:=HF ⟨s.toArray⟩ n
@[go_sem] def sq:List qK->List qP->Option r8
 |[(.val .str O,none),(.val (.int .i64) a8,none)],[]=>some ⟨[List.length O<=4611686018427387904],[(.val (.pair (.int .i64) (.pair (.int .i64) (.pair (.int .i64) .unit))) (cj O a8).1,none),(.val (.int .i64) (cj O a8).2,none)],[]⟩
 |_,_=>none
theorem a9d:yV prog 147 sq:=by
 refine F1 (λ_ _=>rfl) λg w args vals L r hT ha hC hs=>?_;unfold sq at hC;split at hC
 .rename_i s n;cases hC;have h1:List.length s<=4611686018427387904:=hs _ aNq;obtain⟨va,_,rfl,ra,vb,_,rfl,rb,hv⟩:=ha;obtain rfl:=xO ra.1;obtain rfl:=vF rb.1;cases hv;refine⟨rfl,rfl,(a9c ⟨s.toArray⟩ (show s.toArray.size<=_ by rw[aN3];exact h1) n w).mono λe w' ⟨hb,he⟩=>⟨_,he,hb,?_⟩⟩;refine⟨[_,_],rfl,_,_,rfl,⟨.inl ⟨rfl,[_,_,_],rfl,[_],[_,_],rfl,rfl,[_],[_],rfl,rfl,[_],[],rfl,rfl,rfl⟩,trivial⟩,_,_,rfl,⟨wO _ _ _ _,trivial⟩,rfl⟩
 cases hC
end Go.Proofs.YtedimeeleabhnaaGreatDoor
namespace Go.Proofs.YtedimeeleabhnaaGreatDoor
open Vc Go.RowKit
end Go.Proofs.YtedimeeleabhnaaGreatDoor
namespace Go.Proofs.YtedimeeleabhnaaGreatDoor.Vc
open Go.RowKit
@[go_sem] def sr:pV->pX
  |some (i,_)=>[i]
  |none=>[]
@[go_sem] def Ir:Option (Nat×pS)->pX
  |some (_,l)=>fsts l
  |none=>[]
where
  fsts:pS->pX
    |[]=>[]
    |(i,_)::r=>i::fsts r
attribute [go_sem] Ir.fsts
@[go_sem] def idO:pW->pX
  |some i=>[i]
  |none=>[]
@[go_sem] def Is:pX->pX->pX
  |[],l=>l
  |a::r,l=>a::Is r l
@[go_sem] def RP:(t:Ty)->t.den->pX
  | .ref,x=>sr x
  | .clo,x=>Ir x
  | .mp,x=>idO x
  | .pair a b,x=>Is (RP a x.1) (RP b x.2)
  | .rl _ _,x=>sr x
  | .mref,x=>sr x
  | .list _,_=>[]
  | .bool,_=>[]
  | .int _,_=>[]
  | .str,_=>[]
  | .unit,_=>[]
  | .fn,_=>[]
  | .part,_=>[]
@[go_sem] def su:pX->pX->pS->pS
  |a::r,b::s,l=>(a,b)::su r s l
  |_,_,l=>l
@[go_sem] def sw:pW->pW->pS->pS
  |some a,some b,l=>(a,b)::l
  |_,_,l=>l
@[go_sem] def sz (l:pS):qK->qK->pS
  |(.own k _,_),(.own j _,_)=>(k,j)::l
  |(.val t x,a),(.val u y,b)=>sw a b (su (RP t x) (RP u y) l)
  |(.val t x,a),(.own j _,_)=>sw a (some j) l
  |_,_=>l
@[go_sem] def It (l:pS):pS->pS->pS
  |[],_=>l
  |(q,a)::r,s=>sw (some a) (xC s q) (It l r s)
@[go_sem] def a9f (l:pS):Option qP->Option qP->pS
  |some (.cells t x a),some (.cells u y b)=>It (su (RP t x) (RP u y) l) a b
  |_,_=>l
@[go_sem] def ta (n:Nat):pS->Bool
  |[]=>false
  |(a,_)::r=>if a=n then true else ta n r
@[go_sem] def tc:Bool->pS->pS->pS
  |true,l,_=>l
  |false,_,l=>l
@[go_sem] def td (H J:List (Nat×qP)):Nat->pS->pS->pS
  |0,_,d=>d
  |_+1,[],d=>d
  |f+1,(a,b)::r,d=>td H J f (tc (ta a d) r (a9f r (qT H a) (qT J b))) (tc (ta a d) d ((a,b)::d))
@[go_sem] def Iu (e:List (Nat×qK)):List (Nat×qK)->pS
  |[]=>[]
  |(t,s)::r=>sz (Iu e r) s (lk e t)
@[go_sem] def ck (np:Nat) (l:pS):List (Nat×qP)->pS
  |[]=>l
  |(i,_)::r=>tc (decide (i<np)) ((i,i)::ck np l r) (ck np l r)
@[go_sem] def W9 (m:pS):List (Nat×qP)->pS
  |[]=>[]
  |(i,_)::r=>idsZ1 i (look i m) (W9 m r)
where
  look (i:Nat):pS->pW
    |[]=>none
    |(a,b)::r=>if a=i then some b else look i r
  idsZ1 (i:Nat):pW->pS->pS
    |some j,l=>(i,j)::l
    |none,l=>l
attribute [go_sem] W9.look W9.idsZ1
@[go_sem] def Iv:List (Nat×qK)->pX
  |[]=>[]
  |(t,_)::r=>t::Iv r
@[go_sem] def a9g (s s':St):tX:=⟨Iv s'.env,W9 (td s'.H s.H 200 (ck s.np (Iu s.env s'.env) s'.H) []) s'.H⟩
@[go_sem] def cm (T:sH) (s:St):List (Nat×Option TypeId)->List qK->pS->pS
  |(t,none)::r,x::y,l=>sz (cm T s r y l) x (lk s.env t)
  |(t,some u)::r,x::y,l=>sz (cm T s r y l) x (sOf (qw (VZ s.H (s0 T u) (lk s.env t))))
  |_,_,l=>l
where
  sOf:Option qK->qK
    |some x=>x
    |none=>(.any,none)
attribute [go_sem] cm.sOf
@[go_sem] def Iw (T:sH) (ts:List (Nat×Option TypeId)) (q:r8) (s:St):pS:=
  W9 (td (sZ 0 q.H) s.H 200 (ck s.np (cm T s ts q.ret []) (sZ 0 q.H)) []) (sZ 0 q.H)
def Gl {α:Type}(x r:α) (G:Prop):Prop:=x=r->G
section
variable {ρ:Type}{r:ρ}{G:Prop}
theorem a9h {p:Prop}[Decidable p] {x:Option ρ}{r:Option ρ}(hr:r.isSome=true) (h:p->Gl x r G):Gl (if p then x else none) r G:=by
  intro e;split at e
  .rename_i hp;exact h hp e
  subst e;cases hr
theorem a9i {σ:Type}[Inhabited σ] {y:Option σ}{k:σ->Option ρ}{r:ρ}(h: ∀v,y.isSome=true->val y=v->Gl (k v) (some r) G):Gl (y.bind k) (some r) G:=by
  intro e;obtain⟨v,h1,h2,h3⟩:=xR e;exact h v (xQ h1) h2 h3
theorem a9j {σ:Type}[Inhabited σ] {y:Option σ}{k:σ->Option ρ}{z:ρ}{u:σ}(hw:val y=u) (h:y.isSome=true->Gl (k u) (some z) G):Gl (y.bind k) (some z) G:=λe=>by
  obtain⟨v,h1,h2,h3⟩:=xR e;subst hw;exact h (xQ h1) (h2▸h3)
theorem a9k {α σ:Type}{y:σ}{k:σ->α}{r:α}(h: ∀v,y=v->Gl (k v) r G):Gl (VY y k) r G:=λe=>h y rfl e
theorem a9l {r:ρ}:Gl none (some r) G:=λe=>by cases e
def E5 {σ τ α:Type}(f:σ->α) (g:τ->α):σ⊕τ->α
  | .inl v=>f v
  | .inr v=>g v
theorem a9m {σ:Type}{x:Option (σ⊕ρ)}{k:σ->Option ρ}{r:Option ρ}(h:Gl (rA x (E5 k some)) r G):Gl (sK x k) r G:=λe=>h (e▸(by
  cases x with
  |none=>rfl
  |some v=>cases v<;>rfl))
theorem a9n {σ τ α:Type}{f:σ->α}{g:τ->α}{v:σ}{r:α}(h:Gl (f v) r G):Gl (E5 f g (.inl v)) r G:=h
theorem a9o {σ τ α:Type}{f:σ->α}{g:τ->α}{v:τ}{r:α}(h:Gl (g v) r G):Gl (E5 f g (.inr v)) r G:=h
theorem a9p {σ:Type}{v:σ}{k:σ->Option ρ}{r:Option ρ}(h:Gl (k v) r G):Gl (rA (some v) k) r G:=h
theorem cn {σ:Type}{c:Prop}[Decidable c] {x y:Option σ}{k:σ->Option ρ}{r:Option ρ}(h:Gl (if c then rA x k else rA y k) r G):Gl (rA (if c then x else y) k) r G:=by
  intro e;apply h;split at e<;>(rename_i hc;simp only[hc,aOc,aOh];exact e)
theorem a9q {σ:Type}{c:Prop}[Decidable c] {x:Option σ}{k:σ->Option ρ}{r:Option ρ}(h:Gl (if c then rA x k else none) r G):Gl (rA (if c then x else none) k) r G:=cn h
theorem a9r {σ:Type}{k:σ->Option ρ}{r:ρ}:Gl (rA none k) (some r) G:=λe=>by cases e
theorem a9s {σ τ:Type}{y:Option τ}{j:τ->Option σ}{k:σ->Option ρ}{r:Option ρ}(h:Gl (y.bind λv=>rA (j v) k) r G):Gl (rA (y.bind j) k) r G:=by
  intro e;apply h;cases y with
  |none=>exact e
  |some v=>exact e
theorem a9t {σ τ:Type}{y:Option τ}{j:τ->Option σ}{k:σ->Option ρ}{r:Option ρ}(h:Gl (rA y λv=>rA (j v) k) r G):Gl (rA (rA y j) k) r G:=by
  intro e;apply h;cases y with
  |none=>exact e
  |some v=>exact e
theorem a9u {σ τ:Type}{y:τ}{j:τ->Option σ}{k:σ->Option ρ}{r:Option ρ}(h:Gl (VY y λv=>rA (j v) k) r G):Gl (rA (VY y j) k) r G:=h
theorem a9v {σ τ:Type}{y:Option (τ⊕σ)}{j:τ->Option σ}{k:σ->Option ρ}{r:Option ρ}(h:Gl (rA y (E5 (λv=>rA (j v) k) k)) r G):Gl (rA (sK y j) k) r G:=λe=>h (e▸(by
  cases y with
  |none=>rfl
  |some v=>cases v<;>rfl))
end
section
variable {P:Program}{T:sH}{Γ:tS}{R:Bool}{s:St}{Q:Ex->St->Prop}{α ρ:Type}{r x:α}
theorem a9w {c y:Code}(h:Gl x r (Ev R P c s (H1 (λs'=>Ev R P y s' Q) Q))):Gl x r (Ev R P (.seq c y) s Q):=λe=>tF (h e)
theorem a9x {id:Nat}{c:Code}(h:Gl x r (Ev R P c s (DO id Q))):Gl x r (Ev R P (.block id c) s Q):=λe=>vL (h e)
theorem a9y (h:Gl x r (Q .normal s)):Gl x r (Ev R P .skip s Q):=λe=>uW (h e)
theorem a9z {l:Nat}(h:Gl x r (Q .normal s)):Gl x r (Ev R P (.label l) s Q):=λe=>a71 (h e)
theorem a9A {c:Code}(h:Gl x r (Ev false P c s Q)):Gl x r (Ev false P (.scope c) s Q):=λe=>a74 (h e)
theorem a9B {id:Nat}(h:Gl x r (Q (.exit id) s)):Gl x r (Ev R P (.exit id) s Q):=λe=>B7 (h e)
theorem a9C (h:Gl x r (Q .ret s)):Gl x r (Ev R P .ret s Q):=λe=>B8 (h e)
def Iy (s:St) (c:Operand) (b':Bool):Prop:= ∃b k,tC s.env c=(.val .bool b,k)/\b=b'
theorem a9D {c:Operand}{b b':Bool}{k:pW}(h:tC s.env c=(.val .bool b,k)) (hb:b=b'):Iy s c b':=⟨b,k,h,hb⟩
theorem a9E {c:Operand}{y z:Code}{b':Bool}{X Y:α}(h:Iy s c b') (ht:b'=true->Gl X r (Ev R P y s Q)) (hf:b'=false->Gl Y r (Ev R P z s Q)):Gl (if b'=true then X else Y) r (Ev R P (.cond c y z) s Q):=by
  intro e;obtain⟨b,k,h,hb⟩:=h;exact Hk h (λh1=>ht (hb▸h1) (Hs e (hb▸h1))) (λh1=>hf (hb▸h1) (Ht e (hb▸h1)))
theorem a9F {c:Operand}{y z:Code}{p q:Prop}{k:pW}(ht:p->Gl x r (Ev R P y s Q)) (hf:q->Gl x r (Ev R P z s Q))
    (h:tC s.env c=(.flag p q,k):=by simp only[go_sem];rfl):Gl x r (Ev R P (.cond c y z) s Q):=λe=>a73 h (λh1=>ht h1 e) (λh1=>hf h1 e)
theorem tf {p:Prop}[Decidable p] {X Y:α}{G:Prop}(ht:p->Gl X r G) (hf: ¬p->Gl Y r G):Gl (if p then X else Y) r G:=by
  intro e;split at e
  .rename_i h;exact ht h e
  rename_i h;exact hf h e
structure CJ (l:List Prop):Prop where
  h:uU l
theorem Iz:CJ []:=⟨trivial⟩
theorem Ja {p:Prop}(h:p):CJ [p]:=⟨h⟩
theorem Jb {p q:Prop}{l:List Prop}(h:p) (h2:CJ (q::l)):CJ (p::q::l):=⟨h,h2.h⟩
theorem MK (E:vP P T Γ) {id:Nat}{ops:Array Oper}{a:uM}{y:Code}(h:tP T Γ ops.toList ops.toList (some ⟨s,[],[]⟩)=some a) (hp:CJ a.side) (hq:Gl x r (Ev R P y a.s Q)):Gl x r (Ev R P (.seq (.region id ops false) y) s Q):=
  λe=>tF (ca E h hp.h (hq e))
theorem ML (E:vP P T Γ) {id:Nat}{ops:Array Oper}{a:uM}{y:Code}(h:tP T Γ ops.toList ops.toList (some ⟨s,[],[]⟩)=some a) (hp:CJ a.side) (hf:J6 ops s.nb a.es.reverse=true) (hq:Gl x r (Ev R P y a.s Q)):Gl x r (Ev R P (.seq (.region id ops true) y) s Q):=
  λe=>tF (qv E h hf hp.h (hq e))
theorem MM (E:vP P T Γ) {id:Nat}{ops:Array Oper}{a:uM}(h:tP T Γ ops.toList ops.toList (some ⟨s,[],[]⟩)=some a) (hp:CJ a.side) (hq:Gl x r (Q .normal a.s)):Gl x r (Ev R P (.region id ops false) s Q):=
  λe=>ca E h hp.h (hq e)
theorem MN (E:vP P T Γ) {id:Nat}{ops:Array Oper}{a:uM}(h:tP T Γ ops.toList ops.toList (some ⟨s,[],[]⟩)=some a) (hp:CJ a.side) (hf:J6 ops s.nb a.es.reverse=true) (hq:Gl x r (Q .normal a.s)):Gl x r (Ev R P (.region id ops true) s Q):=
  λe=>qv E h hf hp.h (hq e)
theorem RQ {c:Code}(k:Nat) {e:TypeId}{t:Ty}{l:List t.den}{n:Nat}(hk:qT s.H k=some (.row e t l n)) (hok:VW k n s.env)
    (h:Gl x r (Ev R P c ⟨MC k t l s.env,(k,.grow e t.cells (List.length l))::s.H,s.nb,s.N,s.np⟩ Q)):Gl x r (Ev R P c s Q):=λe=>Ho k hk hok (h e)
theorem a9G (i:Nat) {k:Nat}{o:pW}{e:TypeId}{t:Ty}{l:List t.den}{n m:Nat}(h0:lk s.env i=(.own k m,o)) (hk:qT s.H k=some (.row e t l n)) (hok:VW k n s.env)
    (h:Gl x r (Ev R P .ret ⟨MC k t l s.env,(k,.grow e t.cells (List.length l))::s.H,s.nb,s.N,s.np⟩ Q)):Gl x r (Ev R P .ret s Q):=λe=>Ho k hk hok (h e)
theorem a9H {f:St->Prop}(h:Gl x r (f s)):Gl x r (H1 f Q .normal s):=h
theorem a9I {f:St->Prop}{j:Nat}(h:Gl x r (Q (.exit j) s)):Gl x r (H1 f Q (.exit j) s):=h
theorem a9J {f:St->Prop}(h:Gl x r (Q .ret s)):Gl x r (H1 f Q .ret s):=h
theorem a9K {id:Nat}(h:Gl x r (Q .normal s)):Gl x r (DO id Q .normal s):=h
theorem a9L {id:Nat}(h:Gl x r (Q .normal s)):Gl x r (DO id Q (.exit id) s):=λe=>B6 (h e)
theorem a9M {id j:Nat}(h:Gl x r (Q (.exit j) s)) (hne:Nat.beq j id=false):Gl x r (DO id Q (.exit j) s):=λe=>a7X (Nat.ne_of_beq_eq_false hne) (h e)
theorem a9N {id:Nat}(h:Gl x r (Q .ret s)):Gl x r (DO id Q .ret s):=h
end
section
variable {P:Program}{T:sH}{R:Bool}{s:St}{Q:Ex->St->Prop}{σ τ ρ:Type}{r:ρ}
theorem a9O {c:Prop}[Decidable c] {X Y:Option σ}{k:σ->Option ρ}{o:Operand}{y z:Code}{r:Option ρ}(h:Gl (if c then rA X k else rA Y k) r (Ev R P (.cond o y z) s Q)):Gl (rA (if c then X else Y) k) r (Ev R P (.cond o y z) s Q):=cn h
def qR (enc:σ->St) (w:σ⊕τ) (K:τ->Option ρ) (r:ρ) (Q:Ex->St->Prop):Ex->St->Prop
  | .normal,s=> ∃(k:tX) (x:σ),s.keep k=enc x/\w= .inl x
  | .exit j,s=> ∃y,w= .inr y/\Gl (K y) (some r) (Q (.exit j) s)
  | .ret,s=> ∃y,w= .inr y/\Gl (K y) (some r) (Q .ret s)
structure LE {σ τ:Type}(f:σ->Option (σ⊕τ)) where
  e:σ->St
structure JE (n:Nat) (σ:Type) where
  e:σ->St
structure XE {σ τ:Type}(f:σ->Option (σ⊕τ)) (n:Nat) (υ:Type) where
  e:υ->St
theorem MO {f:σ->Option (σ⊕τ)}{x0:σ}{K:τ->Option ρ}{c:Code}(l:LE f) (h0: ∃k:tX,s.keep k=l.e x0)
    (round: ∀x w g s',f x=g->l.e x=s'->Gl g (some w) (Ev R P c s' (qR l.e w K r Q))):Gl (rA (rC f x0) K) (some r) (Ev R P (.loop c) s Q):=by
  intro e;obtain⟨y,hy,hk⟩:=qI e;obtain⟨k,h0⟩:=h0;refine B9 hy l.e k h0 λx w n hf hN=>?_;refine MB (round x w _ _ rfl rfl hf) λex s' hq=>?_;cases ex with
  |normal=>obtain⟨k,x',h1,rfl⟩:=hq;exact⟨k,x',h1,hN⟩
  |exit j=>obtain⟨y',rfl,h1⟩:=hq;have:y'=y:=hN;subst this;exact h1 hk
  |ret=>obtain⟨y',rfl,h1⟩:=hq;have:y'=y:=hN;subst this;exact h1 hk
theorem RR {f:σ->Option (σ⊕ρ)}{x0:σ}{c:Code}(l:LE f) (h0: ∃k:tX,s.keep k=l.e x0)
    (round: ∀x w g s',f x=g->l.e x=s'->Gl g (some w) (Ev R P c s' (qR l.e w some r Q))):Gl (rC f x0) (some r) (Ev R P (.loop c) s Q):=λe=>MO l h0 round (by rw[e];rfl)
theorem D0 {s s':St}{k:tX}(hk:a9g s s'=k:=by simp (zetaDelta:=true) only[go_sem];rfl) (h:s.keep k=s':=by rfl): ∃k:tX,s.keep k=s':=⟨k,h⟩
theorem a9P {enc:σ->St}{w:σ⊕τ}{K:τ->Option ρ}{x':σ}(h: ∃k:tX,s.keep k=enc x'):Gl (some (.inl x')) (some w) (qR enc w K r Q .normal s):=λe=>h.elim λk h=>⟨k,x',h,(aNa e).symm⟩
theorem a9Q {enc:σ->St}{w:σ⊕τ}{K:τ->Option ρ}{y:τ}{j:Nat}(h:Gl (K y) (some r) (Q (.exit j) s)):Gl (some (.inr y)) (some w) (qR enc w K r Q (.exit j) s):=λe=>⟨y,(aNa e).symm,h⟩
theorem a9R {enc:σ->St}{w:σ⊕τ}{K:τ->Option ρ}{y:τ}(h:Gl (K y) (some r) (Q .ret s)):Gl (some (.inr y)) (some w) (qR enc w K r Q .ret s):=λe=>⟨y,(aNa e).symm,h⟩
def RS {υ ρ:Type}(enc:υ->St) (w:υ⊕ρ) (s:St):Prop:= ∃v,w= .inl v/\∃k:tX,s.keep k=enc v
def RT (enc:σ->St) (w:σ) (s:St):Prop:= ∃k:tX,s.keep k=enc w
def qJ (N:σ->St->Prop) (w:σ) (K:σ->Option ρ) (r:ρ) (Q:Ex->St->Prop):Ex->St->Prop
  | .normal,s=>N w s
  | .exit j,s=>Gl (K w) (some r) (Q (.exit j) s)
  | .ret,s=>Gl (K w) (some r) (Q .ret s)
theorem a9S {enc:σ->St}{w x':σ}{K:σ->Option ρ}(h: ∃k:tX,s.keep k=enc x'):Gl (some x') (some w) (qJ (RT enc) w K r Q .normal s):=λe=>by cases e;exact h
theorem a9T {υ:Type}{enc:υ->St}{w:υ⊕ρ}{x':υ}{K:υ⊕ρ->Option ρ}(h: ∃k:tX,s.keep k=enc x'):Gl (some (.inl x')) (some w) (qJ (RS enc) w K r Q .normal s):=λe=>by cases e;exact⟨x',rfl,h⟩
theorem a9U {N:σ->St->Prop}{w x':σ}{K:σ->Option ρ}{j:Nat}(h:Gl (K x') (some r) (Q (.exit j) s)):Gl (some x') (some w) (qJ N w K r Q (.exit j) s):=λe=>by cases e;exact h
theorem a9V {N:σ->St->Prop}{w x':σ}{K:σ->Option ρ}(h:Gl (K x') (some r) (Q .ret s)):Gl (some x') (some w) (qJ N w K r Q .ret s):=λe=>by cases e;exact h
theorem Jc {c:Code}{X:Option σ}{K:σ->Option ρ}(enc:σ->St) (seg: ∀w,Gl X (some w) (Ev R P c s (qJ (RT enc) w K r Q)))
    (next: ∀x s' g,enc x=s'->K x=g->Gl g (some r) (Q .normal s')):Gl (rA X K) (some r) (Ev R P c s Q):=by
  intro e;obtain⟨y,h1,h2⟩:=qI e;refine RG (λs'=>s'=enc y) (MB (seg y h1) λex s' hq=>?_) λs' hs=>next y s' _ hs.symm rfl h2
  cases ex with
  |normal=>exact hq
  |exit j=>exact hq h2
  |ret=>exact hq h2
theorem Jd {υ:Type}{c:Code}{X:Option (υ⊕ρ)}{K:υ->Option ρ}(enc:υ->St) (seg: ∀w,Gl X (some w) (Ev R P c s (qJ (RS enc) w (E5 K some) r Q)))
    (next: ∀x s' g,enc x=s'->K x=g->Gl g (some r) (Q .normal s')):Gl (rA X (E5 K some)) (some r) (Ev R P c s Q):=by
  intro e;obtain⟨y,h1,h2⟩:=qI e;refine RG (λs'=> ∃v,y= .inl v/\s'=enc v) (MB (seg y h1) λex s' hq=>?_) λs' ⟨v,hv,hs⟩=>next v s' _ hs.symm rfl (by subst hv;exact h2)
  cases ex with
  |normal=>obtain⟨v,h1,k,h2⟩:=hq;exact⟨k,v,h1,h2⟩
  |exit j=>exact hq h2
  |ret=>exact hq h2
theorem co {n:Nat}{y z:Code}{X:Option σ}{K:σ->Option ρ}(j:JE n σ) (seg: ∀w,Gl X (some w) (Ev R P (.cond (.tmp n) y z) s (qJ (RT j.e) w K r Q)))
    (next: ∀x s' g,j.e x=s'->K x=g->Gl g (some r) (Q .normal s')):Gl (rA X K) (some r) (Ev R P (.cond (.tmp n) y z) s Q):=Jc j.e seg next
theorem cq {n:Nat}{y:Code}{X:Option σ}{K:σ->Option ρ}(j:JE n σ) (seg: ∀w,Gl X (some w) (Ev R P (.block n y) s (qJ (RT j.e) w K r Q)))
    (next: ∀x s' g,j.e x=s'->K x=g->Gl g (some r) (Q .normal s')):Gl (rA X K) (some r) (Ev R P (.block n y) s Q):=Jc j.e seg next
theorem cr {n:Nat}{υ:Type}{y z:Code}{X:Option (υ⊕ρ)}{K:υ->Option ρ}(j:JE n υ) (seg: ∀w,Gl X (some w) (Ev R P (.cond (.tmp n) y z) s (qJ (RS j.e) w (E5 K some) r Q)))
    (next: ∀x s' g,j.e x=s'->K x=g->Gl g (some r) (Q .normal s')):Gl (rA X (E5 K some)) (some r) (Ev R P (.cond (.tmp n) y z) s Q):=Jd j.e seg next
theorem ct {n:Nat}{υ:Type}{y:Code}{X:Option (υ⊕ρ)}{K:υ->Option ρ}(j:JE n υ) (seg: ∀w,Gl X (some w) (Ev R P (.block n y) s (qJ (RS j.e) w (E5 K some) r Q)))
    (next: ∀x s' g,j.e x=s'->K x=g->Gl g (some r) (Q .normal s')):Gl (rA X (E5 K some)) (some r) (Ev R P (.block n y) s Q):=Jd j.e seg next
def qY (n:Nat) (N:τ->St->Prop) (w:τ) (K:τ->Option ρ) (r:ρ) (Q:Ex->St->Prop):Ex->St->Prop
  | .normal,_=>False
  | .exit j,s=>(j=n/\N w s)\/(j≠n/\Gl (K w) (some r) (Q (.exit j) s))
  | .ret,s=>Gl (K w) (some r) (Q .ret s)
theorem a9W {n:Nat}{enc:τ->St}{w x':τ}{K:τ->Option ρ}(h: ∃k:tX,s.keep k=enc x'):Gl (some x') (some w) (qY n (RT enc) w K r Q (.exit n) s):=λe=>by cases e;exact .inl ⟨rfl,h⟩
theorem a9X {n:Nat}{υ:Type}{enc:υ->St}{w:υ⊕ρ}{x':υ}{K:υ⊕ρ->Option ρ}(h: ∃k:tX,s.keep k=enc x'):Gl (some (.inl x')) (some w) (qY n (RS enc) w K r Q (.exit n) s):=λe=>by cases e;exact .inl ⟨rfl,x',rfl,h⟩
theorem a9Y {n j:Nat}{N:τ->St->Prop}{w x':τ}{K:τ->Option ρ}(hne:Nat.beq j n=false) (h:Gl (K x') (some r) (Q (.exit j) s)):Gl (some x') (some w) (qY n N w K r Q (.exit j) s):=λe=>by cases e;exact .inr ⟨Nat.ne_of_beq_eq_false hne,h⟩
theorem a9Z {n:Nat}{N:τ->St->Prop}{w x':τ}{K:τ->Option ρ}(h:Gl (K x') (some r) (Q .ret s)):Gl (some x') (some w) (qY n N w K r Q .ret s):=λe=>by cases e;exact h
theorem cz {f:σ->Option (σ⊕τ)}{x0:σ}{K:τ->Option ρ}{c:Code}{n:Nat}(x:XE f n τ) (lp: ∀w,Gl (rC f x0) (some w) (Ev R P (.loop c) s (qY n (RT x.e) w K r Q)))
    (next: ∀v s' g,x.e v=s'->K v=g->Gl g (some r) (Q (.exit n) s')):Gl (rA (rC f x0) K) (some r) (Ev R P (.loop c) s Q):=by
  intro e;obtain⟨y,h1,h2⟩:=qI e;refine AC n (λs'=>s'=x.e y) (MB (lp y h1) λex s' hq=>?_) λs' hs=>next y s' _ hs.symm rfl h2
  cases ex with
  |normal=>exact hq.elim
  | exit j=>
    rcases hq with⟨rfl,h⟩ |⟨h,h'⟩
    .exact AD h
    .exact Hr h (h' h2)
  |ret=>exact hq h2
theorem da {υ:Type}{f:σ->Option (σ⊕(υ⊕ρ))}{x0:σ}{K:υ->Option ρ}{c:Code}{n:Nat}(x:XE f n υ) (lp: ∀w,Gl (rC f x0) (some w) (Ev R P (.loop c) s (qY n (RS x.e) w (E5 K some) r Q)))
    (next: ∀v s' g,x.e v=s'->K v=g->Gl g (some r) (Q (.exit n) s')):Gl (rA (rC f x0) (E5 K some)) (some r) (Ev R P (.loop c) s Q):=by
  intro e;obtain⟨y,h1,h2⟩:=qI e;refine AC n (λs'=> ∃v,y= .inl v/\s'=x.e v) (MB (lp y h1) λex s' hq=>?_) λs' ⟨v,hv,hs⟩=>next v s' _ hs.symm rfl (by subst hv;exact h2)
  cases ex with
  |normal=>exact hq.elim
  | exit j=>
    rcases hq with⟨rfl,v,h1,k,h2⟩ |⟨h,h'⟩
    .exact AD ⟨k,v,h1,h2⟩
    .exact Hr h (h' h2)
  |ret=>exact hq h2
section
variable {α:Type}{x z:α}
theorem a90 {c:Code}(h:Gl x z (Ev R P (.loop c) s Q)):Gl x z (Ev R P (.loop c) s Q):=h
theorem a91 {c:Operand}{y u:Code}{X:Option σ}{K:σ->Option ρ}{z:Option ρ}(h:Gl (rA X K) z (Ev R P (.cond c y u) s Q)):Gl (rA X K) z (Ev R P (.cond c y u) s Q):=h
theorem a92 {n:Nat}{y:Code}{X:Option σ}{K:σ->Option ρ}{z:Option ρ}(h:Gl (rA X K) z (Ev R P (.block n y) s Q)):Gl (rA X K) z (Ev R P (.block n y) s Q):=h
theorem a93 {c:Operand}{y u:Code}(h:Gl x z (Ev R P (.cond c y u) s Q)):Gl x z (Ev R P (.cond c y u) s Q):=h
theorem a94 {id:Nat}{ops:Array Oper}{b:Bool}{y:Code}(h:Gl x z (Ev R P (.seq (.region id ops b) y) s Q)):Gl x z (Ev R P (.seq (.region id ops b) y) s Q):=h
theorem a95 {id:Nat}{ops:Array Oper}{b:Bool}(h:Gl x z (Ev R P (.region id ops b) s Q)):Gl x z (Ev R P (.region id ops b) s Q):=h
theorem a96 (h:Gl x z (Ev R P .ret s Q)):Gl x z (Ev R P .ret s Q):=h
theorem a97 {ts:List (Nat×Option TypeId)}{q:r8}{e:Ex}(h:Gl x z (ME T ts q e s)):Gl x z (ME T ts q e s):=h
end
theorem a98 {ts:List (Nat×Option TypeId)}{q:r8}{m:pS}(hm:Iw T ts q s=m) (h1:vI s.np m=true) (h2:CX (w4 q.H) 0 (s.keep ⟨[],m⟩).H=sZ 0 q.H) (h3:FT T s m ts=some q.ret):ME T ts q .ret s:=⟨m,h1,h2,h3⟩
theorem a99 {ts:List (Nat×Option TypeId)}{q:r8}{m:pS}(hm:Iw T ts q s=m) (h1:vI s.np m=true) (h2:CX (w4 q.H) 0 (s.keep ⟨[],m⟩).H=sZ 0 q.H) (h3:FT T s m ts=some q.ret):ME T ts q .normal s:=⟨m,h1,h2,h3⟩
end
abbrev sv (t:Ty) (x:t.den):qK:=(.val t x,none)
abbrev iv (x:Int):qK:=(.val (.int .i64) x,none)
abbrev tv (x:pI):qK:=(.val .str x,none)
theorem a3F {p q:Prop}(a:p) (b:q):p/\q:=⟨a,b⟩
abbrev rs (i o:Nat):qK:=(.val .ref (some (i,o)),none)
abbrev bv (x:Bool):qK:=(.val .bool x,none)
@[go_sem] def rv {ρ:Type}[Inhabited ρ] (l:List Prop) (x:Option ρ) (k:ρ->List qK×List qP):r8:=⟨rJ l [x.isSome=true],(k (val x)).1,(k (val x)).2⟩
@[reducible,go_sem] noncomputable def mE (n:Nat) (ps:List PK) {V:Type}(p:V->List qK) (q:V->List qP) (R:V->r8) (gs:List (Nat×Nat×PK):=[]) (same:pX:=[]):Nat×r7:=(n,⟨ps,DZ p q R,gs,same,none⟩)
theorem uX {P:Program}{f:FuncId}{V:Type}{p:V->List qK}{q:V->List qP}{R:V->r8}{ps:List PK}{gs:List (Nat×Nat×PK)}{same:pX}(h: ∀v,¬uU (R v).side:=by
  (repeat (refine Prod.forall.2 λa=>?_));intro v hz;simp only[go_sem] at hz
  first|exact aOH hz|exact aOH hz.2|exact aOH hz.2.2|exact aOH hz.2.2.2|exact aOH hz.2.2.2.2) (hcall: ∀args w,(callFunc f args).run P w= .ok (.enter f args) w:=by intros;rfl):qW P (f,⟨ps,DZ p q R,gs,same,none⟩):=a8J hcall h
theorem yJ {p:Prop}(h:p:=by repeat' (first|exact trivial|apply And.intro|kernel_rfl|exact rfl)):p:=h
theorem C1 {p:Prop}(h:p:=by exact⟨qA,(show _/\_/\_ from⟨qA,qA,qA⟩)⟩):p:=h
abbrev qU {V:Type}(_:V):List qP:=[]
theorem rF {V:Type}(p:V->List qK) (q:V->List qP) (R:V->r8) (v:V) (inj: ∀v v',p v=p v'->q v=q v'->v=v':=by
  (repeat (refine Prod.forall.2 λa=>?_));intro a
  (repeat (refine Prod.forall.2 λb=>?_));intro b h1 h2
  cases h1;cases h2;rfl):DZ p q R (no_index (p v)) (no_index (q v))=some (R v):=qx inj v
theorem rG {P:Program}:vX P []:=trivial
theorem qO {P:Program}{x:Nat×TI}{l:sH}(h:sY P x.1 x.2) (hl:vX P l):vX P (x::l):=⟨h,hl⟩
theorem rI {P:Program}{T:sH}{Γ:tS}(hE:vP P T Γ) {f:FuncId}{fn:Func}{c:Code}{V:Type}{p:V->List qK}{q:V->List qP}{R:V->r8}{ps:List PK}{gs:List (Nat×Nat×PK)}{same:pX}(hf:P.funcs[f]? =some fn) (N:Nat) (ts:List (Nat×Option TypeId)) (hb:fn.body=some c)
    (h:vP P T Γ->∀v,uU (R v).side->BX (q v)->Ev false P c ⟨BW 0 (p v),sZ 0 (q v),w4 (q v),N,w4 (q v)⟩ (ME T ts (R v))) (hN:fn.ntmps=N:=by kernel_rfl)
    (hres:fn.results.toList=ts.map C0:=by rfl) (hcall: ∀args w,(callFunc f args).run P w= .ok (.enter f args) w:=by intros;rfl)
    (h1: ∀v,Nat.ble (p v).length N=true:=by intro _;rfl)
    (h2: ∀v,RD (vK 0 (q v)) (p v):=by intro _;repeat (first|exact trivial|refine ⟨rfl,?_⟩))
    (h3: ∀v,RE (vK 0 (q v)) (q v):=by intro _;repeat (first|exact trivial|refine ⟨rfl,?_⟩)):qW P (f,⟨ps,DZ p q R,gs,same,none⟩):=MF hE hf hb hN hres hcall (h hE) h1 h2 h3
theorem AH {a b:Option uM}(h:a=b:=by simp only[go_sem,W];rfl):a=b:=h
theorem E6 {a b:Option uM}(h:a=b:=by simp (zetaDelta:=true) only[go_sem,W];rfl):a=b:=h
theorem AI {l:List Prop}(h:CJ l:=by(repeat' first|exact Iz|refine Jb ?_ ?_ |refine Ja ?_ |with_reducible assumption|with_reducible exact rfl|with_reducible exact λhh=>hh|exact RH|exact BZ|exact bz|exact Hv|exact Hu|exact λ_=>RH|exact λ_=>BZ|exact trivial|assumption|exact rfl|exact λhh=>hh|exact λ_=>rfl|exact λ_=>trivial|(intro hh;assumption) |decide);fail_if_success refine id ?_):CJ l:=h
theorem E7 {l:List Prop}(h:CJ l:=by(repeat' first|exact Iz|refine Jb ?_ ?_ |refine Ja ?_ |with_reducible assumption|with_reducible exact rfl|with_reducible exact λhh=>hh|exact RH|exact BZ|exact bz|exact Hv|exact Hu|exact λ_=>RH|exact λ_=>BZ|exact trivial|assumption|exact rfl|exact λhh=>hh|exact λ_=>rfl|exact λ_=>trivial|(intro hh;assumption) |exact Bool.eq_false_iff.2 hG|exact Bool.of_not_eq_false (λhh=>hG (by rw[hh];rfl)) |exact Bool.of_not_eq_true (λhh=>hG (by rw[hh];rfl)) |simpa using hG|simpa[uU] using hG|exact(λhF=>Bool.of_not_eq_false (λhh=>hG (by rw[hF,hh];rfl))) |exact(λhF=>Bool.of_not_eq_true (λhh=>hG (by rw[hF,hh];rfl))) |simp_all|decide);fail_if_success refine id ?_):CJ l:=h
theorem MP {p:Prop}(h:p:=by repeat' (first|exact trivial|apply And.intro|exact(λ_=>rfl) |exact(λh=>absurd h pN))):p:=h
theorem Je {a b:pS}(h:a=b:=by simp (zetaDelta:=true) only[go_sem,sZ];rfl):a=b:=h
theorem Jf {p:Prop}(h:p:=by
 have W:val (some ())=():=rfl
 repeat' first
  |with_reducible exact a9l
  |with_reducible exact a9r
  |with_reducible refine a9n ?_
  |with_reducible refine a9o ?_
  |with_reducible refine a9p ?_
  |with_reducible refine a9m ?_
  |with_reducible refine a9v ?_
  |with_reducible refine a9t ?_
  |((with_reducible refine a91 ?_);(first|refine cr (j1 ..) ?_ ?_ |refine co (j1 ..) ?_ ?_ |refine cr (j2 ..) ?_ ?_ |refine co (j2 ..) ?_ ?_ |refine cr (j3 ..) ?_ ?_ |refine co (j3 ..) ?_ ?_ |refine cr (j4 ..) ?_ ?_ |refine co (j4 ..) ?_ ?_);intro w;rotate_left;(repeat (refine Prod.forall.2 λa=>?_));intro a s g hs hg;(try dsimp only at hg);dsimp(zetaDelta:=true) only at hs;subst hg;subst hs;rotate_left)
  |((with_reducible refine a92 ?_);(first|refine ct (j1 ..) ?_ ?_ |refine cq (j1 ..) ?_ ?_ |refine ct (j2 ..) ?_ ?_ |refine cq (j2 ..) ?_ ?_ |refine ct (j3 ..) ?_ ?_ |refine cq (j3 ..) ?_ ?_ |refine ct (j4 ..) ?_ ?_ |refine cq (j4 ..) ?_ ?_);intro w;rotate_left;(repeat (refine Prod.forall.2 λa=>?_));intro a s g hs hg;(try dsimp only at hg);dsimp(zetaDelta:=true) only at hs;subst hg;subst hs;rotate_left)
  |with_reducible refine a9O ?_
  |((with_reducible refine a9E ?_ ?_ ?_);exact a9D aPu (by first|rfl|simp);intro hc;rotate_left;intro hc;rotate_left)
  |with_reducible refine a9u ?_
  |with_reducible refine a9q ?_
  |with_reducible refine a9s ?_
  |((with_reducible refine a9j (by assumption) ?_);intro hv)
  |((with_reducible refine a9i ?_);intro v hv hw;(try simp only[go_sem] at hw);replace W:=a3F hw W)
  |((with_reducible refine a9k ?_);intro v hw;(try simp only[go_sem] at hw);replace W:=a3F hw W)
  |((with_reducible refine a9h rfl ?_);intro hg;have hn:=hg;(try simp only[go_sem] at hn))
  |((with_reducible refine a93 ?_);refine a9F ?_ ?_ <;>intro hnil;(try subst hnil))
  |((with_reducible refine a94 ?_);(first|refine MK E AH AI ?_ |refine ML E AH AI qA ?_ |(have hq:¬ _:=hG;first|refine MK (DY (l:=s1) E qB) E6 E7 ?_ |refine ML (DY (l:=s1) E qB) E6 E7 qA ?_ |refine MK (DY (l:=s2) E qB) E6 E7 ?_ |refine ML (DY (l:=s2) E qB) E6 E7 qA ?_ |refine MK (DY (l:=s3) E qB) E6 E7 ?_ |refine ML (DY (l:=s3) E qB) E6 E7 qA ?_ ) |refine MK E2 AH AI ?_ |refine ML E2 AH AI qA ?_ |refine MK E3 AH AI ?_ |refine ML E3 AH AI qA ?_ |refine MK E4 AH AI ?_ |refine ML E4 AH AI qA ?_ |(with_reducible refine tf ?_ ?_ <;>intro hG) |with_reducible refine cn ?_ |refine RQ (sl.getD 0 999) rfl MP ?_ |refine RQ (sl.getD 1 999) rfl MP ?_ |refine RQ (sl.getD 2 999) rfl MP ?_))
  |((with_reducible refine a95 ?_);(first|refine MM E AH AI ?_ |refine MN E AH AI qA ?_ |(have hq:¬ _:=hG;first|refine MM (DY (l:=s1) E qB) E6 E7 ?_ |refine MN (DY (l:=s1) E qB) E6 E7 qA ?_ |refine MM (DY (l:=s2) E qB) E6 E7 ?_ |refine MN (DY (l:=s2) E qB) E6 E7 qA ?_ |refine MM (DY (l:=s3) E qB) E6 E7 ?_ |refine MN (DY (l:=s3) E qB) E6 E7 qA ?_ ) |refine MM E2 AH AI ?_ |refine MN E2 AH AI qA ?_ |refine MM E3 AH AI ?_ |refine MN E3 AH AI qA ?_ |refine MM E4 AH AI ?_ |refine MN E4 AH AI qA ?_ |(with_reducible refine tf ?_ ?_ <;>intro hG) |with_reducible refine cn ?_ |refine RQ (sl.getD 0 999) rfl MP ?_ |refine RQ (sl.getD 1 999) rfl MP ?_ |refine RQ (sl.getD 2 999) rfl MP ?_))
  |with_reducible refine a9w ?_
  |with_reducible refine a9x ?_
  |with_reducible refine a9y ?_
  |with_reducible refine a9z ?_
  |with_reducible refine a9B ?_
  |with_reducible refine a9A ?_
  |((with_reducible refine a96 ?_);first|refine a9G rt qB rfl MP ?_ |refine a9C ?_)
  |with_reducible refine a9H ?_
  |with_reducible refine a9I ?_
  |with_reducible refine a9J ?_
  |with_reducible refine a9K ?_
  |with_reducible refine a9L ?_
  |((with_reducible refine a9M ?_ ?_);rotate_left;rfl)
  |with_reducible refine a9N ?_
  |((first|with_reducible refine a9W ?_ |with_reducible refine a9X ?_ |with_reducible refine a9P ?_ |with_reducible refine a9S ?_ |with_reducible refine a9T ?_);exact D0)
  |((with_reducible refine a9Y ?_ ?_);rfl)
  |with_reducible refine a9Z ?_
  |with_reducible refine a9Q ?_
  |with_reducible refine a9R ?_
  |with_reducible refine a9U ?_
  |with_reducible refine a9V ?_
  |((with_reducible refine a90 ?_);(first|((first|refine da (x1 ..) ?_ ?_ |refine cz (x1 ..) ?_ ?_ |refine da (x2 ..) ?_ ?_ |refine cz (x2 ..) ?_ ?_ |refine da (x3 ..) ?_ ?_ |refine cz (x3 ..) ?_ ?_ |refine da (x4 ..) ?_ ?_ |refine cz (x4 ..) ?_ ?_);intro w;rotate_left;(repeat (refine Prod.forall.2 λa=>?_));intro a s g hs hg;(try dsimp only at hg);dsimp(zetaDelta:=true) only at hs;subst hg;subst hs;rotate_left) |((first|refine RR (l1 ..) D0 ?_ |refine MO (l1 ..) D0 ?_ |refine RR (l2 ..) D0 ?_ |refine MO (l2 ..) D0 ?_ |refine RR (l3 ..) D0 ?_ |refine MO (l3 ..) D0 ?_ |refine RR (l4 ..) D0 ?_ |refine MO (l4 ..) D0 ?_ |refine RR (l5 ..) D0 ?_ |refine MO (l5 ..) D0 ?_ |refine RR (l6 ..) D0 ?_ |refine MO (l6 ..) D0 ?_);(repeat (refine Prod.forall.2 λa=>?_));intro a w g s hg hs;(first|rw[u1] at hg|rw[u2] at hg|rw[u3] at hg|rw[u4] at hg|rw[u5] at hg|rw[u6] at hg);(try dsimp only at hg);dsimp(zetaDelta:=true) only at hs;subst hg;subst hs)))
  |((with_reducible refine a97 ?_);intro hz;cases hz;first|exact a98 Je rfl rfl rfl|exact a99 Je rfl rfl rfl)
  |(refine tf ?_ ?_ <;>intro hG)
 ):p:=h
theorem rK {p:Prop}(h:p:=by
 intro hs hrow;dsimp only[go_sem,sZ,BX] at hs hrow|-
 (repeat (have h1:=And.left hrow;replace hrow:=And.right hrow;subst h1))
 (try (repeat (have h1:=And.left hs;replace hs:=And.right hs;(try subst h1))))
 obtain⟨z0,hC0⟩:=aNT.1 hs
 try rw[JG hC0]
 clear hs;rw[u0] at hC0;revert hC0;refine(?_ :Gl _ (some z0) _);exact Jf
 ):p:=h
theorem wZ {p:Prop}(h:p:=by
 intro hs hrow;dsimp only[go_sem,sZ,BX] at hs hrow|-
 (repeat (have h1:=And.left hrow;replace hrow:=And.right hrow;subst h1))
 (try (repeat (have h1:=And.left hs;replace hs:=And.right hs;(try subst h1))))
 (try subst hs)
 obtain⟨z0,hC0⟩:=q0
 try rw[hC0]
 rw[u0] at hC0;revert hC0;refine(?_ :Gl _ z0 _);exact Jf
 ):p:=h
end Go.Proofs.YtedimeeleabhnaaGreatDoor.Vc
namespace Go.Proofs.YtedimeeleabhnaaGreatDoor
open Vc
open Tryz
noncomputable section
@[go_sem] abbrev tJ:Ty:=(.pair .str (.pair .str (.pair .str (.pair (.list .str) (.pair (.list .str) (.pair (.int .i64) (.pair (.list sP) .unit)))))))
@[go_sem] abbrev wE:Ty:=(.pair .str (.pair (.list .str) (.pair (.list sP) (.pair (.list tJ) .unit))))
abbrev wT:Type:=(pI×(pI×Unit))
abbrev w7:Type:=(pI×(pI×(pI×(pJ×(pJ×(Int×((List wT)×Unit)))))))
abbrev zX:Type:=(Int×(pI×(pI×Unit)))
abbrev rN:Type:=(zX×(pI×(Bool×Unit)))
abbrev Ja3:=List rN
@[go_sem] abbrev wU:Ty:=(.pair (.int .i64) sP)
@[go_sem] abbrev rV:Ty:=(.pair wU (.pair .str (.pair .bool .unit)))
abbrev uC:Type:=(pI×(pJ×((List wT)×((List w7)×Unit))))
@[go_sem] abbrev vA:Ty:=(.pair .mref (.pair (.list (.int .u8)) .unit))
abbrev qS:Type:=(pI×(Ja0×Unit))
abbrev Ja1:=List qS
@[go_sem] abbrev sN:Ty:=(.pair (.int .i64) (.pair .str (.pair (.int .i64) (.pair (.int .i64) .unit))))
@[go_sem] abbrev tG:Ty:=(.pair .str (.pair (.list sN) (.pair (.int .i64) (.pair .mp (.pair (.int .i64) (.pair (.int .i64) .unit))))))
abbrev rD:Type:=(Int×(pI×pQ))
abbrev Ja2:=List rD
@[go_sem] abbrev tW:Ty:=(.pair (.list sN) (.pair (.int .i64) (.pair (.list .str) (.pair (.int .i64) (.pair (.int .i64) .unit)))))
abbrev s9:Type:=(Ja2×(Int×(pJ×pQ)))
@[go_sem] abbrev D1:Ty:=(.pair .bool sP)
abbrev rP:Type:=(Int×(pI×(pI×(pI×(Ja1×(Ja0×Unit))))))
abbrev tg:Type:=(Bool×(pI×(pI×Unit)))
@[go_sem] abbrev db:Ty:=(.pair (.int .i64) (.pair .str (.pair .str (.pair .str (.pair (.rl 186 rT) (.pair (.list .part) .unit))))))
@[go_sem] abbrev aAa:Ty:=(.pair .str (.pair .str (.pair .str (.pair .str (.pair .str (.pair .str (.pair .str (.pair .str sP))))))))
@[go_sem] abbrev E8:Ty:=(.pair (.int .i64) (.pair (.int .i64) (.pair (.int .i64) .unit)))
@[go_sem] abbrev dc:Nat×TI:=(29,⟨(.list rV),49,64,false,[]⟩)
theorem F3:sY prog dc.1 dc.2:=C1
@[go_sem] abbrev de:Nat×TI:=(49,⟨rV,0,1,false,[]⟩)
theorem JK:sY prog de.1 de.2:=⟨qA,(show ((_/\∃_,_/\_)\/_)/\_ from⟨.inl ⟨rfl,_,Tryz.underlying49,yJ⟩,(λ_=>⟨qA,2,pN,(.struct rfl Tryz.underlying49 qA (.cons pN rfl qA qA (.struct rfl Tryz.underlying47 qA (.cons pN rfl qA qA (.int Tryz.underlying3) (.cons pN rfl qA qA (.str Tryz.underlying9) (.cons pN rfl qA qA (.str Tryz.underlying9) .nil)))) (.cons pN rfl qA qA (.str Tryz.underlying9) (.cons pN rfl qA qA (.bool Tryz.underlying4) .nil))))⟩)⟩)⟩
@[go_sem] abbrev df:Nat×TI:=(47,⟨wU,0,1,false,[]⟩)
theorem MQ:sY prog df.1 df.2:=⟨qA,(show ((_/\∃_,_/\_)\/_)/\_ from⟨.inl ⟨rfl,_,Tryz.underlying47,yJ⟩,(λ_=>⟨qA,1,pN,(.struct rfl Tryz.underlying47 qA (.cons pN rfl qA qA (.int Tryz.underlying3) (.cons pN rfl qA qA (.str Tryz.underlying9) (.cons pN rfl qA qA (.str Tryz.underlying9) .nil))))⟩)⟩)⟩
@[go_sem] abbrev Jg:Nat×TI:=(54,⟨(.pair (.list rV) .unit),0,0,false,[(0,49,5)]⟩)
theorem Jh:sY prog Jg.1 Jg.2:=⟨qA,(show ((_/\∃_,_/\_)\/_)/\_ from⟨.inl ⟨rfl,_,Tryz.underlying54,yJ⟩,(λh=>absurd h pN)⟩)⟩
@[go_sem] abbrev RV:Nat×TI:=(9,⟨.str,0,0,false,[]⟩)
theorem rX:sY prog RV.1 RV.2:=⟨qA,(show Tryz.prog.underlying _=_ from by kernel_rfl)⟩
@[go_sem] abbrev Ji:Nat×TI:=(24,⟨(.list tJ),51,128,false,[]⟩)
theorem JL:sY prog Ji.1 Ji.2:=C1
@[go_sem] abbrev dg:Nat×TI:=(26,⟨wE,0,0,false,[(1,9,1),(2,58,2),(3,51,7)]⟩)
theorem E9:sY prog dg.1 dg.2:=⟨qA,(show ((_/\∃_,_/\_)\/_)/\_ from⟨.inl ⟨rfl,_,Tryz.underlying26,yJ⟩,(λh=>absurd h pN)⟩)⟩
@[go_sem] abbrev Jj:Nat×TI:=(51,⟨tJ,0,0,false,[(3,9,1),(4,9,1),(6,58,2)]⟩)
theorem D2:sY prog Jj.1 Jj.2:=⟨qA,(show ((_/\∃_,_/\_)\/_)/\_ from⟨.inl ⟨rfl,_,Tryz.underlying51,yJ⟩,(λh=>absurd h pN)⟩)⟩
@[go_sem] abbrev Jk:Nat×TI:=(22,⟨(.list .str),9,16,false,[]⟩)
theorem vC:sY prog Jk.1 Jk.2:=C1
@[go_sem] abbrev Jl:Nat×TI:=(23,⟨(.list sP),58,32,false,[]⟩)
theorem D3:sY prog Jl.1 Jl.2:=C1
@[go_sem] abbrev Jm:Nat×TI:=(58,⟨sP,0,1,false,[]⟩)
theorem MR:sY prog Jm.1 Jm.2:=⟨qA,(show ((_/\∃_,_/\_)\/_)/\_ from⟨.inl ⟨rfl,_,Tryz.underlying58,yJ⟩,(λ_=>⟨qA,1,pN,(.struct rfl Tryz.underlying58 qA (.cons pN rfl qA qA (.str Tryz.underlying9) (.cons pN rfl qA qA (.str Tryz.underlying9) .nil)))⟩)⟩)⟩
@[go_sem] abbrev Jn:Nat×TI:=(111,⟨(.list (.int .u8)),5,1,false,[]⟩)
theorem HG:sY prog Jn.1 Jn.2:=C1
@[go_sem] abbrev Jo:Nat×TI:=(113,⟨vA,0,0,false,[(1,5,1)]⟩)
theorem WA:sY prog Jo.1 Jo.2:=⟨qA,(show ((_/\∃_,_/\_)\/_)/\_ from⟨.inl ⟨rfl,_,Tryz.underlying113,yJ⟩,(λh=>absurd h pN)⟩)⟩
@[go_sem] abbrev Jp:Nat×TI:=(2,⟨(.int .i64),0,0,false,[]⟩)
theorem aAb:sY prog Jp.1 Jp.2:=⟨qA,(show Tryz.prog.underlying _=_ from by kernel_rfl)⟩
@[go_sem] abbrev Jq:Nat×TI:=(5,⟨(.int .u8),0,0,false,[]⟩)
theorem HH:sY prog Jq.1 Jq.2:=⟨qA,(show Tryz.prog.underlying _=_ from by kernel_rfl)⟩
@[go_sem] abbrev dh:Nat×TI:=(3,⟨(.int .i64),0,0,false,[]⟩)
theorem tN:sY prog dh.1 dh.2:=⟨qA,(show Tryz.prog.underlying _=_ from by kernel_rfl)⟩
@[go_sem] abbrev Jr:Nat×TI:=(30,⟨(.int .i64),0,0,false,[]⟩)
theorem BA:sY prog Jr.1 Jr.2:=⟨qA,(show Tryz.prog.underlying _=_ from by kernel_rfl)⟩
@[go_sem] abbrev Js:Nat×TI:=(158,⟨(.list sN),215,40,false,[]⟩)
theorem zY:sY prog Js.1 Js.2:=C1
@[go_sem] abbrev Ju:Nat×TI:=(163,⟨tG,0,0,false,[(1,215,4)]⟩)
theorem zD:sY prog Ju.1 Ju.2:=⟨qA,(show ((_/\∃_,_/\_)\/_)/\_ from⟨.inl ⟨rfl,_,Tryz.underlying163,yJ⟩,(λh=>absurd h pN)⟩)⟩
@[go_sem] abbrev Jv:Nat×TI:=(215,⟨sN,0,1,false,[]⟩)
theorem AJ:sY prog Jv.1 Jv.2:=⟨qA,(show ((_/\∃_,_/\_)\/_)/\_ from⟨.inl ⟨rfl,_,Tryz.underlying215,yJ⟩,(λ_=>⟨qA,1,pN,(.struct rfl Tryz.underlying215 qA (.cons pN rfl qA qA (.int Tryz.underlying3) (.cons pN rfl qA qA (.str Tryz.underlying9) (.cons pN rfl qA qA (.int Tryz.underlying3) (.cons pN rfl qA qA (.int Tryz.underlying3) .nil)))))⟩)⟩)⟩
@[go_sem] abbrev th:Nat×TI:=(222,⟨.mp,9,3,false,[]⟩)
theorem MT:sY prog th.1 th.2:=⟨qA,(show Tryz.prog.underlying _=_ from by kernel_rfl)⟩
@[go_sem] abbrev Jw:Nat×TI:=(173,⟨(.list sN),228,40,false,[]⟩)
theorem di:sY prog Jw.1 Jw.2:=C1
@[go_sem] abbrev Jy:Nat×TI:=(178,⟨tW,0,0,false,[(0,228,4),(2,9,1)]⟩)
theorem HI:sY prog Jy.1 Jy.2:=⟨qA,(show ((_/\∃_,_/\_)\/_)/\_ from⟨.inl ⟨rfl,_,Tryz.underlying178,yJ⟩,(λh=>absurd h pN)⟩)⟩
@[go_sem] abbrev Jz:Nat×TI:=(228,⟨sN,0,1,false,[]⟩)
theorem D4:sY prog Jz.1 Jz.2:=⟨qA,(show ((_/\∃_,_/\_)\/_)/\_ from⟨.inl ⟨rfl,_,Tryz.underlying228,yJ⟩,(λ_=>⟨qA,1,pN,(.struct rfl Tryz.underlying228 qA (.cons pN rfl qA qA (.int Tryz.underlying3) (.cons pN rfl qA qA (.str Tryz.underlying9) (.cons pN rfl qA qA (.int Tryz.underlying3) (.cons pN rfl qA qA (.int Tryz.underlying3) .nil)))))⟩)⟩)⟩
@[go_sem] abbrev Ka:Nat×TI:=(171,⟨(.pair vA .unit),0,0,false,[(1,5,1)]⟩)
theorem Kb:sY prog Ka.1 Ka.2:=⟨qA,(show ((_/\∃_,_/\_)\/_)/\_ from⟨.inl ⟨rfl,_,Tryz.underlying171,yJ⟩,(λh=>absurd h pN)⟩)⟩
@[go_sem] abbrev MU:Nat×TI:=(183,⟨sM,0,0,false,[(4,186,2),(5,183,6)]⟩)
theorem uY:sY prog MU.1 MU.2:=⟨qA,(show ((_/\∃_,_/\_)\/_)/\_ from⟨.inl ⟨rfl,_,Tryz.underlying183,yJ⟩,(λh=>absurd h pN)⟩)⟩
@[go_sem] abbrev MV:Nat×TI:=(88,⟨(.list .part),183,104,false,[]⟩)
theorem uT:sY prog MV.1 MV.2:=C1
@[go_sem] abbrev WB:Nat×TI:=(186,⟨rT,0,0,false,[(1,183,6)]⟩)
theorem AK:sY prog WB.1 WB.2:=⟨qA,(show ((_/\∃_,_/\_)\/_)/\_ from⟨.inl ⟨rfl,_,Tryz.underlying186,yJ⟩,(λh=>absurd h pN)⟩)⟩
@[go_sem] abbrev tj:Nat×TI:=(181,⟨(.list rT),186,40,false,[]⟩)
theorem yK:sY prog tj.1 tj.2:=C1
@[go_sem] abbrev Kc:Nat×TI:=(21,⟨(.int .i32),0,0,false,[]⟩)
theorem aAc:sY prog Kc.1 Kc.2:=⟨qA,(show Tryz.prog.underlying _=_ from by kernel_rfl)⟩
@[go_sem] abbrev Kd:Nat×TI:=(129,⟨(.list rT),132,40,false,[]⟩)
theorem tm:sY prog Kd.1 Kd.2:=C1
@[go_sem] abbrev Ke:Nat×TI:=(132,⟨rT,0,0,false,[(1,183,6)]⟩)
theorem Kf:sY prog Ke.1 Ke.2:=⟨qA,(show ((_/\∃_,_/\_)\/_)/\_ from⟨.inl ⟨rfl,_,Tryz.underlying132,yJ⟩,(λh=>absurd h pN)⟩)⟩
@[go_sem] abbrev dj:Nat×TI:=(64,⟨.mp,47,9,false,[]⟩)
theorem dk:sY prog dj.1 dj.2:=⟨qA,(show Tryz.prog.underlying _=_ from by kernel_rfl)⟩
@[go_sem] abbrev RW:Nat×TI:=(181,⟨(.list rT),186,40,true,[]⟩)
theorem WC:sY prog RW.1 RW.2:=C1
@[go_sem] abbrev Kg:Nat×TI:=(200,⟨(.list (.int .i64)),3,8,false,[]⟩)
theorem Kh:sY prog Kg.1 Kg.2:=C1
@[go_sem] abbrev tn:Nat×TI:=(4,⟨.bool,0,0,false,[]⟩)
theorem FV:sY prog tn.1 tn.2:=⟨qA,(show Tryz.prog.underlying _=_ from by kernel_rfl)⟩
@[go_sem] abbrev tp:Nat×TI:=(285,⟨D1,0,1,false,[]⟩)
theorem Ki:sY prog tp.1 tp.2:=⟨qA,(show ((_/\∃_,_/\_)\/_)/\_ from⟨.inl ⟨rfl,_,Tryz.underlying285,yJ⟩,(λ_=>⟨qA,1,pN,(.struct rfl Tryz.underlying285 qA (.cons pN rfl qA qA (.bool Tryz.underlying4) (.cons pN rfl qA qA (.str Tryz.underlying9) (.cons pN rfl qA qA (.str Tryz.underlying9) .nil))))⟩)⟩)⟩
@[go_sem] abbrev Kj:Nat×TI:=(300,⟨D1,0,1,false,[]⟩)
theorem tq:sY prog Kj.1 Kj.2:=⟨qA,(show ((_/\∃_,_/\_)\/_)/\_ from⟨.inl ⟨rfl,_,Tryz.underlying300,yJ⟩,(λ_=>⟨qA,1,pN,(.struct rfl Tryz.underlying300 qA (.cons pN rfl qA qA (.bool Tryz.underlying4) (.cons pN rfl qA qA (.str Tryz.underlying9) (.cons pN rfl qA qA (.str Tryz.underlying9) .nil))))⟩)⟩)⟩
@[go_sem] abbrev Kk:Nat×TI:=(260,⟨aAa,Bl,1,true,[]⟩)
theorem aAd:sY prog Kk.1 Kk.2:=⟨qA,(show (_\/(_/\∃_ _,_/\_/\_))/\_ from⟨.inr ⟨rfl,_,_,Tryz.underlying260,(show _/\_/\_ from⟨qA,qA,(show _/\_/\_ from⟨qA,qA,(show _/\_/\_ from⟨qA,qA,(show _/\_/\_ from⟨qA,qA,(show _/\_/\_ from⟨qA,qA,(show _/\_/\_ from⟨qA,qA,(show _/\_/\_ from⟨qA,qA,(show _/\_/\_ from⟨qA,qA,(show _/\_/\_ from⟨qA,qA,(show _/\_/\_ from⟨qA,qA,trivial⟩)⟩)⟩)⟩)⟩)⟩)⟩)⟩)⟩)⟩),qA⟩,(λ_=>⟨qA,1,pN,(.arr rfl Tryz.underlying260 qA (.acons qA qA (.str Tryz.underlying9) (.acons qA qA (.str Tryz.underlying9) (.acons qA qA (.str Tryz.underlying9) (.acons qA qA (.str Tryz.underlying9) (.acons qA qA (.str Tryz.underlying9) (.acons qA qA (.str Tryz.underlying9) (.acons qA qA (.str Tryz.underlying9) (.acons qA qA (.str Tryz.underlying9) (.acons qA qA (.str Tryz.underlying9) (.acons qA qA (.str Tryz.underlying9) .anil)))))))))))⟩)⟩)⟩
@[go_sem] abbrev tt:Nat×TI:=(124,⟨(.list rT),128,40,false,[]⟩)
theorem WD:sY prog tt.1 tt.2:=C1
@[go_sem] abbrev Kl:Nat×TI:=(128,⟨rT,0,0,false,[(1,183,6)]⟩)
theorem tu:sY prog Kl.1 Kl.2:=⟨qA,(show ((_/\∃_,_/\_)\/_)/\_ from⟨.inl ⟨rfl,_,Tryz.underlying128,yJ⟩,(λh=>absurd h pN)⟩)⟩
@[go_sem] abbrev Km:Nat×TI:=(90,⟨E8,0,1,false,[]⟩)
theorem HJ:sY prog Km.1 Km.2:=⟨qA,(show ((_/\∃_,_/\_)\/_)/\_ from⟨.inl ⟨rfl,_,Tryz.underlying90,yJ⟩,(λ_=>⟨qA,1,pN,(.struct rfl Tryz.underlying90 qA (.cons pN rfl qA qA (.int Tryz.underlying3) (.cons pN rfl qA qA (.int Tryz.underlying3) (.cons pN rfl qA qA (.int Tryz.underlying3) .nil))))⟩)⟩)⟩
@[go_sem] abbrev Kn:Nat×TI:=(81,⟨.mp,9,4,false,[]⟩)
theorem MW:sY prog Kn.1 Kn.2:=⟨qA,(show Tryz.prog.underlying _=_ from by kernel_rfl)⟩
@[go_sem] abbrev Ko:Nat×TI:=(225,⟨(.pair .mp .unit),0,0,false,[]⟩)
theorem tx:sY prog Ko.1 Ko.2:=⟨qA,(show ((_/\∃_,_/\_)\/_)/\_ from⟨.inl ⟨rfl,_,Tryz.underlying225,yJ⟩,(λh=>absurd h pN)⟩)⟩
@[go_sem] abbrev Kp:Nat×TI:=(211,⟨(.list .bool),4,1,true,[]⟩)
theorem aAe:sY prog Kp.1 Kp.2:=C1
theorem FW:Tryz.prog.follows .mixedOrders=true:=by kernel_rfl
theorem rH {T:sH}{l:List (Nat×r7)}(hT:vX prog T) (hc:DT prog (AE l)):vP prog T (AE l):=⟨hT,hc,FW⟩
@[go_sem] abbrev aAf:Nat×r7:=(132,⟨[.v,.v],qz,[],[],none⟩)
theorem Kq:qW prog aAf:=⟨a8g,λ_ h=>by cases h⟩
@[go_sem] abbrev aAg:Nat×r7:=(333,⟨[.v,.v],rk,[],[],none⟩)
theorem Kr:qW prog aAg:=⟨a8u,λ_ h=>by cases h⟩
@[go_sem] abbrev aAh:Nat×r7:=(177,⟨[.v],rc,[],[],none⟩)
theorem aAi:qW prog aAh:=⟨a8h,λ_ h=>by cases h⟩
@[go_sem] abbrev aAj:Nat×r7:=(131,⟨[.v],rm,[],[],none⟩)
theorem Ks:qW prog aAj:=⟨a8v,λ_ h=>by cases h⟩
@[go_sem] abbrev aAk:Nat×r7:=(181,⟨[.v,.v],ru,[],[],none⟩)
theorem aAl:qW prog aAk:=⟨a8F,λ_ h=>by cases h⟩
@[go_sem] abbrev aAm:Nat×r7:=(182,⟨[.v,.v],rz,[],[],none⟩)
theorem aAn:qW prog aAm:=⟨a8G,λ_ h=>by cases h⟩
@[go_sem] abbrev aAo:Nat×r7:=(93,⟨[.v],sa,[],[],none⟩)
theorem aAp:qW prog aAo:=⟨a8H,λ_ h=>by cases h⟩
@[go_sem] abbrev aAq:Nat×r7:=(138,⟨[.v],sb,[],[],none⟩)
theorem aAr:qW prog aAq:=⟨a8I,λ_ h=>by cases h⟩
@[go_sem] abbrev aAs:Nat×r7:=(304,⟨[.v,.v],rn,[],[],none⟩)
theorem aAt:qW prog aAs:=⟨a8w,λ_ h=>by cases h⟩
@[go_sem] abbrev aAu:Nat×r7:=(59,⟨[.v,.v],rp,[],[],none⟩)
theorem Kt:qW prog aAu:=⟨a8x,λ_ h=>by cases h⟩
@[go_sem] abbrev aAv:Nat×r7:=(129,⟨[.p vA [1]],rf,[],[],none⟩)
theorem Ku:qW prog aAv:=⟨a8k,λ_ h=>by cases h⟩
@[go_sem] abbrev aAw:Nat×r7:=(95,⟨[.p vA [1]],ri,[],[],none⟩)
theorem dl:qW prog aAw:=⟨a8s,λ_ h=>by cases h⟩
@[go_sem] abbrev aAx:Nat×r7:=(147,⟨[.v,.v],sq,[],[],none⟩)
theorem aAy:qW prog aAx:=⟨a9d,λ_ h=>by cases h⟩
end
noncomputable section
def MX (O:Ja3) (a8:Ja3):Int->Option (Int⊕(Unit⊕Bool)):=λaA=>ite (decide (aA<(O.length:Int))) (ite (0<=aA/\aA<(O.length:Int)) (ite (0<=aA/\aA<(a8.length:Int)) (ite (!((((qH rV O aA).1.1=(qH rV a8 aA).1.1)&&(((qH rV O aA).1.2.1=(qH rV a8 aA).1.2.1)&&((qH rV O aA).1.2.2.1=(qH rV a8 aA).1.2.2.1)))&&(((qH rV O aA).2.1=(qH rV a8 aA).2.1)&&((qH rV O aA).2.2.1==(qH rV a8 aA).2.2.1)))) (some (.inr (.inr (false)))) (ite (qG (aA+1)) (some (.inl (aA+1))) none)) none) none) (some (.inr (.inl ())))
def HK (O:Ja3) (a8:Ja3):Option Bool:=ite (!decide ((O.length:Int)=(a8.length:Int))) (some (false)) (sK (rC (MX O a8) 0) λ_=>some (true))
abbrev Kv (x:(Ja3×Ja3)):List qK:=[sv (.list rV) x.1,sv (.list rV) x.2]
@[go_sem] def Kw:(Ja3×Ja3)->r8:=fun(O,a8)=>rv [] (HK O a8) λz=>([bv z],[])
@[go_sem] def aJx O a8:=rF Kv qU Kw (O,a8)
@[go_sem] abbrev aAz:Nat×r7:=mE 15 [.v,.v] Kv qU Kw
def aAA:qW prog aAz:=
 rI (rH (qO F3 (qO JK rG)) rE) func15 26 [(4,none)] rfl λE ⟨O,a8⟩=>by
  have u0:= @HK.eq_1;have u1:= @MX.eq_1
  let l1:LE (MX O a8):=⟨λx=>⟨[(0,sv (.list rV) O),(1,sv (.list rV) a8),(5,iv x)],[],0,26,0⟩⟩
  let x1:XE (MX O a8) 0 Unit:=⟨λ_=>⟨[],[],0,26,0⟩⟩
  exact rK
def zZ (O:(Ja3×Unit)) (a8:Int) (aA:pI) (aB:pI) (aC:pI):Option Unit:=ite ((O.1.length+([((a8,(aA,(aB,()))),(aC,(false,())))]:List rN).length)*64<=140737488355328) (some (())) none
abbrev Kx (x:(Int×pI×pI×pI×(Ja3×Unit)×Nat)):List qK:=[rs 0 0,iv x.1,tv x.2.1,tv x.2.2.1,tv x.2.2.2.1]
abbrev Ky (x:(Int×pI×pI×pI×(Ja3×Unit)×Nat)):List qP:=[.cells (.pair (.list rV) .unit) x.2.2.2.2.1 [(0,1)],.grow 49 5 x.2.2.2.2.2]
@[go_sem] def Kz:(Int×pI×pI×pI×(Ja3×Unit)×Nat)->r8:=fun(O,a8,aA,aB,aC,aD)=>rv [aD=(aC.1.length)] (zZ aC O a8 aA aB) λz=>([],[.cells (.pair (.list rV) .unit) ((aC.1++([((O,(a8,(aA,()))),(aB,(false,())))]:List rN)),aC.2) [(0,1)],.grow 49 5 ((aC.1++([((O,(a8,(aA,()))),(aB,(false,())))]:List rN)).length)])
@[go_sem] def aJy O a8 aA aB aC aD:=rF Kx Ky Kz (O,a8,aA,aB,aC,aD)
@[go_sem] abbrev aAB:Nat×r7:=mE 32 [.p (.pair (.list rV) .unit) [0],.v,.v,.v,.v] Kx Ky Kz
def tz:qW prog aAB:=
 rI (rH (qO F3 (qO MQ (qO JK (qO Jh rG)))) rE) func32 25 [] rfl λE ⟨O,a8,aA,aB,aC,aD⟩=>by
  have u0:= @zZ.eq_1;exact rK
def La (O:Int) (a8:pI) (aA:pI) (aB:pI):Unit:=()
abbrev Lb (x:(Int×pI×pI×pI)):List qK:=[iv x.1,tv x.2.1,tv x.2.2.1,tv x.2.2.2]
@[go_sem] def Lc:(Int×pI×pI×pI)->r8:=fun(O,a8,aA,aB)=>⟨[],[sv rV ((O,(a8,(aA,()))),(aB,(false,())))],[]⟩
@[go_sem] def aJz O a8 aA aB:=rF Lb qU Lc (O,a8,aA,aB)
@[go_sem] abbrev aAC:Nat×r7:=mE 35 [.v,.v,.v,.v] Lb qU Lc
def ua:qW prog aAC:=
 rI (rH (qO MQ (qO JK rG)) rE) func35 15 [(8,some 49)] rfl λE ⟨O,a8,aA,aB⟩=>by
  have u0:= @La.eq_1;have q0: ∃z,(La O a8 aA aB)=z:=⟨_,rfl⟩;exact wZ
def MY (O:uC) (a8:pI):Int->Option (Int⊕(Unit⊕(Int×Bool))):=λaA=>ite (decide (aA<(O.2.2.2.1.length:Int))) (ite (0<=aA/\aA<(O.2.2.2.1.length:Int)) (ite (decide ((qH tJ O.2.2.2.1 aA).1=a8)) (some (.inr (.inr (aA,true)))) (ite (qG (aA+1)) (some (.inl (aA+1))) none)) none) (some (.inr (.inl ())))
def RX (O:uC) (a8:pI):Option (Int×Bool):=sK (rC (MY O a8) 0) λ_=>some (0,false)
abbrev Ld (x:(uC×pI)):List qK:=[sv wE x.1,tv x.2]
@[go_sem] def Lf:(uC×pI)->r8:=fun(O,a8)=>rv [] (RX O a8) λz=>([iv (z.1),bv (z.2)],[])
@[go_sem] def aJA O a8:=rF Ld qU Lf (O,a8)
@[go_sem] abbrev aAD:Nat×r7:=mE 49 [.v,.v] Ld qU Lf
def aAE:qW prog aAD:=
 rI (rH (qO rX (qO JL (qO E9 (qO D2 rG)))) rE) func49 23 [(4,none),(5,none)] rfl λE ⟨O,a8⟩=>by
  have u0:= @RX.eq_1;have u1:= @MY.eq_1
  let l1:LE (MY O a8):=⟨λx=>⟨[(1,tv a8),(2,rs 0 0),(6,iv x)],[(0,.cells wE O [])],1,23,0⟩⟩
  let x1:XE (MY O a8) 0 Unit:=⟨λ_=>⟨[],[],0,23,0⟩⟩
  exact rK
def FX (O:pJ):(Int×Int)->Option ((Int×Int)⊕Int):=fun(a8,aA)=>ite ((aA<(O.length:Int))&&(a8<1099511627776)) (ite (0<=aA/\aA<(O.length:Int)) (ite (qG (a8+((qH .str O aA).length:Int))) (ite (qG (aA+1)) (some (.inl ((a8+((qH .str O aA).length:Int)),(aA+1)))) none) none) none) (some (.inr a8))
def FY (O:(List wT)):(Int×Int)->Option ((Int×Int)⊕Int):=fun(a8,aA)=>ite ((aA<(O.length:Int))&&(a8<1099511627776)) (ite (0<=aA/\aA<(O.length:Int)) (ite (qG (a8+(((qH sP O aA).1).length:Int))) (ite (0<=aA/\aA<(O.length:Int)) (ite (qG ((a8+(((qH sP O aA).1).length:Int))+(((qH sP O aA).2.1).length:Int))) (ite (qG (aA+1)) (some (.inl (((a8+(((qH sP O aA).1).length:Int))+(((qH sP O aA).2.1).length:Int)),(aA+1)))) none) none) none) none) none) (some (.inr a8))
def A0 (O:pJ) (a8:(List wT)):Option Int:=ite (qG ((O.length:Int)+(a8.length:Int))) (rA (rC (FX O) (((O.length:Int)+(a8.length:Int)),0)) λaA=>rA (rC (FY a8) (aA,0)) λaB=>some (aB)) none
abbrev Lg (x:(pJ×(List wT))):List qK:=[sv (.list .str) x.1,sv (.list sP) x.2]
@[go_sem] def Lh:(pJ×(List wT))->r8:=fun(O,a8)=>rv [] (A0 O a8) λz=>([iv z],[])
@[go_sem] def aJB O a8:=rF Lg qU Lh (O,a8)
@[go_sem] abbrev aAF:Nat×r7:=mE 52 [.v,.v] Lg qU Lh
def Li:qW prog aAF:=
 rI (rH (qO rX (qO vC (qO D3 (qO MR rG)))) rE) func52 56 [(4,none)] rfl λE ⟨O,a8⟩=>by
  have u0:= @A0.eq_1;have u1:= @FX.eq_1
  let l1:LE (FX O):=⟨λx=>⟨[(0,sv (.list .str) O),(1,sv (.list sP) a8),(5,iv x.1),(6,iv x.2)],[],0,56,0⟩⟩
  have u2:= @FY.eq_1
  let l2:LE (FY a8):=⟨λx=>⟨[(1,sv (.list sP) a8),(5,iv x.1),(7,iv x.2)],[],0,56,0⟩⟩
  let x1:XE (FX O) 0 Int:=⟨λx=>⟨[(1,sv (.list sP) a8),(5,iv x)],[],0,56,0⟩⟩
  let x2:XE (FY a8) 2 Int:=⟨λx=>⟨[(5,iv x)],[],0,56,0⟩⟩
  exact rK
def RY (O:w7):Option Unit:=ite (qG ((O.1.length:Int)+(O.2.1.length:Int))) (ite (qG (((O.1.length:Int)+(O.2.1.length:Int))+(O.2.2.1.length:Int))) (ite (((decide ((((O.1.length:Int)+(O.2.1.length:Int))+(O.2.2.1.length:Int))<=6000))==true)=true->(A0 O.2.2.2.1 O.2.2.2.2.2.2.1).isSome=true) (ite (((decide ((((O.1.length:Int)+(O.2.1.length:Int))+(O.2.2.1.length:Int))<=6000))==true)=true->(A0 O.2.2.2.2.1 ([]:List wT)).isSome=true) (ite (((decide ((((O.1.length:Int)+(O.2.1.length:Int))+(O.2.2.1.length:Int))<=6000))==true)=true->qG ((val (A0 O.2.2.2.1 O.2.2.2.2.2.2.1))+(val (A0 O.2.2.2.2.1 ([]:List wT))))) (some (())) none) none) none) none) none
abbrev Lj (x:w7):List qK:=[sv tJ x]
@[go_sem] def Lk:w7->r8:=λO=>rv [] (RY O) λz=>([bv (((((O.1.length:Int)+(O.2.1.length:Int))+(O.2.2.1.length:Int))<=6000)&&(((val (A0 O.2.2.2.1 O.2.2.2.2.2.2.1))+(val (A0 O.2.2.2.2.1 ([]:List wT))))<=6000))],[])
@[go_sem] def aJC O:=rF Lj qU Lk O
@[go_sem] abbrev aAG:Nat×r7:=mE 53 [.v] Lj qU Lk
def aAH:qW prog aAG:=
 rI (rH (qO rX (qO vC (qO D3 (qO D2 rG)))) (qQ Li rE)) func53 27 [(2,none)] rfl λE O=>by
  have u0:= @RY.eq_1;exact rK
def MZ (O:pI):Nat->Option (Nat⊕(Unit⊕Bool)):=λa8=>ite (decide (a8<O.length)) (ite ((decide (a8<O.length))=true) (ite ((((((xN O a8)<97)||(122<(xN O a8)))&&(((xN O a8)<65)||(90<(xN O a8))))&&(((xN O a8)<48)||(57<(xN O a8))))&&(!decide ((xN O a8)=45))) (some (.inr (.inr (false)))) (some (.inl (AZ O a8)))) none) (some (.inr (.inl ())))
def RZ (O:pI):Option Bool:=sK (rC (MZ O) 0) λ_=>some ((1<=(O.length:Int))&&((O.length:Int)<=40))
abbrev Ll (x:pI):List qK:=[tv x]
@[go_sem] def Lm:pI->r8:=λO=>rv [] (RZ O) λz=>([bv z],[])
@[go_sem] def aJD O:=rF Ll qU Lm O
@[go_sem] abbrev aAI:Nat×r7:=mE 54 [.v] Ll qU Lm
def aAJ:qW prog aAI:=
 rI (rH (qO rX rG) rE) func54 44 [(2,none)] rfl λE O=>by
  have u0:= @RZ.eq_1;have u1:= @MZ.eq_1
  let l1:LE (MZ O):=⟨λx=>⟨[(0,tv O),(6,rs 0 0)],[(0,.iter O x)],1,44,0⟩⟩
  let x1:XE (MZ O) 0 Unit:=⟨λ_=>⟨[(0,tv O)],[],0,44,0⟩⟩
  exact rK
def Ln:Unit:=()
abbrev Lo (x:Unit):List qK:=[]
@[go_sem] def Lp:Unit->r8:=λ_=>⟨[],[(.val (.list .str) ([([110,101,119]:pI),([102,117,122,122,121]:pI),([116,114,97,110,115,108,97,116,101,100]:pI),([114,101,118,105,101,119,101,100]:pI),([111,98,115,111,108,101,116,101]:pI)]:pJ),some 0)],[.grow 9 1 (([([110,101,119]:pI),([102,117,122,122,121]:pI),([116,114,97,110,115,108,97,116,101,100]:pI),([114,101,118,105,101,119,101,100]:pI),([111,98,115,111,108,101,116,101]:pI)]:pJ).length)]⟩
@[go_sem] def aJE:=rF Lo qU Lp ()
@[go_sem] abbrev aAK:Nat×r7:=mE 60 [] Lo qU Lp
def aAL:qW prog aAK:=
 rI (rH (qO vC rG) rE) func60 2 [(0,none)] rfl λE ⟨⟩=>by
  have u0:= @Ln.eq_1;have q0: ∃z,Ln=z:=⟨_,rfl⟩;exact wZ
def JM (O:pJ):(pI×Int)->Option ((pI×Int)⊕pI):=fun(a8,aA)=>ite (decide (aA<(O.length:Int))) (ite (decide (0<aA)) (ite (((a8++([32]:pI)).length:Int)<=9223372036854775807) (ite (0<=aA/\aA<(O.length:Int)) (ite ((((a8++([32]:pI))++(qH .str O aA)).length:Int)<=9223372036854775807) (ite (qG (aA+1)) (some (.inl (((a8++([32]:pI))++(qH .str O aA)),(aA+1)))) none) none) none) none) (ite (0<=aA/\aA<(O.length:Int)) (ite (((a8++(qH .str O aA)).length:Int)<=9223372036854775807) (ite (qG (aA+1)) (some (.inl ((a8++(qH .str O aA)),(aA+1)))) none) none) none)) (some (.inr a8))
def S0 (O:pJ):Option pI:=rA (rC (JM O) (([]:pI),0)) λa8=>some (a8)
abbrev Lq (x:pJ):List qK:=[sv (.list .str) x]
@[go_sem] def Lr:pJ->r8:=λO=>rv [] (S0 O) λz=>([tv z],[])
@[go_sem] def aJF O:=rF Lq qU Lr O
@[go_sem] abbrev aAM:Nat×r7:=mE 63 [.v] Lq qU Lr
def aAN:qW prog aAM:=
 rI (rH (qO rX (qO vC rG)) rE) func63 22 [(2,none)] rfl λE O=>by
  have u0:= @S0.eq_1;have u1:= @JM.eq_1
  let l1:LE (JM O):=⟨λx=>⟨[(0,sv (.list .str) O),(3,tv x.1),(4,iv x.2)],[],0,22,0⟩⟩
  let x1:XE (JM O) 0 pI:=⟨λx=>⟨[(3,tv x)],[],0,22,0⟩⟩
  exact rK
def WE (O:Int):Option Unit:=ite (0<=O/\O<(([([110,101,119]:pI),([102,117,122,122,121]:pI),([116,114,97,110,115,108,97,116,101,100]:pI),([114,101,118,105,101,119,101,100]:pI),([111,98,115,111,108,101,116,101]:pI)]:pJ).length:Int)) (some (())) none
abbrev Ls (x:Int):List qK:=[iv x]
@[go_sem] def Lt:Int->r8:=λO=>rv [] (WE O) λz=>([tv (qH .str ([([110,101,119]:pI),([102,117,122,122,121]:pI),([116,114,97,110,115,108,97,116,101,100]:pI),([114,101,118,105,101,119,101,100]:pI),([111,98,115,111,108,101,116,101]:pI)]:pJ) O)],[])
@[go_sem] def aJG O:=rF Ls qU Lt O
@[go_sem] abbrev aAO:Nat×r7:=mE 64 [.v] Ls qU Lt
def aAP:qW prog aAO:=
 rI (rH (qO rX (qO vC rG)) rE) func64 9 [(2,none)] rfl λE O=>by
  have u0:= @WE.eq_1;exact rK
def JN (O:pI):Nat->Option (Nat⊕(Unit⊕Bool)):=λa8=>ite (decide (a8<O.length)) (ite ((decide (a8<O.length))=true) (ite ((decide (a8<O.length))=true) (ite ((97<=(xN O a8))&&((xN O a8)<=122)) (some (.inl (AZ O a8))) (ite ((0<((a8:Nat):Int))&&(((((48<=(xN O a8))&&((xN O a8)<=57))||((xN O a8)=45))||((xN O a8)=95))||((xN O a8)=46))) (some (.inl (AZ O a8))) (some (.inr (.inr (false)))))) none) none) (some (.inr (.inl ())))
def N0 (O:pI):Option Bool:=sK (rC (JN O) 0) λ_=>some ((1<=(O.length:Int))&&((O.length:Int)<=40))
abbrev Lu (x:pI):List qK:=[tv x]
@[go_sem] def Lv:pI->r8:=λO=>rv [] (N0 O) λz=>([bv z],[])
@[go_sem] def aJH O:=rF Lu qU Lv O
@[go_sem] abbrev aAQ:Nat×r7:=mE 89 [.v] Lu qU Lv
def Lw:qW prog aAQ:=
 rI (rH (qO rX rG) rE) func89 51 [(2,none)] rfl λE O=>by
  have u0:= @N0.eq_1;have u1:= @JN.eq_1
  let l1:LE (JN O):=⟨λx=>⟨[(0,tv O),(7,rs 0 0)],[(0,.iter O x)],1,51,0⟩⟩
  let x1:XE (JN O) 0 Unit:=⟨λ_=>⟨[(0,tv O)],[],0,51,0⟩⟩
  exact rK
def N1 (O:pJ):Int->Option (Int⊕(Unit⊕Bool)):=λa8=>ite (decide (a8<(O.length:Int))) (ite (0<=a8/\a8<(O.length:Int)) ((N0 (qH .str O a8)).bind λaA=>ite ((((!aA)==false)&&((decide (0<a8))==true))=true->qG (a8- 1)) (ite ((((!aA)==false)&&((decide (0<a8))==true))=true->0<=(a8- 1)/\(a8- 1)<(O.length:Int)) (ite ((!aA)||((0<a8)&&(!Op.bytesLess (qH .str O (a8- 1)) (qH .str O a8)))) (some (.inr (.inr (false)))) (ite (qG (a8+1)) (some (.inl (a8+1))) none)) none) none) none) (some (.inr (.inl ())))
def JO (O:pJ):Option Bool:=sK (rC (N1 O) 0) λ_=>some (decide ((O.length:Int)<=20))
abbrev Lx (x:pJ):List qK:=[sv (.list .str) x]
@[go_sem] def Ly:pJ->r8:=λO=>rv [] (JO O) λz=>([bv z],[])
@[go_sem] def aJI O:=rF Lx qU Ly O
@[go_sem] abbrev aAR:Nat×r7:=mE 90 [.v] Lx qU Ly
def aAS:qW prog aAR:=
 rI (rH (qO rX (qO vC rG)) (qQ Lw rE)) func90 32 [(2,none)] rfl λE O=>by
  have u0:= @JO.eq_1;have u1:= @N1.eq_1
  let l1:LE (N1 O):=⟨λx=>⟨[(0,sv (.list .str) O),(5,sv (.list .str) O),(6,iv (O.length:Int)),(7,iv x)],[],0,32,0⟩⟩
  let x1:XE (N1 O) 0 Unit:=⟨λ_=>⟨[(0,sv (.list .str) O)],[],0,32,0⟩⟩
  exact rK
def Lz (O:Int):Unit:=()
abbrev Ma (x:Int):List qK:=[iv x]
@[go_sem] def Mb:Int->r8:=λO=>⟨[],[bv ((1<=O)&&(O<=4))],[]⟩
@[go_sem] def aJJ O:=rF Ma qU Mb O
@[go_sem] abbrev aAT:Nat×r7:=mE 91 [.v] Ma qU Mb
def aAU:qW prog aAT:=
 rI (rH rG rE) func91 9 [(2,none)] rfl λE O=>by
  have u0:= @Lz.eq_1;have q0: ∃z,(Lz O)=z:=⟨_,rfl⟩;exact wZ
attribute [irreducible] HK zZ RX A0 RY RZ S0 WE N0 JO
end
noncomputable section
def HL (O:(pT×Unit)) (a8:pI):Option Unit:=ite (O.1.length+a8.length<=140737488355328) (some (())) none
abbrev Mc (x:(pI×(pT×Unit)×Nat)):List qK:=[rs 0 0,tv x.1]
abbrev Md (x:(pI×(pT×Unit)×Nat)):List qP:=[.cells vA ((some (0,0)),x.2.1) [(1,1)],.grow 5 1 x.2.2]
@[go_sem] def Me:(pI×(pT×Unit)×Nat)->r8:=fun(O,a8,aA)=>rv [aA=(a8.1.length)] (HL a8 O) λz=>([iv (O.length:Int),(.any,none)],[.cells vA ((some (0,0)),((a8.1++tK O),())) [(1,1)],.grow 5 1 ((a8.1++tK O).length)])
@[go_sem] def aJK O a8 aA:=rF Mc Md Me (O,a8,aA)
@[go_sem] abbrev aAV:Nat×r7:=mE 92 [.p vA [1],.v] Mc Md Me
def Mf:qW prog aAV:=
 rI (rH (qO rX (qO HG (qO WA rG))) (qQ Ku rE)) func92 19 [(4,none),(5,none)] rfl λE ⟨O,a8,aA⟩=>by
  have u0:= @HL.eq_1;exact rK
def Mg (O:Int):Unit:=()
abbrev Mh (x:Int):List qK:=[iv x]
@[go_sem] def Mi:Int->r8:=λO=>⟨[],[bv ((1<=O)&&(O<=4))],[]⟩
@[go_sem] def aJL O:=rF Mh qU Mi O
@[go_sem] abbrev aAW:Nat×r7:=mE 100 [.v] Mh qU Mi
def aAX:qW prog aAW:=
 rI (rH rG rE) func100 9 [(2,none)] rfl λE O=>by
  have u0:= @Mg.eq_1;have q0: ∃z,(Mg O)=z:=⟨_,rfl⟩;exact wZ
def Mj (O:Int):Unit:=()
abbrev Mk (x:Int):List qK:=[sv (.int .u8) x]
@[go_sem] def Ml:Int->r8:=λO=>⟨[],[bv ((97<=O)&&(O<=122))],[]⟩
@[go_sem] def aJM O:=rF Mk qU Ml O
@[go_sem] abbrev aAY:Nat×r7:=mE 123 [.v] Mk qU Ml
def Mm:qW prog aAY:=
 rI (rH rG rE) func123 9 [(2,none)] rfl λE O=>by
  have u0:= @Mj.eq_1;have q0: ∃z,(Mj O)=z:=⟨_,rfl⟩;exact wZ
def Mn (O:Int):Unit:=()
abbrev Mo (x:Int):List qK:=[sv (.int .u8) x]
@[go_sem] def Mp:Int->r8:=λO=>⟨[],[bv ((48<=O)&&(O<=57))],[]⟩
@[go_sem] def aJN O:=rF Mo qU Mp O
@[go_sem] abbrev aAZ:Nat×r7:=mE 124 [.v] Mo qU Mp
def Mq:qW prog aAZ:=
 rI (rH rG rE) func124 9 [(2,none)] rfl λE O=>by
  have u0:= @Mn.eq_1;have q0: ∃z,(Mn O)=z:=⟨_,rfl⟩;exact wZ
def N2 (O:pI):Int->Option (Int⊕(Unit⊕Bool)):=λa8=>ite (decide (a8<(O.length:Int))) (ite (0<=a8/\a8<(O.length:Int)) (ite (((((!((97<=(qZ O a8))&&((qZ O a8)<=122)))&&(!((48<=(qZ O a8))&&((qZ O a8)<=57))))&&(!decide ((qZ O a8)=45)))&&(!decide ((qZ O a8)=95)))&&(!decide ((qZ O a8)=46))) (some (.inr (.inr (false)))) (ite (qG (a8+1)) (some (.inl (a8+1))) none)) none) (some (.inr (.inl ())))
def N3 (O:pI):Option Bool:=ite (((((O.length:Int)<1)||(40<(O.length:Int)))==false)=true->0<=(0:Int)/\0<(O.length:Int)) (ite ((((O.length:Int)<1)||(40<(O.length:Int)))||(!((97<=(qZ O 0))&&((qZ O 0)<=122)))) (some (false)) (sK (rC (N2 O) 1) λ_=>some (true))) none
abbrev Mr (x:pI):List qK:=[tv x]
@[go_sem] def Ms:pI->r8:=λO=>rv [] (N3 O) λz=>([bv z],[])
@[go_sem] def aJO O:=rF Mr qU Ms O
@[go_sem] abbrev aA0:Nat×r7:=mE 125 [.v] Mr qU Ms
def Mt:qW prog aA0:=
 rI (rH (qO rX rG) (qQ Mm (qQ Mq rE))) func125 48 [(2,none)] rfl λE O=>by
  have u0:= @N3.eq_1;have u1:= @N2.eq_1
  let l1:LE (N2 O):=⟨λx=>⟨[(0,tv O),(3,iv x)],[],0,48,0⟩⟩
  let x1:XE (N2 O) 0 Unit:=⟨λ_=>⟨[],[],0,48,0⟩⟩
  exact rK
def WF (O:pI):Option Unit:=ite (O.length<=9223372036854775807) (some (())) none
abbrev Mu (x:pI):List qK:=[tv x]
@[go_sem] def Mv:pI->r8:=λO=>rv [] (WF O) λz=>([bv (Lib.validD O)],[])
@[go_sem] def aJP O:=rF Mu qU Mv O
@[go_sem] abbrev aA1:Nat×r7:=mE 128 [.v] Mu qU Mv
def aA2:qW prog aA1:=
 rI (rH rG (qQ aAi rE)) func128 5 [(2,none)] rfl λE O=>by
  have u0:= @WF.eq_1;exact rK
def Mw (O:Int):Unit:=()
abbrev Mx (x:Int):List qK:=[sv (.int .u8) x]
@[go_sem] def My:Int->r8:=λO=>⟨[],[bv ((O<32)||(O=127))],[]⟩
@[go_sem] def aJQ O:=rF Mx qU My O
@[go_sem] abbrev aA3:Nat×r7:=mE 130 [.v] Mx qU My
def aA4:qW prog aA3:=
 rI (rH rG rE) func130 9 [(2,none)] rfl λE O=>by
  have u0:= @Mw.eq_1;have q0: ∃z,(Mw O)=z:=⟨_,rfl⟩;exact wZ
def WG (O:Int) (a8:Int):Option Unit:=ite (0<=(IntKind.wrap .i64 O)/\(IntKind.wrap .i64 O)<256/\rr 16) (ite (qG (a8- ((xH (IntKind.wrap .i64 O) 16).length:Int))) (ite (0<=(a8- ((xH (IntKind.wrap .i64 O) 16).length:Int))/\(a8- ((xH (IntKind.wrap .i64 O) 16).length:Int))<=140737488355328/\(([48]:pI).length:Int)*(a8- ((xH (IntKind.wrap .i64 O) 16).length:Int))<=140737488355328) (ite ((((MH ([48]:pI) (a8- ((xH (IntKind.wrap .i64 O) 16).length:Int)))++(xH (IntKind.wrap .i64 O) 16)).length:Int)<=9223372036854775807) (some (())) none) none) none) none
abbrev Mz (x:(Int×Int)):List qK:=[sv (.int .u8) x.1,iv x.2]
@[go_sem] def Na:(Int×Int)->r8:=fun(O,a8)=>rv [] (WG O a8) λz=>([tv ((MH ([48]:pI) (a8- ((xH (IntKind.wrap .i64 O) 16).length:Int)))++(xH (IntKind.wrap .i64 O) 16))],[])
@[go_sem] def aJR O a8:=rF Mz qU Na (O,a8)
@[go_sem] abbrev aA5:Nat×r7:=mE 133 [.v,.v] Mz qU Na
def aA6:qW prog aA5:=
 rI (rH (qO aAb (qO HH (qO rX rG))) (qQ aAl (qQ aAn rE))) func133 16 [(4,none)] rfl λE ⟨O,a8⟩=>by
  have u0:= @WG.eq_1;exact rK
def dm (O:Int) (a8:pI):Int->Option (Int⊕(Unit⊕Bool)):=λaA=>ite (decide (aA<(a8.length:Int))) (ite (0<=aA/\aA<(a8.length:Int)) (ite (decide ((qZ a8 aA)=O)) (some (.inr (.inr (true)))) (ite (qG (aA+1)) (some (.inl (aA+1))) none)) none) (some (.inr (.inl ())))
def JP (O:Int) (a8:pI):Option Bool:=sK (rC (dm O a8) 0) λ_=>some (false)
abbrev Nb (x:(Int×pI)):List qK:=[sv (.int .u8) x.1,tv x.2]
@[go_sem] def Nc:(Int×pI)->r8:=fun(O,a8)=>rv [] (JP O a8) λz=>([bv z],[])
@[go_sem] def aJS O a8:=rF Nb qU Nc (O,a8)
@[go_sem] abbrev aA7:Nat×r7:=mE 139 [.v,.v] Nb qU Nc
def aA8:qW prog aA7:=
 rI (rH (qO rX rG) rE) func139 17 [(4,none)] rfl λE ⟨O,a8⟩=>by
  have u0:= @JP.eq_1;have u1:= @dm.eq_1
  let l1:LE (dm O a8):=⟨λx=>⟨[(0,sv (.int .u8) O),(1,tv a8),(5,iv x)],[],0,17,0⟩⟩
  let x1:XE (dm O a8) 0 Unit:=⟨λ_=>⟨[],[],0,17,0⟩⟩
  exact rK
def WH (O:Int):Option Unit:=ite (0<=(IntKind.wrap .i64 (Int.tdiv O 16))/\(IntKind.wrap .i64 (Int.tdiv O 16))<(([48,49,50,51,52,53,54,55,56,57,97,98,99,100,101,102]:pI).length:Int)) (ite (0<=(Int.tmod O 16)/\(Int.tmod O 16)<(([48,49,50,51,52,53,54,55,56,57,97,98,99,100,101,102]:pI).length:Int)) (some (())) none) none
abbrev Nd (x:Int):List qK:=[iv x]
@[go_sem] def Nf:Int->r8:=λO=>rv [] (WH O) λz=>([tv (tQ ([(qZ ([48,49,50,51,52,53,54,55,56,57,97,98,99,100,101,102]:pI) (IntKind.wrap .i64 (Int.tdiv O 16))),(qZ ([48,49,50,51,52,53,54,55,56,57,97,98,99,100,101,102]:pI) (Int.tmod O 16))]:pT))],[])
@[go_sem] def aJT O:=rF Nd qU Nf O
@[go_sem] abbrev aA9:Nat×r7:=mE 140 [.v] Nd qU Nf
def aBa:qW prog aA9:=
 rI (rH (qO HH (qO rX (qO HG rG))) rE) func140 11 [(2,none)] rfl λE O=>by
  have u0:= @WH.eq_1;exact rK
def Ng (O:Int):Unit:=()
abbrev Nh (x:Int):List qK:=[iv x]
@[go_sem] def Ni:Int->r8:=λO=>⟨[],[bv (((O=7)||(O=8))||(O=9))],[]⟩
@[go_sem] def aJU O:=rF Nh qU Ni O
@[go_sem] abbrev aBb:Nat×r7:=mE 158 [.v] Nh qU Ni
def dn:qW prog aBb:=
 rI (rH rG rE) func158 13 [(2,none)] rfl λE O=>by
  have u0:= @Ng.eq_1;have q0: ∃z,(Ng O)=z:=⟨_,rfl⟩;exact wZ
def vQ (O:pI) (a8:Ja2) (aA:Int) (aB:pQ) (aC:pR):Option Int:=ite ((!decide (aB.2.1=0))||((a8.length:Int)<=aA)) (some (0)) (ite (0<=aA/\aA<(a8.length:Int)) (some ((qH sN a8 aA).1)) none)
abbrev Nj (x:(pI×Ja2×Int×pQ×pR)):List qK:=[rs 0 0]
abbrev Nk (x:(pI×Ja2×Int×pQ×pR)):List qP:=[.cells tG (x.1,(x.2.1,(x.2.2.1,((some 1),x.2.2.2.1)))) [],.map .str .bool x.2.2.2.2]
@[go_sem] def Nl:(pI×Ja2×Int×pQ×pR)->r8:=fun(O,a8,aA,aB,aC)=>rv [] (vQ O a8 aA aB aC) λz=>([iv z],[.cells tG (O,(a8,(aA,((some 1),(aB.1,(aB.2.1,())))))) [],.map .str .bool aC])
@[go_sem] def aJV O a8 aA aB aC:=rF Nj Nk Nl (O,a8,aA,aB,aC)
@[go_sem] abbrev aBc:Nat×r7:=mE 193 [.p tG []] Nj Nk Nl [(0,3,.m)] [0,1]
def C2:qW prog aBc:=
 rI (rH (qO tN (qO BA (qO zY (qO zD (qO AJ rG))))) rE) func193 31 [(2,none)] rfl λE ⟨O,a8,aA,aB,aC⟩=>by
  have u0:= @vQ.eq_1;exact rK
def WI (O:pI) (a8:Ja2) (aA:Int) (aB:pQ) (aC:pR):Option Int:=ite (decide (aA<(a8.length:Int))) (ite (0<=aA/\aA<(a8.length:Int)) (some ((qH sN a8 aA).2.2.1)) none) (some (O.length:Int))
abbrev Nn (x:(pI×Ja2×Int×pQ×pR)):List qK:=[rs 0 0]
abbrev No (x:(pI×Ja2×Int×pQ×pR)):List qP:=[.cells tG (x.1,(x.2.1,(x.2.2.1,((some 1),x.2.2.2.1)))) [],.map .str .bool x.2.2.2.2]
@[go_sem] def Np:(pI×Ja2×Int×pQ×pR)->r8:=fun(O,a8,aA,aB,aC)=>rv [] (WI O a8 aA aB aC) λz=>([iv z],[.cells tG (O,(a8,(aA,((some 1),(aB.1,(aB.2.1,())))))) [],.map .str .bool aC])
@[go_sem] def aJW O a8 aA aB aC:=rF Nn No Np (O,a8,aA,aB,aC)
@[go_sem] abbrev aBd:Nat×r7:=mE 199 [.p tG []] Nn No Np [(0,3,.m)] [0,1]
def aBe:qW prog aBd:=
 rI (rH (qO tN (qO rX (qO zY (qO zD (qO AJ rG))))) rE) func199 29 [(2,none)] rfl λE ⟨O,a8,aA,aB,aC⟩=>by
  have u0:= @WI.eq_1;exact rK
def Nq:Unit:=()
abbrev Nr (x:Unit):List qK:=[]
@[go_sem] def Ns:Unit->r8:=λ_=>⟨[],[sv .mp (some 0)],[.map .str (.int .i64) (rL .str (.int .i64) ([115,101,108,101,99,116]:pI) 9 (rL .str (.int .i64) ([111,114,100,105,110,97,108]:pI) 8 (rL .str (.int .i64) ([112,108,117,114,97,108]:pI) 7 (rL .str (.int .i64) ([108,105,115,116]:pI) 6 (rL .str (.int .i64) ([100,97,116,101]:pI) 5 (rL .str (.int .i64) ([117,110,105,116]:pI) 4 (rL .str (.int .i64) ([110,117,109,98,101,114]:pI) 3 ([]:List (pI×Int)))))))))]⟩
@[go_sem] def aJX:=rF Nr qU Ns ()
@[go_sem] abbrev Nt:Nat×r7:=mE 203 [] Nr qU Ns
def WJ:qW prog Nt:=
 rI (rH (qO tN (qO rX (qO MT rG))) rE) func203 3 [(0,none)] rfl λE ⟨⟩=>by
  have u0:= @Nq.eq_1;have q0: ∃z,Nq=z:=⟨_,rfl⟩;exact wZ
def Nu (O:Int):Unit:=()
abbrev Nv (x:Int):List qK:=[iv x]
@[go_sem] def Nw:Int->r8:=λO=>⟨[],[bv ((7<=O)&&(O<=9))],[]⟩
@[go_sem] def aJY O:=rF Nv qU Nw O
@[go_sem] abbrev dq:Nat×r7:=mE 204 [.v] Nv qU Nw
def F4:qW prog dq:=
 rI (rH rG rE) func204 9 [(2,none)] rfl λE O=>by
  have u0:= @Nu.eq_1;have q0: ∃z,(Nu O)=z:=⟨_,rfl⟩;exact wZ
def Nx (O:Int):Unit:=()
abbrev Ny (x:Int):List qK:=[sv (.int .u8) x]
@[go_sem] def Nz:Int->r8:=λO=>⟨[],[bv (((O=32)||(O=9))||(O=10))],[]⟩
@[go_sem] def aJZ O:=rF Ny qU Nz O
@[go_sem] abbrev aBf:Nat×r7:=mE 207 [.v] Ny qU Nz
def aBg:qW prog aBf:=
 rI (rH rG rE) func207 13 [(2,none)] rfl λE O=>by
  have u0:= @Nx.eq_1;have q0: ∃z,(Nx O)=z:=⟨_,rfl⟩;exact wZ
def vD (O:s9):Option (Int×pI×Int×Int):=ite (decide ((O.1.length:Int)=0)) (some (0,([]:pI),O.2.1,O.2.1)) (ite (0<=(0:Int)/\0<(O.1.length:Int)) (some ((qH sN O.1 0).1,(qH sN O.1 0).2.1,(qH sN O.1 0).2.2.1,(qH sN O.1 0).2.2.2.1)) none)
abbrev Oa (x:(s9×Nat)):List qK:=[rs 0 0]
abbrev Ob (x:(s9×Nat)):List qP:=[.cells tW x.1 [(2,1)],.grow 9 1 x.2]
@[go_sem] def Oc:(s9×Nat)->r8:=fun(O,a8)=>rv [a8=(O.2.2.1.length)] (vD O) λz=>([sv sN (z.1,(z.2.1,(z.2.2.1,(z.2.2.2,()))))],[.cells tW O [(2,1)],.grow 9 1 (O.2.2.1.length)])
@[go_sem] def aJ0 O a8:=rF Oa Ob Oc (O,a8)
@[go_sem] abbrev aBh:Nat×r7:=mE 210 [.p tW [2]] Oa Ob Oc [] [0,1]
def JQ:qW prog aBh:=
 rI (rH (qO tN (qO di (qO HI (qO D4 rG)))) rE) func210 24 [(2,some 228)] rfl λE ⟨O,a8⟩=>by
  have u0:= @vD.eq_1;exact rK
def N4 (O:pJ) (a8:pI):Int->Option (Int⊕(Unit⊕Bool)):=λaA=>ite (decide (aA<(O.length:Int))) (ite (0<=aA/\aA<(O.length:Int)) (ite (decide ((qH .str O aA)=a8)) (some (.inr (.inr (true)))) (ite (qG (aA+1)) (some (.inl (aA+1))) none)) none) (some (.inr (.inl ())))
def yY (O:pJ) (a8:pI):Option Bool:=sK (rC (N4 O a8) 0) λ_=>some (false)
abbrev Od (x:(pJ×pI)):List qK:=[sv (.list .str) x.1,tv x.2]
@[go_sem] def Oe:(pJ×pI)->r8:=fun(O,a8)=>rv [] (yY O a8) λz=>([bv z],[])
@[go_sem] def aJ1 O a8:=rF Od qU Oe (O,a8)
@[go_sem] abbrev aBi:Nat×r7:=mE 218 [.v,.v] Od qU Oe
def dr:qW prog aBi:=
 rI (rH (qO rX (qO vC rG)) rE) func218 18 [(4,none)] rfl λE ⟨O,a8⟩=>by
  have u0:= @yY.eq_1;have u1:= @N4.eq_1
  let l1:LE (N4 O a8):=⟨λx=>⟨[(0,sv (.list .str) O),(1,tv a8),(5,iv x)],[],0,18,0⟩⟩
  let x1:XE (N4 O a8) 0 Unit:=⟨λ_=>⟨[],[],0,18,0⟩⟩
  exact rK
def Of (O:Int):Unit:=()
abbrev Og (x:Int):List qK:=[iv x]
@[go_sem] def Oh:Int->r8:=λO=>⟨[],[bv ((O=7)||(O=8))],[]⟩
@[go_sem] def aJ2 O:=rF Og qU Oh O
@[go_sem] abbrev aBj:Nat×r7:=mE 219 [.v] Og qU Oh
def Oi:qW prog aBj:=
 rI (rH rG rE) func219 9 [(2,none)] rfl λE O=>by
  have u0:= @Of.eq_1;have q0: ∃z,(Of O)=z:=⟨_,rfl⟩;exact wZ
def Oj (O:Int):Unit:=()
abbrev Ok (x:Int):List qK:=[sv (.int .u8) x]
@[go_sem] def Ol:Int->r8:=λO=>⟨[],[bv ((((((O=123)||(O=125))||(O=60))||(O=62))||(O=35))||(O=92))],[]⟩
@[go_sem] def aJ3 O:=rF Ok qU Ol O
@[go_sem] abbrev aBk:Nat×r7:=mE 221 [.v] Ok qU Ol
def ub:qW prog aBk:=
 rI (rH rG rE) func221 25 [(2,none)] rfl λE O=>by
  have u0:= @Oj.eq_1;have q0: ∃z,(Oj O)=z:=⟨_,rfl⟩;exact wZ
def Ox (O:Int):Unit:=()
abbrev Oy (x:Int):List qK:=[iv x]
@[go_sem] def Oz:Int->r8:=λO=>⟨[],[bv (((0<=O)&&(O<=1114111))&&((O<55296)||(57343<O)))],[]⟩
@[go_sem] def aJ7 O:=rF Oy qU Oz O
@[go_sem] abbrev aBq:Nat×r7:=mE 235 [.v] Oy qU Oz
def Pa:qW prog aBq:=
 rI (rH rG rE) func235 17 [(2,none)] rfl λE O=>by
  have u0:= @Ox.eq_1;have q0: ∃z,(Ox O)=z:=⟨_,rfl⟩;exact wZ
attribute [irreducible] HL N3 WF WG JP WH vQ WI vD yY
end
noncomputable section
def S1 (O:pI) (a8:pI):Option Unit:=ite (((decide ((a8.length:Int)<=(O.length:Int)))==true)=true->0<=(0:Int)/\0<=(a8.length:Int)/\(a8.length:Int)<=(O.length:Int)) (some (())) none
abbrev Om (x:(pI×pI)):List qK:=[tv x.1,tv x.2]
@[go_sem] def On:(pI×pI)->r8:=fun(O,a8)=>rv [] (S1 O a8) λz=>([bv (((a8.length:Int)<=(O.length:Int))&&((s8 O 0 (a8.length:Int))=a8))],[])
@[go_sem] def aJ4 O a8:=rF Om qU On (O,a8)
@[go_sem] abbrev aBl:Nat×r7:=mE 222 [.v,.v] Om qU On
def aBm:qW prog aBl:=
 rI (rH (qO rX rG) rE) func222 18 [(4,none)] rfl λE ⟨O,a8⟩=>by
  have u0:= @S1.eq_1;exact rK
def FZ (O:(pT×Unit)) (a8:Int):Option Unit:=ite ((O.1.length+([a8]:pT).length)*1<=140737488355328) (some (())) none
abbrev Oo (x:(Int×(pT×Unit)×Nat)):List qK:=[rs 0 0,sv (.int .u8) x.1]
abbrev Oq (x:(Int×(pT×Unit)×Nat)):List qP:=[.cells vA ((some (0,0)),x.2.1) [(1,1)],.grow 5 1 x.2.2]
@[go_sem] def Ot:(Int×(pT×Unit)×Nat)->r8:=fun(O,a8,aA)=>rv [aA=(a8.1.length)] (FZ a8 O) λz=>([(.any,none)],[.cells vA ((some (0,0)),((a8.1++([O]:pT)),())) [(1,1)],.grow 5 1 ((a8.1++([O]:pT)).length)])
@[go_sem] def aJ5 O a8 aA:=rF Oo Oq Ot (O,a8,aA)
@[go_sem] abbrev aBn:Nat×r7:=mE 226 [.p vA [1],.v] Oo Oq Ot
def Ou:qW prog aBn:=
 rI (rH (qO HG (qO WA rG)) (qQ Ku rE)) func226 17 [(4,none)] rfl λE ⟨O,a8,aA⟩=>by
  have u0:= @FZ.eq_1;exact rK
def S2 (O:pI) (a8:pI):Option (pI×Bool):=(S1 O a8).bind λaA=>ite (!(((a8.length:Int)<=(O.length:Int))&&((s8 O 0 (a8.length:Int))=a8))) (some (O,false)) (ite (0<=(a8.length:Int)/\(a8.length:Int)<=(O.length:Int)/\(O.length:Int)<=(O.length:Int)) (some ((s8 O (a8.length:Int) (O.length:Int)),true)) none)
abbrev Ov (x:(pI×pI)):List qK:=[tv x.1,tv x.2]
@[go_sem] def Ow:(pI×pI)->r8:=fun(O,a8)=>rv [] (S2 O a8) λz=>([tv (z.1),bv (z.2)],[])
@[go_sem] def aJ6 O a8:=rF Ov qU Ow (O,a8)
@[go_sem] abbrev aBo:Nat×r7:=mE 232 [.v,.v] Ov qU Ow
def aBp:qW prog aBo:=
 rI (rH (qO rX rG) (qQ aBm rE)) func232 15 [(4,none),(5,none)] rfl λE ⟨O,a8⟩=>by
  have u0:= @S2.eq_1;exact rK
def F5 (O:Int):Option pI:=ite (decide (O<128)) (some (tQ ([(IntKind.wrap .u8 O)]:pT))) (ite (decide (O<2048)) (ite (qG (192+(IntKind.wrap .i64 (Int.tdiv O 64)))) (ite (qG (128+(Int.tmod O 64))) (some (tQ ([(IntKind.wrap .u8 (192+(IntKind.wrap .i64 (Int.tdiv O 64)))),(IntKind.wrap .u8 (128+(Int.tmod O 64)))]:pT))) none) none) (ite (decide (O<65536)) (ite (qG (224+(IntKind.wrap .i64 (Int.tdiv O 4096)))) (ite (qG (128+(Int.tmod (IntKind.wrap .i64 (Int.tdiv O 64)) 64))) (ite (qG (128+(Int.tmod O 64))) (some (tQ ([(IntKind.wrap .u8 (224+(IntKind.wrap .i64 (Int.tdiv O 4096)))),(IntKind.wrap .u8 (128+(Int.tmod (IntKind.wrap .i64 (Int.tdiv O 64)) 64))),(IntKind.wrap .u8 (128+(Int.tmod O 64)))]:pT))) none) none) none) (ite (qG (240+(IntKind.wrap .i64 (Int.tdiv O 262144)))) (ite (qG (128+(Int.tmod (IntKind.wrap .i64 (Int.tdiv O 4096)) 64))) (ite (qG (128+(Int.tmod (IntKind.wrap .i64 (Int.tdiv O 64)) 64))) (ite (qG (128+(Int.tmod O 64))) (some (tQ ([(IntKind.wrap .u8 (240+(IntKind.wrap .i64 (Int.tdiv O 262144)))),(IntKind.wrap .u8 (128+(Int.tmod (IntKind.wrap .i64 (Int.tdiv O 4096)) 64))),(IntKind.wrap .u8 (128+(Int.tmod (IntKind.wrap .i64 (Int.tdiv O 64)) 64))),(IntKind.wrap .u8 (128+(Int.tmod O 64)))]:pT))) none) none) none) none)))
abbrev Pb (x:Int):List qK:=[iv x]
@[go_sem] def Pc:Int->r8:=λO=>rv [] (F5 O) λz=>([tv z],[])
@[go_sem] def aJ8 O:=rF Pb qU Pc O
@[go_sem] abbrev aBr:Nat×r7:=mE 236 [.v] Pb qU Pc
def Pd:qW prog aBr:=
 rI (rH (qO tN (qO HH (qO rX (qO HG rG)))) rE) func236 61 [(2,none)] rfl λE O=>by
  have u0:= @F5.eq_1;exact rK
def Pe (O:pI) (a8:(List (pI×Int))):Unit:=()
abbrev Pf (x:(pI×(List (pI×Int)))):List qK:=[tv x.1,rs 0 0]
abbrev Pg (x:(pI×(List (pI×Int)))):List qP:=[.cells .mp (some 1) [],.map .str (.int .i64) x.2]
@[go_sem] def Ph:(pI×(List (pI×Int)))->r8:=fun(O,a8)=>⟨[],[bv (!decide ((sE .str (.int .i64) a8 O)=0))],[.cells .mp (some 1) [],.map .str (.int .i64) a8]⟩
@[go_sem] def aJ9 O a8:=rF Pf Pg Ph (O,a8)
@[go_sem] abbrev aBs:Nat×r7:=mE 253 [.v,.p .mp []] Pf Pg Ph [(0,0,.m)] [0,1]
def aBt:qW prog aBs:=
 rI (rH (qO tN (qO rX (qO MT rG))) rE) func253 8 [(3,none)] rfl λE ⟨O,a8⟩=>by
  have u0:= @Pe.eq_1;have q0: ∃z,(Pe O a8)=z:=⟨_,rfl⟩;exact wZ
def Pi (O:pI):Unit:=()
abbrev Pj (x:pI):List qK:=[tv x]
@[go_sem] def Pk:pI->r8:=λO=>⟨[],[bv ((O=([105,110,116,101,103,101,114]:pI))||(O=([112,101,114,99,101,110,116]:pI)))],[]⟩
@[go_sem] def aKa O:=rF Pj qU Pk O
@[go_sem] abbrev aBu:Nat×r7:=mE 255 [.v] Pj qU Pk
def aBv:qW prog aBu:=
 rI (rH rG rE) func255 9 [(2,none)] rfl λE O=>by
  have u0:= @Pi.eq_1;have q0: ∃z,(Pi O)=z:=⟨_,rfl⟩;exact wZ
def N5 (O:pI):Int->Option (Int⊕(Unit⊕Bool)):=λa8=>ite (decide (a8<(O.length:Int))) (ite (0<=a8/\a8<(O.length:Int)) (ite ((((qZ O a8)<97)||(122<(qZ O a8)))&&(((qZ O a8)<65)||(90<(qZ O a8)))) (some (.inr (.inr (false)))) (ite (qG (a8+1)) (some (.inl (a8+1))) none)) none) (some (.inr (.inl ())))
def JR (O:pI):Option Bool:=sK (rC (N5 O) 0) λ_=>some ((!decide (O=([]:pI)))&&((O.length:Int)<=40))
abbrev Pm (x:pI):List qK:=[tv x]
@[go_sem] def Pn:pI->r8:=λO=>rv [] (JR O) λz=>([bv z],[])
@[go_sem] def aKb O:=rF Pm qU Pn O
@[go_sem] abbrev aBw:Nat×r7:=mE 257 [.v] Pm qU Pn
def Po:qW prog aBw:=
 rI (rH (qO rX rG) rE) func257 35 [(2,none)] rfl λE O=>by
  have u0:= @JR.eq_1;have u1:= @N5.eq_1
  let l1:LE (N5 O):=⟨λx=>⟨[(0,tv O),(6,iv (O.length:Int)),(7,iv x)],[],0,35,0⟩⟩
  let x1:XE (N5 O) 0 Unit:=⟨λ_=>⟨[(0,tv O)],[],0,35,0⟩⟩
  exact rK
def JS (O:Int):Bool:=ite (decide (O=123)) (ite (decide (O=123)) (true) (false)) (ite (decide (O=125)) (ite (decide (O=125)) (true) (false)) (ite (decide (O=60)) (ite (decide (O=60)) (true) (false)) (ite (decide (O=62)) (ite (decide (O=62)) (true) (false)) (ite (decide (O=35)) (ite (decide (O=35)) (true) (false)) (ite (decide (O=92)) (true) (false))))))
abbrev Pp (x:Int):List qK:=[sv (.int .u8) x]
@[go_sem] def Pq:Int->r8:=λO=>⟨[],[bv (JS O)],[]⟩
@[go_sem] def aKc O:=rF Pp qU Pq O
@[go_sem] abbrev aBx:Nat×r7:=mE 259 [.v] Pp qU Pq
def Pr:qW prog aBx:=
 rI (rH rG rE) func259 11 [(2,none)] rfl λE O=>by
  have u0:= @JS.eq_1;have q0: ∃z,(JS O)=z:=⟨_,rfl⟩;exact wZ
def N6 (O:pJ):(Int×pT)->Option ((Int×pT)⊕pT):=fun(a8,aA)=>ite (decide (a8<(O.length:Int))) (ite (0<=a8/\a8<(O.length:Int)) ((HL (aA,()) (qH .str O a8)).bind λaB=>ite (qG (a8+1)) (some (.inl ((a8+1),(aA++tK (qH .str O a8))))) none) none) (some (.inr aA))
def zE (O:(pT×Unit)) (a8:pJ):Option pT:=rA (rC (N6 a8) (0,O.1)) λaA=>some (aA)
abbrev Ps (x:(pJ×(pT×Unit)×Nat)):List qK:=[rs 0 0,sv (.list .str) x.1]
abbrev Pt (x:(pJ×(pT×Unit)×Nat)):List qP:=[.cells (.pair vA .unit) (((some (0,0)),x.2.1),()) [(1,1)],.grow 5 1 x.2.2]
@[go_sem] def Pu:(pJ×(pT×Unit)×Nat)->r8:=fun(O,a8,aA)=>rv [aA=(a8.1.length)] (zE a8 O) λz=>([],[.cells (.pair vA .unit) (((some (0,0)),(z,())),()) [(1,1)],.grow 5 1 (z.length)])
@[go_sem] def aKd O a8 aA:=rF Ps Pt Pu (O,a8,aA)
@[go_sem] abbrev aBy:Nat×r7:=mE 262 [.p (.pair vA .unit) [1],.v] Ps Pt Pu
def aBz:qW prog aBy:=
 rI (rH (qO rX (qO vC (qO Kb rG))) (qQ Mf rE)) func262 18 [] rfl λE ⟨O,a8,aA⟩=>by
  have u0:= @zE.eq_1;have u1:= @N6.eq_1
  let l1:LE (N6 O):=⟨λx=>⟨[(0,rs 0 0),(6,sv (.list .str) O),(7,iv (O.length:Int)),(8,iv x.1)],[(0,.cells (.pair vA .unit) (((some (0,0)),(x.2,())),()) [(1,1)]),(1,.grow 5 1 (x.2.length))],2,18,2⟩⟩
  let x1:XE (N6 O) 0 pT:=⟨λx=>⟨[],[(0,.cells (.pair vA .unit) (((some (0,0)),(x,())),()) [(1,1)]),(1,.grow 5 1 (x.length))],2,18,2⟩⟩
  exact rK
def N7 (O:pI):Int->Option (Int⊕(Int⊕Int)):=λa8=>ite (decide (a8<(O.length:Int))) (ite (0<=a8/\a8<(O.length:Int)) (ite (((decide ((qZ O a8)=92))==true)=true->qG (a8+1)) (ite (((((qZ O a8)=92)&&((a8+1)<(O.length:Int)))==true)=true->qG (a8+1)) (ite (((((qZ O a8)=92)&&((a8+1)<(O.length:Int)))==true)=true->0<=(a8+1)/\(a8+1)<(O.length:Int)) (ite ((((qZ O a8)=92)&&((a8+1)<(O.length:Int)))&&(((((((qZ O (a8+1))=123)||((qZ O (a8+1))=125))||((qZ O (a8+1))=60))||((qZ O (a8+1))=62))||((qZ O (a8+1))=35))||((qZ O (a8+1))=92))) (ite (qG (a8+2)) (some (.inl (a8+2))) none) (ite (0<=a8/\a8<(O.length:Int)) (ite (!(((((((qZ O a8)=123)||((qZ O a8)=125))||((qZ O a8)=60))||((qZ O a8)=62))||((qZ O a8)=35))||((qZ O a8)=92))) (ite (qG (a8+1)) (some (.inl (a8+1))) none) (some (.inr (.inr (a8))))) none)) none) none) none) none) (some (.inr (.inl a8)))
def S3 (O:pI) (a8:Int):Option Int:=sK (rC (N7 O) a8) λaA=>some (aA)
abbrev Pv (x:(pI×Int)):List qK:=[tv x.1,iv x.2]
@[go_sem] def Pw:(pI×Int)->r8:=fun(O,a8)=>rv [] (S3 O a8) λz=>([iv z],[])
@[go_sem] def aKe O a8:=rF Pv qU Pw (O,a8)
@[go_sem] abbrev aBA:Nat×r7:=mE 264 [.v,.v] Pv qU Pw
def aBB:qW prog aBA:=
 rI (rH (qO rX rG) (qQ ub rE)) func264 40 [(4,none)] rfl λE ⟨O,a8⟩=>by
  have u0:= @S3.eq_1;have u1:= @N7.eq_1
  let l1:LE (N7 O):=⟨λx=>⟨[(0,tv O),(1,iv x)],[],0,40,0⟩⟩
  let x1:XE (N7 O) 0 Int:=⟨λx=>⟨[(1,iv x)],[],0,40,0⟩⟩
  exact rK
def Px (O:Int):Unit:=()
abbrev Py (x:Int):List qK:=[sv (.int .u8) x]
@[go_sem] def Pz:Int->r8:=λO=>⟨[],[bv ((97<=O)&&(O<=122))],[]⟩
@[go_sem] def aKf O:=rF Py qU Pz O
@[go_sem] abbrev aBC:Nat×r7:=mE 269 [.v] Py qU Pz
def Qa:qW prog aBC:=
 rI (rH rG rE) func269 9 [(2,none)] rfl λE O=>by
  have u0:= @Px.eq_1;have q0: ∃z,(Px O)=z:=⟨_,rfl⟩;exact wZ
def Qb (O:pI):Unit:=()
abbrev Qc (x:pI):List qK:=[tv x]
@[go_sem] def Qd:pI->r8:=λO=>⟨[],[bv ((((((O=([122,101,114,111]:pI))||(O=([111,110,101]:pI)))||(O=([116,119,111]:pI)))||(O=([102,101,119]:pI)))||(O=([109,97,110,121]:pI)))||(O=([111,116,104,101,114]:pI)))],[]⟩
@[go_sem] def aKg O:=rF Qc qU Qd O
@[go_sem] abbrev aBD:Nat×r7:=mE 270 [.v] Qc qU Qd
def aBE:qW prog aBD:=
 rI (rH rG rE) func270 25 [(2,none)] rfl λE O=>by
  have u0:= @Qb.eq_1;have q0: ∃z,(Qb O)=z:=⟨_,rfl⟩;exact wZ
def N8 (O:pI):Int->Option (Int⊕(Unit⊕Bool)):=λa8=>ite (decide (a8<(O.length:Int))) (ite (0<=a8/\a8<(O.length:Int)) (ite (!(((97<=(qZ O a8))&&((qZ O a8)<=122))||((65<=(qZ O a8))&&((qZ O a8)<=90)))) (some (.inr (.inr (false)))) (ite (qG (a8+1)) (some (.inl (a8+1))) none)) none) (some (.inr (.inl ())))
def EA (O:pI):Option Bool:=sK (rC (N8 O) 0) λ_=>some ((1<=(O.length:Int))&&((O.length:Int)<=40))
abbrev Qe (x:pI):List qK:=[tv x]
@[go_sem] def Qf:pI->r8:=λO=>rv [] (EA O) λz=>([bv z],[])
@[go_sem] def aKh O:=rF Qe qU Qf O
@[go_sem] abbrev aBF:Nat×r7:=mE 272 [.v] Qe qU Qf
def Qg:qW prog aBF:=
 rI (rH (qO rX rG) rE) func272 37 [(2,none)] rfl λE O=>by
  have u0:= @EA.eq_1;have u1:= @N8.eq_1
  let l1:LE (N8 O):=⟨λx=>⟨[(0,tv O),(3,iv x)],[],0,37,0⟩⟩
  let x1:XE (N8 O) 0 Unit:=⟨λ_=>⟨[(0,tv O)],[],0,37,0⟩⟩
  exact rK
def Qh (O:Int):Unit:=()
abbrev Qi (x:Int):List qK:=[sv (.int .u8) x]
@[go_sem] def Qj:Int->r8:=λO=>⟨[],[bv ((((97<=O)&&(O<=122))||((65<=O)&&(O<=90)))||((48<=O)&&(O<=57)))],[]⟩
@[go_sem] def aKi O:=rF Qi qU Qj O
@[go_sem] abbrev aBG:Nat×r7:=mE 290 [.v] Qi qU Qj
def Qk:qW prog aBG:=
 rI (rH rG rE) func290 25 [(2,none)] rfl λE O=>by
  have u0:= @Qh.eq_1;have q0: ∃z,(Qh O)=z:=⟨_,rfl⟩;exact wZ
def Ql (O:Int):Unit:=()
abbrev Qm (x:Int):List qK:=[sv (.int .u8) x]
@[go_sem] def Qn:Int->r8:=λO=>⟨[],[bv (((97<=O)&&(O<=122))||((65<=O)&&(O<=90)))],[]⟩
@[go_sem] def aKj O:=rF Qm qU Qn O
@[go_sem] abbrev aBH:Nat×r7:=mE 297 [.v] Qm qU Qn
def aBI:qW prog aBH:=
 rI (rH rG (qQ Qa rE)) func297 13 [(2,none)] rfl λE O=>by
  have u0:= @Ql.eq_1;have q0: ∃z,(Ql O)=z:=⟨_,rfl⟩;exact wZ
def NC (O:pI):Bool:=ite (decide (O=([122,101,114,111]:pI))) (ite (decide (O=([122,101,114,111]:pI))) (true) (false)) (ite (decide (O=([111,110,101]:pI))) (ite (decide (O=([111,110,101]:pI))) (true) (false)) (ite (decide (O=([116,119,111]:pI))) (ite (decide (O=([116,119,111]:pI))) (true) (false)) (ite (decide (O=([102,101,119]:pI))) (ite (decide (O=([102,101,119]:pI))) (true) (false)) (ite (decide (O=([109,97,110,121]:pI))) (ite (decide (O=([109,97,110,121]:pI))) (true) (false)) (ite (decide (O=([111,116,104,101,114]:pI))) (true) (false))))))
abbrev Qs (x:pI):List qK:=[tv x]
@[go_sem] def Qt:pI->r8:=λO=>⟨[],[bv (NC O)],[]⟩
@[go_sem] def aKm O:=rF Qs qU Qt O
@[go_sem] abbrev aBN:Nat×r7:=mE 312 [.v] Qs qU Qt
def aBO:qW prog aBN:=
 rI (rH rG rE) func312 11 [(2,none)] rfl λE O=>by
  have u0:= @NC.eq_1;have q0: ∃z,(NC O)=z:=⟨_,rfl⟩;exact wZ
attribute [irreducible] S1 FZ S2 F5 JR zE S3 EA
end
noncomputable section
def NA (O:pI):Int->Option (Int⊕(Unit⊕Int)):=λa8=>ite (decide (a8<(([([110,117,109,98,101,114]:pI),([117,110,105,116]:pI),([100,97,116,101]:pI),([108,105,115,116]:pI),([112,108,117,114,97,108]:pI),([111,114,100,105,110,97,108]:pI),([115,101,108,101,99,116]:pI)]:pJ).length:Int))) (ite (0<=a8/\a8<(([([110,117,109,98,101,114]:pI),([117,110,105,116]:pI),([100,97,116,101]:pI),([108,105,115,116]:pI),([112,108,117,114,97,108]:pI),([111,114,100,105,110,97,108]:pI),([115,101,108,101,99,116]:pI)]:pJ).length:Int)) (ite (decide ((qH .str ([([110,117,109,98,101,114]:pI),([117,110,105,116]:pI),([100,97,116,101]:pI),([108,105,115,116]:pI),([112,108,117,114,97,108]:pI),([111,114,100,105,110,97,108]:pI),([115,101,108,101,99,116]:pI)]:pJ) a8)=O)) (ite (qG (3+a8)) (some (.inr (.inr (3+a8)))) none) (ite (qG (a8+1)) (some (.inl (a8+1))) none)) none) (some (.inr (.inl ())))
def NB (O:pI):Option Int:=sK (rC (NA O) 0) λ_=>some (0)
abbrev Qq (x:pI):List qK:=[tv x]
@[go_sem] def Qr:pI->r8:=λO=>rv [] (NB O) λz=>([iv z],[])
@[go_sem] def aKl O:=rF Qq qU Qr O
@[go_sem] abbrev aBL:Nat×r7:=mE 295 [.v] Qq qU Qr
theorem aBM:qW prog aBL:=
 rI (rH (qO rX (qO vC rG)) rE) func295 20 [(2,none)] rfl λE O=>by
  have u0:= @NB.eq_1;have u1:= @NA.eq_1
  let l1:LE (NA O):=⟨λx=>⟨[(0,tv O),(3,(.val (.list .str) ([([110,117,109,98,101,114]:pI),([117,110,105,116]:pI),([100,97,116,101]:pI),([108,105,115,116]:pI),([112,108,117,114,97,108]:pI),([111,114,100,105,110,97,108]:pI),([115,101,108,101,99,116]:pI)]:pJ),some 0)),(4,iv x)],[(0,.grow 9 1 (([([110,117,109,98,101,114]:pI),([117,110,105,116]:pI),([100,97,116,101]:pI),([108,105,115,116]:pI),([112,108,117,114,97,108]:pI),([111,114,100,105,110,97,108]:pI),([115,101,108,101,99,116]:pI)]:pJ).length))],1,20,0⟩⟩
  let x1:XE (NA O) 0 Unit:=⟨λ_=>⟨[],[],0,20,0⟩⟩
  exact rK
def ND (O:pI):Int->Option (Int⊕(Unit⊕Bool)):=λa8=>ite (decide (a8<(O.length:Int))) (ite (0<=a8/\a8<(O.length:Int)) (ite (((decide ((qZ O a8)<48))==false)=true->0<=a8/\a8<(O.length:Int)) (ite (((qZ O a8)<48)||(57<(qZ O a8))) (some (.inr (.inr (false)))) (ite (qG (a8+1)) (some (.inl (a8+1))) none)) none) none) (some (.inr (.inl ())))
def S4 (O:pI):Option Bool:=sK (rC (ND O) 0) λ_=>some (true)
abbrev Qu (x:pI):List qK:=[tv x]
@[go_sem] def Qv:pI->r8:=λO=>rv [] (S4 O) λz=>([bv z],[])
@[go_sem] def aKn O:=rF Qu qU Qv O
@[go_sem] abbrev Qw:Nat×r7:=mE 314 [.v] Qu qU Qv
theorem aBP:qW prog Qw:=
 rI (rH (qO rX rG) rE) func314 20 [(2,none)] rfl λE O=>by
  have u0:= @S4.eq_1;have u1:= @ND.eq_1
  let l1:LE (ND O):=⟨λx=>⟨[(0,tv O),(3,iv x)],[],0,20,0⟩⟩
  let x1:XE (ND O) 0 Unit:=⟨λ_=>⟨[],[],0,20,0⟩⟩
  exact rK
def NE (O:pI):Int->Option (Int⊕(Unit⊕Bool)):=λa8=>ite (decide (a8<(O.length:Int))) (ite (0<=a8/\a8<(O.length:Int)) (ite (!decide ((qZ O a8)=48)) (some (.inr (.inr (false)))) (ite (qG (a8+1)) (some (.inl (a8+1))) none)) none) (some (.inr (.inl ())))
def NF (O:pI):Option Bool:=sK (rC (NE O) 0) λ_=>some (true)
abbrev Qx (x:pI):List qK:=[tv x]
@[go_sem] def Qy:pI->r8:=λO=>rv [] (NF O) λz=>([bv z],[])
@[go_sem] def aKo O:=rF Qx qU Qy O
@[go_sem] abbrev Qz:Nat×r7:=mE 315 [.v] Qx qU Qy
theorem aBQ:qW prog Qz:=
 rI (rH (qO rX rG) rE) func315 14 [(2,none)] rfl λE O=>by
  have u0:= @NF.eq_1;have u1:= @NE.eq_1
  let l1:LE (NE O):=⟨λx=>⟨[(0,tv O),(3,iv x)],[],0,14,0⟩⟩
  let x1:XE (NE O) 0 Unit:=⟨λ_=>⟨[],[],0,14,0⟩⟩
  exact rK
def WK (O:pI) (a8:pI):Option Unit:=ite (((decide ((a8.length:Int)<=(O.length:Int)))==true)=true->qG ((O.length:Int)- (a8.length:Int))) (ite (((decide ((a8.length:Int)<=(O.length:Int)))==true)=true->0<=((O.length:Int)- (a8.length:Int))/\((O.length:Int)- (a8.length:Int))<=(O.length:Int)/\(O.length:Int)<=(O.length:Int)) (some (())) none) none
abbrev Ra (x:(pI×pI)):List qK:=[tv x.1,tv x.2]
@[go_sem] def Rb:(pI×pI)->r8:=fun(O,a8)=>rv [] (WK O a8) λz=>([bv (((a8.length:Int)<=(O.length:Int))&&((s8 O ((O.length:Int)- (a8.length:Int)) (O.length:Int))=a8))],[])
@[go_sem] def aKp O a8:=rF Ra qU Rb (O,a8)
@[go_sem] abbrev aBR:Nat×r7:=mE 324 [.v,.v] Ra qU Rb
theorem aBS:qW prog aBR:=
 rI (rH (qO rX rG) rE) func324 21 [(4,none)] rfl λE ⟨O,a8⟩=>by
  have u0:= @WK.eq_1;exact rK
def HN (O:pI):Option Unit:=ite ((List.all ([48,49,50,51,52,53,54,55,56,57]:pI) λb=>decide (b.toNat<128))=true/\List.length ([48,49,50,51,52,53,54,55,56,57]:pI)<4294967281) (ite (O.length<=9223372036854775807) (some (())) none) none
abbrev Rc (x:pI):List qK:=[tv x]
@[go_sem] def Re:pI->r8:=λO=>rv [] (HN O) λz=>([bv (decide ((Lib.trimS O ([48,49,50,51,52,53,54,55,56,57]:pI))=([]:pI)))],[])
@[go_sem] def aKq O:=rF Rc qU Re O
@[go_sem] abbrev aBT:Nat×r7:=mE 329 [.v] Rc qU Re
theorem aBU:qW prog aBT:=
 rI (rH rG (qQ Kr rE)) func329 6 [(2,none)] rfl λE O=>by
  have u0:= @HN.eq_1;exact rK
def WL (O:pI) (a8:pI):Option (pI×pI×Bool):=ite (O.length<4294967281) (ite (decide (0<=(FU O a8))) (ite (0<=(0:Int)/\0<=(FU O a8)/\(FU O a8)<=(O.length:Int)) (ite (qG ((FU O a8)+(a8.length:Int))) (ite (0<=((FU O a8)+(a8.length:Int))/\((FU O a8)+(a8.length:Int))<=(O.length:Int)/\(O.length:Int)<=(O.length:Int)) (some ((s8 O 0 (FU O a8)),(s8 O ((FU O a8)+(a8.length:Int)) (O.length:Int)),true)) none) none) none) (some (O,([]:pI),false))) none
abbrev Rf (x:(pI×pI)):List qK:=[tv x.1,tv x.2]
@[go_sem] def Rg:(pI×pI)->r8:=fun(O,a8)=>rv [] (WL O a8) λz=>([tv (z.1),tv (z.2.1),bv (z.2.2)],[])
@[go_sem] def aKr O a8:=rF Rf qU Rg (O,a8)
@[go_sem] abbrev aBV:Nat×r7:=mE 332 [.v,.v] Rf qU Rg
theorem aBW:qW prog aBV:=
 rI (rH (qO rX rG) (qQ aAt rE)) func332 23 [(4,none),(5,none),(6,none)] rfl λE ⟨O,a8⟩=>by
  have u0:= @WL.eq_1;exact rK
def N9 (O:pI):Option Unit:=ite ((List.all ([48]:pI) λb=>decide (b.toNat<128))=true/\List.length ([48]:pI)<4294967281) (ite (O.length<=9223372036854775807) (some (())) none) none
abbrev Qo (x:pI):List qK:=[tv x]
@[go_sem] def Qp:pI->r8:=λO=>rv [] (N9 O) λz=>([bv (decide ((Lib.trimS O ([48]:pI))=([]:pI)))],[])
@[go_sem] def aKk O:=rF Qo qU Qp O
@[go_sem] abbrev aBJ:Nat×r7:=mE 334 [.v] Qo qU Qp
theorem aBK:qW prog aBJ:=
 rI (rH rG (qQ Kr rE)) func334 6 [(2,none)] rfl λE O=>by
  have u0:= @N9.eq_1;exact rK
abbrev Rh (x:Int):List qK:=[iv x]
@[go_sem] def Ri (O:Int->Option pI):Int->r8:=λa8=>rv [] (O a8) λz=>([tv z],[])
@[go_sem] def aKs (O:Int->Option pI) a8:=rF Rh qU (Ri O) a8
@[go_sem] abbrev du (F:Int->Option pI):Nat×r7:=mE 191 [.v] Rh qU (Ri F)
section
variable {O:Int->Option pI}(hG0:qW prog (du O))
include hG0
def S5 (O:Int->Option pI) (a8:Int):Option pI:=ite (decide (a8<10)) (ite (qG (48+a8)) (some (IV (IntKind.wrap .i32 (48+a8)))) none) ((O (IntKind.wrap .i64 (Int.tdiv a8 10))).bind λaA=>ite (qG (48+(Int.tmod a8 10))) (ite (((aA++(IV (IntKind.wrap .i32 (48+(Int.tmod a8 10))))).length:Int)<=9223372036854775807) (some (aA++(IV (IntKind.wrap .i32 (48+(Int.tmod a8 10)))))) none) none)
theorem aBX:qW prog (du (S5 O)):=
 rI (rH (qO tN (qO rX (qO aAc rG))) (qQ hG0 rE)) func191 18 [(2,none)] rfl λE a8=>by
  have u0:= @S5.eq_1;exact rK
end
def aBY (p:(Int->Option pI)):(Int->Option pI):=S5 p
def dv (n:Nat):(Int->Option pI):=Nat.rec (motive:=λ_=>(Int->Option pI)) (λ_=>none) (λ_ p=>aBY p) n
theorem Rj: ∀n:Nat,qW prog (du (dv n))
 |0=>uX
 |n+1=>have h:=Rj n;aBX h
def NH:Int->Option pI:=(dv 1000)
@[go_sem] abbrev aBZ:Nat×r7:=du NH
theorem aB0:qW prog aBZ:=(Rj 1000)
theorem aHj:NH=(dv 1000):=rfl
abbrev Rk (x:(Ja0×pJ)):List qK:=[sv (.list .part) x.1,sv (.list .str) x.2]
@[go_sem] def Rl (O:Ja0->pJ->Option pJ):(Ja0×pJ)->r8:=fun(a8,aA)=>rv [] (O a8 aA) λz=>([sv (.list .str) z],[])
@[go_sem] def aKt (O:Ja0->pJ->Option pJ) a8 aA:=rF Rk qU (Rl O) (a8,aA)
@[go_sem] abbrev dw (F:Ja0->pJ->Option pJ):Nat×r7:=mE 156 [.v,.v] Rk qU (Rl F)
section
variable {O:Ja0->pJ->Option pJ}(hG0:qW prog (dw O))
include hG0
def HO (a8:Ja0) (aA:Int) (O:Ja0->pJ->Option pJ):(pJ×Int)->Option ((pJ×Int)⊕pJ):=fun(aB,aC)=>ite (decide (aC<(((qF.un (qH .part a8 aA)).2.2.2.2.1).length:Int))) (ite (0<=aC/\aC<(((qF.un (qH .part a8 aA)).2.2.2.2.1).length:Int)) ((O ((qH rT ((qF.un (qH .part a8 aA)).2.2.2.2.1) aC).2.1) aB).bind λaD=>ite (qG (aC+1)) (some (.inl (aD,(aC+1)))) none) none) (some (.inr aB))
def G0 (a8:Ja0) (O:Ja0->pJ->Option pJ):(pJ×Int)->Option ((pJ×Int)⊕pJ):=fun(aE,aA)=>ite (decide (aA<(a8.length:Int))) (ite (0<=aA/\aA<(a8.length:Int)) (ite ((((2<=(qF.un (qH .part a8 aA)).1)&&((qF.un (qH .part a8 aA)).1<=9))==true)=true->(yY aE ((qF.un (qH .part a8 aA)).2.2.1)).isSome=true) (rA (σ:=pJ) (ite (((2<=(qF.un (qH .part a8 aA)).1)&&((qF.un (qH .part a8 aA)).1<=9))&&(!(val (yY aE ((qF.un (qH .part a8 aA)).2.2.1))))) (ite ((([]:pJ).length+aE.length)*16<=140737488355328) (ite (((([]:pJ)++aE).length+([(qF.un (qH .part a8 aA)).2.2.1]:pJ).length)*16<=140737488355328) (some ((([]:pJ)++aE)++([(qF.un (qH .part a8 aA)).2.2.1]:pJ))) none) none) (some (aE))) λaF=>(O ((qF.un (qH .part a8 aA)).2.2.2.2.2.1) aF).bind λaG=>rA (rC (HO a8 aA O) (aG,0)) λaH=>ite (qG (aA+1)) (some (.inl (aH,(aA+1)))) none) none) none) (some (.inr aE))
def S6 (O:Ja0->pJ->Option pJ) (a8:Ja0) (aI:pJ):Option pJ:=rA (rC (G0 a8 O) (aI,0)) λaJ=>some (aJ)
theorem aB1:qW prog (dw (S6 O)):=
 rI (rH (qO tN (qO rX (qO vC (qO uT (qO yK (qO uY (qO AK rG))))))) (qQ dr (qQ hG0 rE))) func156 60 [(4,none)] rfl λE ⟨a8,aI⟩=>by
  have u0:= @S6.eq_1;have u1:= @G0.eq_1
  let l1:LE (G0 a8 O):=⟨λx=>⟨[(0,sv (.list .part) a8),(1,sv (.list .str) x.1),(5,iv x.2)],[],0,60,0⟩⟩
  have u2:= @HO.eq_1
  let l2 aA:LE (HO a8 aA O):=⟨λx=>⟨[(0,sv (.list .part) a8),(1,sv (.list .str) x.1),(5,iv aA),(6,rs 0 0),(7,iv x.2)],[(0,.cells sM (qF.un (qH .part a8 aA)) [])],1,60,0⟩⟩
  let j1 aA:JE 32 pJ:=⟨λx=>⟨[(0,sv (.list .part) a8),(1,sv (.list .str) x),(5,iv aA),(6,rs 0 0)],[(0,.cells sM (qF.un (qH .part a8 aA)) [])],1,60,0⟩⟩
  let x1:XE (G0 a8 O) 0 pJ:=⟨λx=>⟨[(1,sv (.list .str) x)],[],0,60,0⟩⟩
  let x2 aA:XE (HO a8 aA O) 2 pJ:=⟨λx=>⟨[(0,sv (.list .part) a8),(1,sv (.list .str) x),(5,iv aA)],[],0,60,0⟩⟩
  exact rK
end
def aB2 (p:(Ja0->pJ->Option pJ)):(Ja0->pJ->Option pJ):=S6 p
def NI (n:Nat):(Ja0->pJ->Option pJ):=Nat.rec (motive:=λ_=>(Ja0->pJ->Option pJ)) (λ_ _=>none) (λ_ p=>aB2 p) n
theorem Rm: ∀n:Nat,qW prog (dw (NI n))
 |0=>uX
 |n+1=>have h:=Rm n;aB1 h
def G1:Ja0->pJ->Option pJ:=(NI 1000)
@[go_sem] abbrev aB3:Nat×r7:=dw G1
theorem Rn:qW prog aB3:=(Rm 1000)
theorem aIu:G1=(NI 1000):=rfl
def dz (O:Ja3):(Int×(List (zX×pI)))->Option ((Int×(List (zX×pI)))⊕((List (zX×pI))⊕(List (zX×pI)))):=fun(a8,aA)=>ite (decide (a8<(O.length:Int))) (ite (0<=a8/\a8<(O.length:Int)) (ite (wX wU .str aA ((qH rV O a8).1)) (none) (ite (qG (a8+1)) (some (.inl ((a8+1),(rL wU .str ((qH rV O a8).1) ((qH rV O a8).2.1) aA)))) none)) none) (some (.inr (.inl aA)))
def EB (O:Ja3):Option (List (zX×pI)):=sK (rC (dz O) (0,([]:List (zX×pI)))) λa8=>some (a8)
abbrev Ro (x:Ja3):List qK:=[sv (.list rV) x]
@[go_sem] def Rp:Ja3->r8:=λO=>rv [] (EB O) λz=>([sv .mp (some 0),bv true],[.map wU .str z])
@[go_sem] def aKu O:=rF Ro qU Rp O
@[go_sem] abbrev Rq:Nat×r7:=mE 40 [.v] Ro qU Rp
theorem aB4:qW prog Rq:=
 rI (rH (qO rX (qO F3 (qO MQ (qO JK (qO dk rG))))) rE) func40 31 [(2,none),(3,none)] rfl λE O=>by
  have u0:= @EB.eq_1;have u1:= @dz.eq_1
  let l1:LE (dz O):=⟨λx=>⟨[(4,sv .mp (some 0)),(10,sv (.list rV) O),(11,iv (O.length:Int)),(12,iv x.1)],[(0,.map wU .str x.2)],1,31,0⟩⟩
  let x1:XE (dz O) 0 (List (zX×pI)):=⟨λx=>⟨[(4,sv .mp (some 0))],[(0,.map wU .str x)],1,31,0⟩⟩
  exact rK
def ee (O:Ja3):(Int×(List (zX×pI)))->Option ((Int×(List (zX×pI)))⊕((List (zX×pI))⊕Unit)):=fun(a8,aA)=>ite (decide (a8<(O.length:Int))) (ite (0<=a8/\a8<(O.length:Int)) (ite (wX wU .str aA ((qH rV O a8).1)) (some (.inr (.inr (())))) (ite (qG (a8+1)) (some (.inl ((a8+1),(rL wU .str ((qH rV O a8).1) ((qH rV O a8).2.1) aA)))) none)) none) (some (.inr (.inl aA)))
def S7 (O:Ja3):Option Unit:=sK (rC (ee O) (0,([]:List (zX×pI)))) λa8=>none
abbrev Rr (x:Ja3):List qK:=[sv (.list rV) x]
@[go_sem] def Rs:Ja3->r8:=λO=>rv [] (S7 O) λz=>([sv .mp none,bv false],[])
@[go_sem] def aKv O:=rF Rr qU Rs O
@[go_sem] abbrev Rt:Nat×r7:=mE 40 [.v] Rr qU Rs
theorem aB5:qW prog Rt:=
 rI (rH (qO rX (qO F3 (qO MQ (qO JK (qO dk rG))))) rE) func40 31 [(2,none),(3,none)] rfl λE O=>by
  have u0:= @S7.eq_1;have u1:= @ee.eq_1
  let l1:LE (ee O):=⟨λx=>⟨[(4,sv .mp (some 0)),(10,sv (.list rV) O),(11,iv (O.length:Int)),(12,iv x.1)],[(0,.map wU .str x.2)],1,31,0⟩⟩
  let x1:XE (ee O) 0 (List (zX×pI)):=⟨λx=>⟨[(4,sv .mp (some 0))],[(0,.map wU .str x)],1,31,0⟩⟩
  exact rK
def Uz (O:Int):Unit:=()
abbrev Vd (x:Int):List qK:=[sv (.int .u8) x]
@[go_sem] def Ve:Int->r8:=λO=>⟨[],[bv ((((((97<=O)&&(O<=122))||((65<=O)&&(O<=90)))||((48<=O)&&(O<=57)))||(O=95))||(O=45))],[]⟩
@[go_sem] def aK2 O:=rF Vd qU Ve O
@[go_sem] abbrev aCT:Nat×r7:=mE 268 [.v] Vd qU Ve
theorem um:qW prog aCT:=
 rI (rH rG (qQ aBI rE)) func268 21 [(2,none)] rfl λE O=>by
  have u0:= @Uz.eq_1;have q0: ∃z,(Uz O)=z:=⟨_,rfl⟩;exact wZ
attribute [irreducible] NB S4 NF WK HN WL N9 S5 NH S6 G1 EB S7
end
noncomputable section
abbrev Ru (x:rP):List qK:=[sv sM x]
@[go_sem] def Rv (O:rP->Option Bool):rP->r8:=λa8=>rv [] (O a8) λz=>([bv z],[])
@[go_sem] def aKw (O:rP->Option Bool) a8:=rF Ru qU (Rv O) a8
@[go_sem] abbrev uc (F:rP->Option Bool):Nat×r7:=mE 288 [.v] Ru qU (Rv F)
abbrev Rw (x:Ja0):List qK:=[sv (.list .part) x,sv .clo (some (288,[]))]
@[go_sem] def Rx (O:Ja0->Option Int):Ja0->r8:=λa8=>rv [] (O a8) λz=>([iv z],[])
@[go_sem] def aKx (O:Ja0->Option Int) a8:=rF Rw qU (Rx O) a8
@[go_sem] abbrev ud (F:Ja0->Option Int):Nat×r7:=mE 310 [.v,.v] Rw qU (Rx F)
abbrev Ry (x:Ja0):List qK:=[sv (.list .part) x,sv .clo (some (288,[]))]
@[go_sem] def Rz (O:Ja0->Option Bool):Ja0->r8:=λa8=>rv [] (O a8) λz=>([bv z],[])
@[go_sem] def aKy (O:Ja0->Option Bool) a8:=rF Ry qU (Rz O) a8
@[go_sem] abbrev ue (F:Ja0->Option Bool):Nat×r7:=mE 287 [.v,.v] Ry qU (Rz F)
abbrev Sa (x:Ja0):List qK:=[sv (.list .part) x]
@[go_sem] def Sb (O:Ja0->Option Bool):Ja0->r8:=λa8=>rv [] (O a8) λz=>([bv z],[])
@[go_sem] def aKz (O:Ja0->Option Bool) a8:=rF Sa qU (Sb O) a8
@[go_sem] abbrev uf (F:Ja0->Option Bool):Nat×r7:=mE 245 [.v] Sa qU (Sb F)
abbrev Sc (x:qS):List qK:=[sv rT x]
@[go_sem] def Sd (O:qS->Option Bool):qS->r8:=λa8=>rv [] (O a8) λz=>([bv z],[])
@[go_sem] def aKA (O:qS->Option Bool) a8:=rF Sc qU (Sd O) a8
@[go_sem] abbrev ug (F:qS->Option Bool):Nat×r7:=mE 247 [.v] Sc qU (Sd F)
abbrev Se (x:Ja1):List qK:=[sv (.list rT) x,sv .clo (some (247,[]))]
@[go_sem] def Sf (O:Ja1->Option Int):Ja1->r8:=λa8=>rv [] (O a8) λz=>([iv z],[])
@[go_sem] def aKB (O:Ja1->Option Int) a8:=rF Se qU (Sf O) a8
@[go_sem] abbrev uh (F:Ja1->Option Int):Nat×r7:=mE 289 [.v,.v] Se qU (Sf F)
abbrev Sg (x:Ja1):List qK:=[sv (.list rT) x,sv .clo (some (247,[]))]
@[go_sem] def Sh (O:Ja1->Option Bool):Ja1->r8:=λa8=>rv [] (O a8) λz=>([bv z],[])
@[go_sem] def aKC (O:Ja1->Option Bool) a8:=rF Sg qU (Sh O) a8
@[go_sem] abbrev ui (F:Ja1->Option Bool):Nat×r7:=mE 246 [.v,.v] Sg qU (Sh F)
abbrev Si (x:rP):List qK:=[sv sM x]
@[go_sem] def Sj (O:rP->Option Bool):rP->r8:=λa8=>rv [] (O a8) λz=>([bv z],[])
@[go_sem] def aKD (O:rP->Option Bool) a8:=rF Si qU (Sj O) a8
@[go_sem] abbrev ef (F:rP->Option Bool):Nat×r7:=mE 184 [.v] Si qU (Sj F)
section
variable {O:rP->Option Bool}{a8:Ja0->Option Int}{aA:Ja0->Option Bool}{aB:Ja0->Option Bool}{aC:qS->Option Bool}{aD:Ja1->Option Int}{aE:Ja1->Option Bool}{aF:rP->Option Bool}(hG0:qW prog (uc O)) (hG1:qW prog (ud a8)) (hG2:qW prog (ue aA)) (hG3:qW prog (uf aB)) (hG4:qW prog (ug aC)) (hG5:qW prog (uh aD)) (hG6:qW prog (ui aE)) (hG7:qW prog (ef aF))
include hG0 hG1 hG2 hG3 hG4 hG5 hG6 hG7
def WM (O:rP->Option Bool) (a8:Ja0->Option Int) (aA:Ja0->Option Bool) (aB:Ja0->Option Bool) (aC:qS->Option Bool) (aD:Ja1->Option Int) (aE:Ja1->Option Bool) (aF:rP->Option Bool) (aG:rP):Option Bool:=(aF aG).bind λaH=>some (!aH)
theorem aB6:qW prog (uc (WM O a8 aA aB aC aD aE aF)):=
 rI (rH (qO uY rG) (qQ hG7 rE)) func288 6 [(2,none)] rfl λE aG=>by
  have u0:= @WM.eq_1;exact rK
def NJ (aI:Ja0) (O:rP->Option Bool):Int->Option (Int⊕(Unit⊕Int)):=λaJ=>ite (decide (aJ<(aI.length:Int))) (ite (0<=aJ/\aJ<(aI.length:Int)) ((O (qF.un (qH .part aI aJ))).bind λaK=>ite aK (some (.inr (.inr (aJ)))) (ite (qG (aJ+1)) (some (.inl (aJ+1))) none)) none) (some (.inr (.inl ())))
def WN (O:rP->Option Bool) (a8:Ja0->Option Int) (aA:Ja0->Option Bool) (aB:Ja0->Option Bool) (aC:qS->Option Bool) (aD:Ja1->Option Int) (aE:Ja1->Option Bool) (aF:rP->Option Bool) (aI:Ja0):Option Int:=sK (rC (NJ aI O) 0) λ_=>some (-1:Int)
theorem aB7:qW prog (ud (WN O a8 aA aB aC aD aE aF)):=
 rI (rH (qO uT (qO uY rG)) (qQ hG0 rE)) func310 19 [(4,none)] rfl λE aI=>by
  have u0:= @WN.eq_1;have u1:= @NJ.eq_1
  let l1:LE (NJ aI O):=⟨λx=>⟨[(0,sv (.list .part) aI),(1,sv .clo (some (288,[]))),(7,iv (aI.length:Int)),(8,iv x)],[],0,19,0⟩⟩
  let x1:XE (NJ aI O) 0 Unit:=⟨λ_=>⟨[],[],0,19,0⟩⟩
  exact rK
def WO (O:rP->Option Bool) (a8:Ja0->Option Int) (aA:Ja0->Option Bool) (aB:Ja0->Option Bool) (aC:qS->Option Bool) (aD:Ja1->Option Int) (aE:Ja1->Option Bool) (aF:rP->Option Bool) (aI:Ja0):Option Bool:=(a8 aI).bind λaH=>some (decide (0<=aH))
theorem aB8:qW prog (ue (WO O a8 aA aB aC aD aE aF)):=
 rI (rH rG (qQ hG1 rE)) func287 9 [(4,none)] rfl λE aI=>by
  have u0:= @WO.eq_1;exact rK
def WP (O:rP->Option Bool) (a8:Ja0->Option Int) (aA:Ja0->Option Bool) (aB:Ja0->Option Bool) (aC:qS->Option Bool) (aD:Ja1->Option Int) (aE:Ja1->Option Bool) (aF:rP->Option Bool) (aL:Ja0):Option Bool:=(aA aL).bind λaH=>some (!aH)
theorem aB9:qW prog (uf (WP O a8 aA aB aC aD aE aF)):=
 rI (rH rG (qQ hG2 rE)) func245 6 [(2,none)] rfl λE aL=>by
  have u0:= @WP.eq_1;exact rK
def WQ (O:rP->Option Bool) (a8:Ja0->Option Int) (aA:Ja0->Option Bool) (aB:Ja0->Option Bool) (aC:qS->Option Bool) (aD:Ja1->Option Int) (aE:Ja1->Option Bool) (aF:rP->Option Bool) (aM:qS):Option Bool:=(aB aM.2.1).bind λaH=>some (!aH)
theorem aCa:qW prog (ug (WQ O a8 aA aB aC aD aE aF)):=
 rI (rH (qO uT (qO AK rG)) (qQ hG3 rE)) func247 7 [(2,none)] rfl λE aM=>by
  have u0:= @WQ.eq_1;exact rK
def NK (aI:Ja1) (aC:qS->Option Bool):Int->Option (Int⊕(Unit⊕Int)):=λaJ=>ite (decide (aJ<(aI.length:Int))) (ite (0<=aJ/\aJ<(aI.length:Int)) ((aC (qH rT aI aJ)).bind λaK=>ite aK (some (.inr (.inr (aJ)))) (ite (qG (aJ+1)) (some (.inl (aJ+1))) none)) none) (some (.inr (.inl ())))
def WR (O:rP->Option Bool) (a8:Ja0->Option Int) (aA:Ja0->Option Bool) (aB:Ja0->Option Bool) (aC:qS->Option Bool) (aD:Ja1->Option Int) (aE:Ja1->Option Bool) (aF:rP->Option Bool) (aI:Ja1):Option Int:=sK (rC (NK aI aC) 0) λ_=>some (-1:Int)
theorem aCb:qW prog (uh (WR O a8 aA aB aC aD aE aF)):=
 rI (rH (qO yK (qO AK rG)) (qQ hG4 rE)) func289 19 [(4,none)] rfl λE aI=>by
  have u0:= @WR.eq_1;have u1:= @NK.eq_1
  let l1:LE (NK aI aC):=⟨λx=>⟨[(0,sv (.list rT) aI),(1,sv .clo (some (247,[]))),(7,iv (aI.length:Int)),(8,iv x)],[],0,19,0⟩⟩
  let x1:XE (NK aI aC) 0 Unit:=⟨λ_=>⟨[],[],0,19,0⟩⟩
  exact rK
def WS (O:rP->Option Bool) (a8:Ja0->Option Int) (aA:Ja0->Option Bool) (aB:Ja0->Option Bool) (aC:qS->Option Bool) (aD:Ja1->Option Int) (aE:Ja1->Option Bool) (aF:rP->Option Bool) (aI:Ja1):Option Bool:=(aD aI).bind λaH=>some (decide (0<=aH))
theorem aCc:qW prog (ui (WS O a8 aA aB aC aD aE aF)):=
 rI (rH rG (qQ hG5 rE)) func246 9 [(4,none)] rfl λE aI=>by
  have u0:= @WS.eq_1;exact rK
def S8 (O:rP->Option Bool) (a8:Ja0->Option Int) (aA:Ja0->Option Bool) (aB:Ja0->Option Bool) (aC:qS->Option Bool) (aD:Ja1->Option Int) (aE:Ja1->Option Bool) (aF:rP->Option Bool) (aG:rP):Option Bool:=ite (((!((7<=aG.1)&&(aG.1<=9)))==true)=true->(aB aG.2.2.2.2.2.1).isSome=true) (ite ((((!((7<=aG.1)&&(aG.1<=9)))&&(val (aB aG.2.2.2.2.2.1)))==true)=true->(aE aG.2.2.2.2.1).isSome=true) (some (((!((7<=aG.1)&&(aG.1<=9)))&&(val (aB aG.2.2.2.2.2.1)))&&(!(val (aE aG.2.2.2.2.1))))) none) none
theorem aCd:qW prog (ef (S8 O a8 aA aB aC aD aE aF)):=
 rI (rH (qO tN (qO uT (qO yK (qO uY rG)))) (qQ F4 (qQ hG3 (qQ hG6 rE)))) func184 18 [(2,none)] rfl λE aG=>by
  have u0:= @S8.eq_1;exact rK
end
def aCe (p:(rP->Option Bool)×(Ja0->Option Int)×(Ja0->Option Bool)×(Ja0->Option Bool)×(qS->Option Bool)×(Ja1->Option Int)×(Ja1->Option Bool)×(rP->Option Bool)):(rP->Option Bool)×(Ja0->Option Int)×(Ja0->Option Bool)×(Ja0->Option Bool)×(qS->Option Bool)×(Ja1->Option Int)×(Ja1->Option Bool)×(rP->Option Bool):=(WM p.1 p.2.1 p.2.2.1 p.2.2.2.1 p.2.2.2.2.1 p.2.2.2.2.2.1 p.2.2.2.2.2.2.1 p.2.2.2.2.2.2.2,WN p.1 p.2.1 p.2.2.1 p.2.2.2.1 p.2.2.2.2.1 p.2.2.2.2.2.1 p.2.2.2.2.2.2.1 p.2.2.2.2.2.2.2,WO p.1 p.2.1 p.2.2.1 p.2.2.2.1 p.2.2.2.2.1 p.2.2.2.2.2.1 p.2.2.2.2.2.2.1 p.2.2.2.2.2.2.2,WP p.1 p.2.1 p.2.2.1 p.2.2.2.1 p.2.2.2.2.1 p.2.2.2.2.2.1 p.2.2.2.2.2.2.1 p.2.2.2.2.2.2.2,WQ p.1 p.2.1 p.2.2.1 p.2.2.2.1 p.2.2.2.2.1 p.2.2.2.2.2.1 p.2.2.2.2.2.2.1 p.2.2.2.2.2.2.2,WR p.1 p.2.1 p.2.2.1 p.2.2.2.1 p.2.2.2.2.1 p.2.2.2.2.2.1 p.2.2.2.2.2.2.1 p.2.2.2.2.2.2.2,WS p.1 p.2.1 p.2.2.1 p.2.2.2.1 p.2.2.2.2.1 p.2.2.2.2.2.1 p.2.2.2.2.2.2.1 p.2.2.2.2.2.2.2,S8 p.1 p.2.1 p.2.2.1 p.2.2.2.1 p.2.2.2.2.1 p.2.2.2.2.2.1 p.2.2.2.2.2.2.1 p.2.2.2.2.2.2.2)
def G2 (n:Nat):(rP->Option Bool)×(Ja0->Option Int)×(Ja0->Option Bool)×(Ja0->Option Bool)×(qS->Option Bool)×(Ja1->Option Int)×(Ja1->Option Bool)×(rP->Option Bool):=Nat.rec (motive:=λ_=>(rP->Option Bool)×(Ja0->Option Int)×(Ja0->Option Bool)×(Ja0->Option Bool)×(qS->Option Bool)×(Ja1->Option Int)×(Ja1->Option Bool)×(rP->Option Bool)) ((λ_=>none),(λ_=>none),(λ_=>none),(λ_=>none),(λ_=>none),(λ_=>none),(λ_=>none),(λ_=>none)) (λ_ p=>aCe p) n
theorem Sk: ∀n:Nat,qW prog (uc (G2 n).1)/\qW prog (ud (G2 n).2.1)/\qW prog (ue (G2 n).2.2.1)/\qW prog (uf (G2 n).2.2.2.1)/\qW prog (ug (G2 n).2.2.2.2.1)/\qW prog (uh (G2 n).2.2.2.2.2.1)/\qW prog (ui (G2 n).2.2.2.2.2.2.1)/\qW prog (ef (G2 n).2.2.2.2.2.2.2)
 |0=>⟨uX,uX,uX,uX,uX,uX,uX,uX⟩
 |n+1=>have h:=Sk n;⟨aB6 h.1 h.2.1 h.2.2.1 h.2.2.2.1 h.2.2.2.2.1 h.2.2.2.2.2.1 h.2.2.2.2.2.2.1 h.2.2.2.2.2.2.2,aB7 h.1 h.2.1 h.2.2.1 h.2.2.2.1 h.2.2.2.2.1 h.2.2.2.2.2.1 h.2.2.2.2.2.2.1 h.2.2.2.2.2.2.2,aB8 h.1 h.2.1 h.2.2.1 h.2.2.2.1 h.2.2.2.2.1 h.2.2.2.2.2.1 h.2.2.2.2.2.2.1 h.2.2.2.2.2.2.2,aB9 h.1 h.2.1 h.2.2.1 h.2.2.2.1 h.2.2.2.2.1 h.2.2.2.2.2.1 h.2.2.2.2.2.2.1 h.2.2.2.2.2.2.2,aCa h.1 h.2.1 h.2.2.1 h.2.2.2.1 h.2.2.2.2.1 h.2.2.2.2.2.1 h.2.2.2.2.2.2.1 h.2.2.2.2.2.2.2,aCb h.1 h.2.1 h.2.2.1 h.2.2.2.1 h.2.2.2.2.1 h.2.2.2.2.2.1 h.2.2.2.2.2.2.1 h.2.2.2.2.2.2.2,aCc h.1 h.2.1 h.2.2.1 h.2.2.2.1 h.2.2.2.2.1 h.2.2.2.2.2.1 h.2.2.2.2.2.2.1 h.2.2.2.2.2.2.2,aCd h.1 h.2.1 h.2.2.1 h.2.2.2.1 h.2.2.2.2.1 h.2.2.2.2.2.1 h.2.2.2.2.2.2.1 h.2.2.2.2.2.2.2⟩
def NL:rP->Option Bool:=(G2 1000).2.2.2.2.2.2.2
@[go_sem] abbrev aCf:Nat×r7:=ef NL
theorem uj:qW prog aCf:=(Sk 1000).2.2.2.2.2.2.2
theorem aJj:NL=(G2 1000).2.2.2.2.2.2.2:=rfl
attribute [irreducible] NL
end
noncomputable section
abbrev Sl (x:Ja0):List qK:=[sv (.list .part) x]
@[go_sem] def Sm (O:Ja0->Option Bool):Ja0->r8:=λa8=>rv [] (O a8) λz=>([bv z],[])
@[go_sem] def aKE (O:Ja0->Option Bool) a8:=rF Sl qU (Sm O) a8
@[go_sem] abbrev eh (F:Ja0->Option Bool):Nat×r7:=mE 190 [.v] Sl qU (Sm F)
section
variable {O:Ja0->Option Bool}(hG0:qW prog (eh O))
include hG0
def JT (a8:Ja0) (aA:Int) (O:Ja0->Option Bool):Int->Option (Int⊕(Unit⊕(Int⊕(Unit⊕Bool)))):=λaB=>ite (0<=aA/\aA<(a8.length:Int)) (ite (decide (aB<(((qF.un (qH .part a8 aA)).2.2.2.2.1).length:Int))) (ite (0<=aA/\aA<(a8.length:Int)) (ite (0<=aB/\aB<(((qF.un (qH .part a8 aA)).2.2.2.2.1).length:Int)) ((O ((qH rT ((qF.un (qH .part a8 aA)).2.2.2.2.1) aB).2.1)).bind λaC=>ite (!aC) (some (.inr (.inr (.inr (.inr (false)))))) (ite (qG (aB+1)) (some (.inl (aB+1))) none)) none) none) (some (.inr (.inl ())))) none
def NM (a8:Ja0) (O:Ja0->Option Bool):Int->Option (Int⊕(Unit⊕Bool)):=λaA=>ite (decide (aA<(a8.length:Int))) (ite (0<=aA/\aA<(a8.length:Int)) (ite (((((((qF.un (qH .part a8 aA)).1)=7)||(((qF.un (qH .part a8 aA)).1)=8))||(((qF.un (qH .part a8 aA)).1)=9))==false)=true->0<=aA/\aA<(a8.length:Int)) (ite (((((((qF.un (qH .part a8 aA)).1)=7)||(((qF.un (qH .part a8 aA)).1)=8))||(((qF.un (qH .part a8 aA)).1)=9))==false)=true->(O ((qF.un (qH .part a8 aA)).2.2.2.2.2.1)).isSome=true) (ite ((((((qF.un (qH .part a8 aA)).1)=7)||(((qF.un (qH .part a8 aA)).1)=8))||(((qF.un (qH .part a8 aA)).1)=9))||(!(val (O ((qF.un (qH .part a8 aA)).2.2.2.2.2.1))))) (some (.inr (.inr (false)))) (sK (rC (JT a8 aA O) 0) λ_=>ite (qG (aA+1)) (some (.inl (aA+1))) none)) none) none) none) (some (.inr (.inl ())))
def S9 (O:Ja0->Option Bool) (a8:Ja0):Option Bool:=sK (rC (NM a8 O) 0) λ_=>some (true)
theorem aCg:qW prog (eh (S9 O)):=
 rI (rH (qO tN (qO uT (qO yK (qO uY (qO AK rG))))) (qQ dn (qQ hG0 rE))) func190 47 [(2,none)] rfl λE a8=>by
  have u0:= @S9.eq_1;have u1:= @NM.eq_1
  let l1:LE (NM a8 O):=⟨λx=>⟨[(0,sv (.list .part) a8),(3,iv x)],[],0,47,0⟩⟩
  have u2:= @JT.eq_1
  let l2 aA:LE (JT a8 aA O):=⟨λx=>⟨[(0,sv (.list .part) a8),(3,iv aA),(4,iv x)],[],0,47,0⟩⟩
  let x1:XE (NM a8 O) 0 Unit:=⟨λ_=>⟨[],[],0,47,0⟩⟩
  let x2 aA:XE (JT a8 aA O) 2 Unit:=⟨λ_=>⟨[(0,sv (.list .part) a8),(3,iv aA)],[],0,47,0⟩⟩
  exact rK
end
def aCh (p:(Ja0->Option Bool)):(Ja0->Option Bool):=S9 p
def NN (n:Nat):(Ja0->Option Bool):=Nat.rec (motive:=λ_=>(Ja0->Option Bool)) (λ_=>none) (λ_ p=>aCh p) n
theorem Sn: ∀n:Nat,qW prog (eh (NN n))
 |0=>uX
 |n+1=>have h:=Sn n;aCg h
def NO:Ja0->Option Bool:=(NN 1000)
@[go_sem] abbrev aCi:Nat×r7:=eh NO
theorem So:qW prog aCi:=(Sn 1000)
theorem aJl:NO=(NN 1000):=rfl
abbrev Sp (x:Ja0):List qK:=[sv (.list .part) x]
@[go_sem] def Sq (O:Ja0->Option Ja0):Ja0->r8:=λa8=>rv [] (O a8) λz=>([(.val (.list .part) z,some 0)],[.grow 183 6 (z.length)])
@[go_sem] def aKF (O:Ja0->Option Ja0) a8:=rF Sp qU (Sq O) a8
@[go_sem] abbrev ej (F:Ja0->Option Ja0):Nat×r7:=mE 141 [.v] Sp qU (Sq F)
section
variable {O:Ja0->Option Ja0}(hG0:qW prog (ej O))
include hG0
def JU (a8:Ja0) (aA:Int) (O:Ja0->Option Ja0):(Int×Ja1)->Option ((Int×Ja1)⊕Ja1):=fun(aB,aC)=>ite (decide (aB<(((qF.un (qH .part a8 aA)).2.2.2.2.1).length:Int))) (ite (0<=aB/\aB<(((qF.un (qH .part a8 aA)).2.2.2.2.1).length:Int)) (ite (0<=aB/\aB<(((qF.un (qH .part a8 aA)).2.2.2.2.1).length:Int)) ((O ((qH rT ((qF.un (qH .part a8 aA)).2.2.2.2.1) aB).2.1)).bind λaD=>ite ((aC.length+([((qH rT ((qF.un (qH .part a8 aA)).2.2.2.2.1) aB).1,(aD,()))]:List qS).length)*40<=140737488355328) (ite (qG (aB+1)) (some (.inl ((aB+1),(aC++([((qH rT ((qF.un (qH .part a8 aA)).2.2.2.2.1) aB).1,(aD,()))]:List qS))))) none) none) none) none) (some (.inr aC))
def NP (a8:Ja0) (O:Ja0->Option Ja0):(Ja0×Int)->Option ((Ja0×Int)⊕Ja0):=fun(aE,aA)=>ite (decide (aA<(a8.length:Int))) (ite (0<=aA/\aA<(a8.length:Int)) (ite (qG (aA+1)) (ite (0<=aA/\aA<=(aA+1)/\(aA+1)<=(a8.length:Int)) ((NO (s8 a8 aA (aA+1))).bind λaF=>ite aF (ite (qG (aA+1)) (some (.inl (aE,(aA+1)))) none) ((O ((qF.un (qH .part a8 aA)).2.2.2.2.2.1)).bind λaG=>rA (rC (JU a8 aA O) (0,([]:List qS))) λaH=>ite ((aE.length+([(qF.of ((qF.un (qH .part a8 aA)).1,(([]:pI),((qF.un (qH .part a8 aA)).2.2.1,(([]:pI),(aH,(aG,())))))))]:List qF).length)*104<=140737488355328) (ite (qG (aA+1)) (some (.inl ((aE++([(qF.of ((qF.un (qH .part a8 aA)).1,(([]:pI),((qF.un (qH .part a8 aA)).2.2.1,(([]:pI),(aH,(aG,())))))))]:List qF)),(aA+1)))) none) none)) none) none) none) (some (.inr aE))
def SA (O:Ja0->Option Ja0) (a8:Ja0):Option Ja0:=rA (rC (NP a8 O) (([]:List qF),0)) λaI=>some (aI)
theorem aCj:qW prog (ej (SA O)):=
 rI (rH (qO tN (qO rX (qO uT (qO yK (qO uY (qO AK rG)))))) (qQ So (qQ hG0 rE))) func141 63 [(2,none)] rfl λE a8=>by
  have u0:= @SA.eq_1;have u1:= @NP.eq_1
  let l1:LE (NP a8 O):=⟨λx=>⟨[(0,sv (.list .part) a8),(3,(.val (.list .part) x.1,some 0)),(4,iv x.2)],[(0,.grow 183 6 (x.1.length))],1,63,0⟩⟩
  have u2:= @JU.eq_1
  let l2 aA aE aG:LE (JU a8 aA O):=⟨λx=>⟨[(0,sv (.list .part) a8),(3,(.val (.list .part) aE,some 0)),(4,iv aA),(5,rs 1 0),(6,rs 2 0),(7,iv x.1)],[(0,.grow 183 6 (aE.length)),(1,.cells sM (qF.un (qH .part a8 aA)) []),(2,.cells sM ((qF.un (qH .part a8 aA)).1,(([]:pI),((qF.un (qH .part a8 aA)).2.2.1,(([]:pI),(x.2,(aG,())))))) [(4,3)]),(3,.grow 186 2 (x.2.length))],4,63,0⟩⟩
  let x1:XE (NP a8 O) 0 Ja0:=⟨λx=>⟨[(3,(.val (.list .part) x,some 0))],[(0,.grow 183 6 (x.length))],1,63,0⟩⟩
  let x2 aA aE aG:XE (JU a8 aA O) 2 Ja1:=⟨λx=>⟨[(0,sv (.list .part) a8),(3,(.val (.list .part) aE,some 0)),(4,iv aA),(6,rs 1 0)],[(0,.grow 183 6 (aE.length)),(1,.cells sM ((qF.un (qH .part a8 aA)).1,(([]:pI),((qF.un (qH .part a8 aA)).2.2.1,(([]:pI),(x,(aG,())))))) [(4,2)]),(2,.grow 186 2 (x.length))],3,63,0⟩⟩
  exact rK
end
def aCk (p:(Ja0->Option Ja0)):(Ja0->Option Ja0):=SA p
def NQ (n:Nat):(Ja0->Option Ja0):=Nat.rec (motive:=λ_=>(Ja0->Option Ja0)) (λ_=>none) (λ_ p=>aCk p) n
theorem Sr: ∀n:Nat,qW prog (ej (NQ n))
 |0=>uX
 |n+1=>have h:=Sr n;aCj h
def WT:Ja0->Option Ja0:=(NQ 1000)
@[go_sem] abbrev aCl:Nat×r7:=ej WT
theorem aCm:qW prog aCl:=(Sr 1000)
theorem aMK:WT=(NQ 1000):=rfl
abbrev Ss (x:(Ja0×pI)):List qK:=[sv (.list .part) x.1,tv x.2]
@[go_sem] def Su (O:Ja0->pI->Option Ja1):(Ja0×pI)->r8:=fun(a8,aA)=>rv [] (O a8 aA) λz=>([(.val (.list rT) z,some 0)],[.grow 132 2 (z.length)])
@[go_sem] def aKG (O:Ja0->pI->Option Ja1) a8 aA:=rF Ss qU (Su O) (a8,aA)
@[go_sem] abbrev ek (F:Ja0->pI->Option Ja1):Nat×r7:=mE 142 [.v,.v] Ss qU (Su F)
section
variable {O:Ja0->pI->Option Ja1}(hG0:qW prog (ek O))
include hG0
def JV (a8:Ja0) (aA:pI) (aB:Int) (aC:pI) (O:Ja0->pI->Option Ja1):(Ja1×Int)->Option ((Ja1×Int)⊕Ja1):=fun(aD,aE)=>ite (decide (aE<(((qF.un (qH .part a8 aB)).2.2.2.2.1).length:Int))) (ite (0<=aE/\aE<(((qF.un (qH .part a8 aB)).2.2.2.2.1).length:Int)) (ite (0<=aE/\aE<(((qF.un (qH .part a8 aB)).2.2.2.2.1).length:Int)) (ite (((((aA++aC)++([47]:pI))++(qH rT ((qF.un (qH .part a8 aB)).2.2.2.2.1) aE).1).length:Int)<=9223372036854775807) (ite ((((((aA++aC)++([47]:pI))++(qH rT ((qF.un (qH .part a8 aB)).2.2.2.2.1) aE).1)++([47]:pI)).length:Int)<=9223372036854775807) ((O ((qH rT ((qF.un (qH .part a8 aB)).2.2.2.2.1) aE).2.1) ((((aA++aC)++([47]:pI))++(qH rT ((qF.un (qH .part a8 aB)).2.2.2.2.1) aE).1)++([47]:pI))).bind λaF=>ite ((aD.length+aF.length)*40<=140737488355328) (ite (qG (aE+1)) (some (.inl ((aD++aF),(aE+1)))) none) none) none) none) none) none) (some (.inr aD))
def JW (a8:Ja0) (aA:pI) (O:Ja0->pI->Option Ja1):(Ja1×Ja0×Int×Int)->Option ((Ja1×Ja0×Int×Int)⊕(Ja1×Ja0×Int)):=fun(aG,aH,aI,aB)=>ite (decide (aB<(a8.length:Int))) (ite (0<=aB/\aB<(a8.length:Int)) (ite (qG (aB+1)) (ite (0<=aB/\aB<=(aB+1)/\(aB+1)<=(a8.length:Int)) ((NO (s8 a8 aB (aB+1))).bind λaJ=>ite aJ (ite ((aH.length+([(qF.of (qF.un (qH .part a8 aB)))]:List qF).length)*104<=140737488355328) (ite (qG (aB+1)) (some (.inl (aG,(aH++([(qF.of (qF.un (qH .part a8 aB)))]:List qF)),aI,(aB+1)))) none) none) ((NH aI).bind λaK=>ite (((aA++aK).length:Int)<=9223372036854775807) (ite ((aG.length+([((aA++aK),(aH,()))]:List qS).length)*40<=140737488355328) (ite (qG (aI+1)) ((NH (aI+1)).bind λaC=>ite (((aA++aC).length:Int)<=9223372036854775807) (ite ((((aA++aC)++([47]:pI)).length:Int)<=9223372036854775807) (rA (σ:=Ja1) (ite (decide ((qF.un (qH .part a8 aB)).1=11)) ((O ((qF.un (qH .part a8 aB)).2.2.2.2.2.1) ((aA++aC)++([47]:pI))).bind λaL=>ite (((aG++([((aA++aK),(aH,()))]:List qS)).length+aL.length)*40<=140737488355328) (some ((aG++([((aA++aK),(aH,()))]:List qS))++aL)) none) (some (aG++([((aA++aK),(aH,()))]:List qS)))) λaM=>rA (rC (JV a8 aA aB aC O) (aM,0)) λaN=>ite (qG (aB+1)) (some (.inl (aN,([]:List qF),(aI+1),(aB+1)))) none) none) none) none) none) none)) none) none) none) (some (.inr (aG,aH,aI)))
def SB (O:Ja0->pI->Option Ja1) (a8:Ja0) (aA:pI):Option Ja1:=rA (rC (JW a8 aA O) (([]:List qS),([]:List qF),0,0)) fun(aO,aP,aQ)=>(NH aQ).bind λaR=>ite (((aA++aR).length:Int)<=9223372036854775807) (ite ((aO.length+([((aA++aR),(aP,()))]:List qS).length)*40<=140737488355328) (some (aO++([((aA++aR),(aP,()))]:List qS))) none) none
theorem aCn:qW prog (ek (SB O)):=
 rI (rH (qO tN (qO rX (qO uT (qO tm (qO Kf (qO yK (qO uY (qO AK rG)))))))) (qQ So (qQ aB0 (qQ hG0 rE)))) func142 91 [(4,none)] rfl λE ⟨a8,aA⟩=>by
  have u0:= @SB.eq_1;have u1:= @JW.eq_1
  let l1:LE (JW a8 aA O):=⟨λx=>⟨[(0,sv (.list .part) a8),(1,tv aA),(5,(.val (.list rT) x.1,some 0)),(6,(.val (.list .part) x.2.1,some 1)),(7,iv x.2.2.1),(8,iv x.2.2.2)],[(0,.grow 132 2 (x.1.length)),(1,.grow 183 6 (x.2.1.length))],2,91,0⟩⟩
  have u2:= @JV.eq_1
  let l2 aB aC aI:LE (JV a8 aA aB aC O):=⟨λx=>⟨[(0,sv (.list .part) a8),(1,tv aA),(5,(.val (.list rT) x.1,some 0)),(6,(.val (.list .part) ([]:List qF),some 1)),(7,iv (aI+1)),(8,iv aB),(9,rs 2 0),(10,tv ((aA++aC)++([47]:pI))),(11,iv x.2)],[(0,.grow 132 2 (x.1.length)),(1,.grow 183 6 (([]:List qF).length)),(2,.cells sM (qF.un (qH .part a8 aB)) [])],3,91,0⟩⟩
  let j1 aI aB aC:JE 50 Ja1:=⟨λx=>⟨[(0,sv (.list .part) a8),(1,tv aA),(5,(.val (.list rT) x,some 0)),(6,(.val (.list .part) ([]:List qF),some 1)),(7,iv (aI+1)),(8,iv aB),(9,rs 2 0),(10,tv ((aA++aC)++([47]:pI)))],[(0,.grow 132 2 (x.length)),(1,.grow 183 6 (([]:List qF).length)),(2,.cells sM (qF.un (qH .part a8 aB)) [])],3,91,0⟩⟩
  let x1:XE (JW a8 aA O) 0 (Ja1×Ja0×Int):=⟨λx=>⟨[(1,tv aA),(5,(.val (.list rT) x.1,some 0)),(6,(.val (.list .part) x.2.1,some 1)),(7,iv x.2.2)],[(0,.grow 132 2 (x.1.length)),(1,.grow 183 6 (x.2.1.length))],2,91,0⟩⟩
  let x2 aB aC aI:XE (JV a8 aA aB aC O) 2 Ja1:=⟨λx=>⟨[(0,sv (.list .part) a8),(1,tv aA),(5,(.val (.list rT) x,some 0)),(6,(.val (.list .part) ([]:List qF),some 1)),(7,iv (aI+1)),(8,iv aB)],[(0,.grow 132 2 (x.length)),(1,.grow 183 6 (([]:List qF).length))],2,91,0⟩⟩
  exact rK
end
def aCo (p:(Ja0->pI->Option Ja1)):(Ja0->pI->Option Ja1):=SB p
def G3 (n:Nat):(Ja0->pI->Option Ja1):=Nat.rec (motive:=λ_=>(Ja0->pI->Option Ja1)) (λ_ _=>none) (λ_ p=>aCo p) n
theorem Sv: ∀n:Nat,qW prog (ek (G3 n))
 |0=>uX
 |n+1=>have h:=Sv n;aCn h
def WU:Ja0->pI->Option Ja1:=(G3 1000)
@[go_sem] abbrev aCp:Nat×r7:=ek WU
theorem aCq:qW prog aCp:=(Sv 1000)
theorem aML:WU=(G3 1000):=rfl
def NR (O:Ja1):Option Ja1:=ite ((0+O.length)*40<=140737488355328) (some (([]:List qS)++O)) none
abbrev Sw (x:Ja1):List qK:=[sv (.list rT) x]
@[go_sem] def Sx:Ja1->r8:=λO=>rv [] (NR O) λz=>([(.own 0 (z.length),none)],[.row 186 rT z (z.length)])
@[go_sem] def aKH O:=rF Sw qU Sx O
@[go_sem] abbrev WV:Nat×r7:=mE 248 [.v] Sw qU Sx
theorem Sy:qW prog WV:=
 rI (rH (qO WC rG) rE) func248 8 [(2,none)] rfl λE O=>by
  have u0:= @NR.eq_1;exact rK
def HP (O:uC):Int->Option (Int⊕(Unit⊕Bool)):=λa8=>ite (decide (a8<(O.2.2.2.1.length:Int))) (ite (0<=a8/\a8<(O.2.2.2.1.length:Int)) ((RY (qH tJ O.2.2.2.1 a8)).bind λaA=>ite (!(((((((qH tJ O.2.2.2.1 a8).1).length:Int)+(((qH tJ O.2.2.2.1 a8).2.1).length:Int))+(((qH tJ O.2.2.2.1 a8).2.2.1).length:Int))<=6000)&&(((val (A0 ((qH tJ O.2.2.2.1 a8).2.2.2.1) ((qH tJ O.2.2.2.1 a8).2.2.2.2.2.2.1)))+(val (A0 ((qH tJ O.2.2.2.1 a8).2.2.2.2.1) ([]:List wT))))<=6000))) (some (.inr (.inr (false)))) (ite (qG (a8+1)) (some (.inl (a8+1))) none)) none) (some (.inr (.inl ())))
def SC (O:uC):Option Bool:=ite (((decide (100<(O.1.length:Int)))==false)=true->(A0 O.2.1 O.2.2.1).isSome=true) (ite (((100<(O.1.length:Int))||(6000<(val (A0 O.2.1 O.2.2.1))))||(12<(O.2.2.2.1.length:Int))) (some (false)) (sK (rC (HP O) 0) λ_=>some (true))) none
abbrev Sz (x:uC):List qK:=[sv wE x]
@[go_sem] def Ta:uC->r8:=λO=>rv [] (SC O) λz=>([bv z],[])
@[go_sem] def aKI O:=rF Sz qU Ta O
@[go_sem] abbrev aCr:Nat×r7:=mE 30 [.v] Sz qU Ta
theorem aCs:qW prog aCr:=
 rI (rH (qO rX (qO vC (qO D3 (qO JL (qO E9 (qO D2 rG)))))) (qQ Li (qQ aAH rE))) func30 36 [(2,none)] rfl λE O=>by
  have u0:= @SC.eq_1;have u1:= @HP.eq_1
  let l1:LE (HP O):=⟨λx=>⟨[(1,rs 0 0),(3,iv x)],[(0,.cells wE O [])],1,36,0⟩⟩
  let x1:XE (HP O) 0 Unit:=⟨λ_=>⟨[],[],0,36,0⟩⟩
  exact rK
def O3 (O:pI) (a8:pI):Option (pI×pI×Bool):=(WL O a8).bind λaA=>some (aA.1,aA.2.1,aA.2.2)
abbrev Vf (x:(pI×pI)):List qK:=[tv x.1,tv x.2]
@[go_sem] def Vg:(pI×pI)->r8:=fun(O,a8)=>rv [] (O3 O a8) λz=>([tv (z.1),tv (z.2.1),bv (z.2.2)],[])
@[go_sem] def aK3 O a8:=rF Vf qU Vg (O,a8)
@[go_sem] abbrev aCU:Nat×r7:=mE 328 [.v,.v] Vf qU Vg
theorem aCV:qW prog aCU:=
 rI (rH rG (qQ aBW rE)) func328 13 [(4,none),(5,none),(6,none)] rfl λE ⟨O,a8⟩=>by
  have u0:= @O3.eq_1;exact rK
attribute [irreducible] S9 NO SA WT SB WU NR SC O3
end
noncomputable section
def NS (O:pI):Int->Option (Int⊕(Unit⊕Bool)):=λa8=>ite (decide (a8<(O.length:Int))) (ite (0<=a8/\a8<(O.length:Int)) (ite ((((!((97<=(qZ O a8))&&((qZ O a8)<=122)))&&(!((48<=(qZ O a8))&&((qZ O a8)<=57))))&&(!decide ((qZ O a8)=45)))&&(((qZ O a8)<65)||(90<(qZ O a8)))) (some (.inr (.inr (false)))) (ite (qG (a8+1)) (some (.inl (a8+1))) none)) none) (some (.inr (.inl ())))
def SD (O:pI):Option Bool:=sK (rC (NS O) 0) λ_=>some ((1<=(O.length:Int))&&((O.length:Int)<=40))
abbrev Td (x:pI):List qK:=[tv x]
@[go_sem] def Te:pI->r8:=λO=>rv [] (SD O) λz=>([bv z],[])
@[go_sem] def aKK O:=rF Td qU Te O
@[go_sem] abbrev aCu:Nat×r7:=mE 81 [.v] Td qU Te
def aCv:qW prog aCu:=
 rI (rH (qO rX rG) (qQ Mm (qQ Mq rE))) func81 42 [(2,none)] rfl λE O=>by
  have u0:= @SD.eq_1;have u1:= @NS.eq_1
  let l1:LE (NS O):=⟨λx=>⟨[(0,tv O),(3,iv x)],[],0,42,0⟩⟩
  let x1:XE (NS O) 0 Unit:=⟨λ_=>⟨[(0,tv O)],[],0,42,0⟩⟩
  exact rK
def NT (O:pJ):Int->Option (Int⊕(Unit⊕Bool)):=λa8=>ite (decide (a8<(O.length:Int))) (ite (0<=a8/\a8<(O.length:Int)) ((N3 (qH .str O a8)).bind λaA=>ite ((((!aA)==false)&&((decide (0<a8))==true))=true->0<=a8/\a8<(O.length:Int)) (ite ((((!aA)==false)&&((decide (0<a8))==true))=true->qG (a8- 1)) (ite ((((!aA)==false)&&((decide (0<a8))==true))=true->0<=(a8- 1)/\(a8- 1)<(O.length:Int)) (ite ((!aA)||((0<a8)&&(Op.bytesLess (qH .str O a8) (qH .str O (a8- 1))||decide ((qH .str O a8)=(qH .str O (a8- 1)))))) (some (.inr (.inr (false)))) (ite (qG (a8+1)) (some (.inl (a8+1))) none)) none) none) none) none) (some (.inr (.inl ())))
def G5 (O:pJ):Option Bool:=sK (rC (NT O) 0) λ_=>some (decide ((O.length:Int)<=20))
abbrev Tf (x:pJ):List qK:=[sv (.list .str) x]
@[go_sem] def Tg:pJ->r8:=λO=>rv [] (G5 O) λz=>([bv z],[])
@[go_sem] def aKL O:=rF Tf qU Tg O
@[go_sem] abbrev aCw:Nat×r7:=mE 85 [.v] Tf qU Tg
def aCx:qW prog aCw:=
 rI (rH (qO rX (qO vC rG)) (qQ Mt rE)) func85 35 [(2,none)] rfl λE O=>by
  have u0:= @G5.eq_1;have u1:= @NT.eq_1
  let l1:LE (NT O):=⟨λx=>⟨[(0,sv (.list .str) O),(3,iv x)],[],0,35,0⟩⟩
  let x1:XE (NT O) 0 Unit:=⟨λ_=>⟨[(0,sv (.list .str) O)],[],0,35,0⟩⟩
  exact rK
def G4 (O:pI):Option Unit:=ite (((decide ((O.length:Int)<=4000))==true)=true->(WF O).isSome=true) (some (())) none
abbrev Tb (x:pI):List qK:=[tv x]
@[go_sem] def Tc:pI->r8:=λO=>rv [] (G4 O) λz=>([bv (((O.length:Int)<=4000)&&(Lib.validD O))],[])
@[go_sem] def aKJ O:=rF Tb qU Tc O
@[go_sem] abbrev aCt:Nat×r7:=mE 88 [.v] Tb qU Tc
def uk:qW prog aCt:=
 rI (rH (qO rX rG) (qQ aA2 rE)) func88 10 [(2,none)] rfl λE O=>by
  have u0:= @G4.eq_1;exact rK
def NU (O:Int) (a8:Int) (aA:Bool):Option pI:=rA (σ:=pI) (ite (decide (O=1)) (some ([61,58,35,33]:pI)) (ite (decide (O=2)) (some ([34]:pI)) (ite (decide (O=3)) (some ([34,123,125]:pI)) (some ([]:pI))))) λaB=>ite (decide (a8=92)) (some ([92,92]:pI)) (ite (decide (a8=10)) (some ([92,110]:pI)) (ite (decide (a8=13)) (some ([92,114]:pI)) (ite (decide (a8=9)) (some ([92,116]:pI)) (rA (σ:=Bool) (ite (decide (0<=(AF aB a8))) (some (decide (0<=(AF aB a8)))) (some (((O=1)&&aA)&&(a8=32)))) λaC=>ite aC (ite (((([92]:pI)++(tQ ([a8]:pT))).length:Int)<=9223372036854775807) (some (([92]:pI)++(tQ ([a8]:pT)))) none) (ite (((a8<32)||(a8=127))&&(O=3)) ((WG a8 4).bind λaD=>ite (((([92,117]:pI)++((MH ([48]:pI) (4- ((xH (IntKind.wrap .i64 a8) 16).length:Int)))++(xH (IntKind.wrap .i64 a8) 16))).length:Int)<=9223372036854775807) (some (([92,117]:pI)++((MH ([48]:pI) (4- ((xH (IntKind.wrap .i64 a8) 16).length:Int)))++(xH (IntKind.wrap .i64 a8) 16)))) none) (ite ((a8<32)||(a8=127)) ((WG a8 2).bind λaE=>ite (((([92,120]:pI)++((MH ([48]:pI) (2- ((xH (IntKind.wrap .i64 a8) 16).length:Int)))++(xH (IntKind.wrap .i64 a8) 16))).length:Int)<=9223372036854775807) (some (([92,120]:pI)++((MH ([48]:pI) (2- ((xH (IntKind.wrap .i64 a8) 16).length:Int)))++(xH (IntKind.wrap .i64 a8) 16)))) none) (some (tQ ([a8]:pT)))))))))
abbrev Th (x:(Int×Int×Bool)):List qK:=[iv x.1,sv (.int .u8) x.2.1,bv x.2.2]
@[go_sem] def Ti:(Int×Int×Bool)->r8:=fun(O,a8,aA)=>rv [] (NU O a8 aA) λz=>([tv z],[])
@[go_sem] def aKM O a8 aA:=rF Th qU Ti (O,a8,aA)
@[go_sem] abbrev aCy:Nat×r7:=mE 94 [.v,.v,.v] Th qU Ti
def aCz:qW prog aCy:=
 rI (rH (qO HH (qO rX (qO HG rG))) (qQ Kq (qQ aA4 (qQ aA6 rE)))) func94 64 [(6,none)] rfl λE ⟨O,a8,aA⟩=>by
  have u0:= @NU.eq_1
  let j1:JE 0 pI:=⟨λx=>⟨[(0,iv O),(1,sv (.int .u8) a8),(2,bv aA),(7,tv x)],[],0,64,0⟩⟩
  let j2:JE 27 Bool:=⟨λx=>⟨[(0,iv O),(1,sv (.int .u8) a8),(27,bv x)],[],0,64,0⟩⟩
  exact rK
def SE (O:Int) (a8:Int) (aA:Bool):Option pI:=ite (decide (O=4)) (ite False (some (W4 a8)) none) (ite (decide (a8=10)) (some ([92,110]:pI)) (ite (decide (a8=13)) (some ([92,114]:pI)) (ite (decide (a8=9)) (some ([92,116]:pI)) (rA (σ:=Bool) (ite (decide (a8=92)) (some (decide (a8=92))) (ite (((decide (O=1))==true)=true->(JP a8 ([61,58,35,33]:pI)).isSome=true) (ite ((O=1)&&(val (JP a8 ([61,58,35,33]:pI)))) (some ((O=1)&&(val (JP a8 ([61,58,35,33]:pI))))) (ite (((O=1)&&aA)&&(a8=32)) (some (((O=1)&&aA)&&(a8=32))) (ite ((!decide (O=1))&&(a8=34)) (some ((!decide (O=1))&&(a8=34))) (ite (((decide (O=3))==true)=true->(JP a8 ([123,125]:pI)).isSome=true) (some ((O=3)&&(val (JP a8 ([123,125]:pI))))) none)))) none)) λaB=>ite aB (ite (((([92]:pI)++(tQ ([a8]:pT))).length:Int)<=9223372036854775807) (some (([92]:pI)++(tQ ([a8]:pT)))) none) (ite (((a8<32)||(a8=127))&&(O=3)) ((WH (IntKind.wrap .i64 a8)).bind λaC=>ite (((([92,117,48,48]:pI)++(tQ ([(qZ ([48,49,50,51,52,53,54,55,56,57,97,98,99,100,101,102]:pI) (IntKind.wrap .i64 (Int.tdiv (IntKind.wrap .i64 a8) 16))),(qZ ([48,49,50,51,52,53,54,55,56,57,97,98,99,100,101,102]:pI) (Int.tmod (IntKind.wrap .i64 a8) 16))]:pT))).length:Int)<=9223372036854775807) (some (([92,117,48,48]:pI)++(tQ ([(qZ ([48,49,50,51,52,53,54,55,56,57,97,98,99,100,101,102]:pI) (IntKind.wrap .i64 (Int.tdiv (IntKind.wrap .i64 a8) 16))),(qZ ([48,49,50,51,52,53,54,55,56,57,97,98,99,100,101,102]:pI) (Int.tmod (IntKind.wrap .i64 a8) 16))]:pT)))) none) (ite ((a8<32)||(a8=127)) ((WH (IntKind.wrap .i64 a8)).bind λaD=>ite (((([92,120]:pI)++(tQ ([(qZ ([48,49,50,51,52,53,54,55,56,57,97,98,99,100,101,102]:pI) (IntKind.wrap .i64 (Int.tdiv (IntKind.wrap .i64 a8) 16))),(qZ ([48,49,50,51,52,53,54,55,56,57,97,98,99,100,101,102]:pI) (Int.tmod (IntKind.wrap .i64 a8) 16))]:pT))).length:Int)<=9223372036854775807) (some (([92,120]:pI)++(tQ ([(qZ ([48,49,50,51,52,53,54,55,56,57,97,98,99,100,101,102]:pI) (IntKind.wrap .i64 (Int.tdiv (IntKind.wrap .i64 a8) 16))),(qZ ([48,49,50,51,52,53,54,55,56,57,97,98,99,100,101,102]:pI) (Int.tmod (IntKind.wrap .i64 a8) 16))]:pT)))) none) (some (tQ ([a8]:pT)))))))))
abbrev Tj (x:(Int×Int×Bool)):List qK:=[iv x.1,sv (.int .u8) x.2.1,bv x.2.2]
@[go_sem] def Tk:(Int×Int×Bool)->r8:=fun(O,a8,aA)=>rv [] (SE O a8 aA) λz=>([tv z],[])
@[go_sem] def aKN O a8 aA:=rF Tj qU Tk (O,a8,aA)
@[go_sem] abbrev aCA:Nat×r7:=mE 101 [.v,.v,.v] Tj qU Tk
def aCB:qW prog aCA:=
 rI (rH (qO tN (qO HH (qO rX (qO HG rG)))) (qQ aAr (qQ aA8 (qQ aBa rE)))) func101 84 [(6,none)] rfl λE ⟨O,a8,aA⟩=>by
  have u0:= @SE.eq_1
  let j1:JE 25 Bool:=⟨λx=>⟨[(0,iv O),(1,sv (.int .u8) a8),(7,tv (tQ ([a8]:pT))),(25,bv x)],[],0,84,0⟩⟩
  exact rK
def vR (O:pI) (a8:Ja2) (aA:Int) (aB:pQ) (aC:Int) (aD:pR):Option (Int×Int):=ite (decide (aB.2.1=0)) ((WI O a8 aA aB aD).bind λaE=>some (aE,aC)) (some (aB.1,aB.2.1))
abbrev Tl (x:(Int×pI×Ja2×Int×pQ×pR)):List qK:=[rs 0 0,iv x.1]
abbrev Tm (x:(Int×pI×Ja2×Int×pQ×pR)):List qP:=[.cells tG (x.2.1,(x.2.2.1,(x.2.2.2.1,((some 1),x.2.2.2.2.1)))) [],.map .str .bool x.2.2.2.2.2]
@[go_sem] def Tn:(Int×pI×Ja2×Int×pQ×pR)->r8:=fun(O,a8,aA,aB,aC,aD)=>rv [] (vR a8 aA aB aC O aD) λz=>([],[.cells tG (a8,(aA,(aB,((some 1),(z.1,(z.2,())))))) [],.map .str .bool aD])
@[go_sem] def aKO O a8 aA aB aC aD:=rF Tl Tm Tn (O,a8,aA,aB,aC,aD)
@[go_sem] abbrev aCC:Nat×r7:=mE 146 [.p tG [],.v] Tl Tm Tn [(0,3,.m)] [1]
def EC:qW prog aCC:=
 rI (rH (qO tN (qO BA (qO zD rG))) (qQ aBe rE)) func146 18 [] rfl λE ⟨O,a8,aA,aB,aC,aD⟩=>by
  have u0:= @vR.eq_1;exact rK
def xS (O:s9) (a8:Int):Option (Int×Int):=ite (decide (O.2.2.2.2.1=0)) ((vD O).bind λaA=>some (aA.2.2.1,a8)) (some (O.2.2.2.1,O.2.2.2.2.1))
abbrev To (x:(Int×s9×Nat)):List qK:=[rs 0 0,iv x.1]
abbrev Tp (x:(Int×s9×Nat)):List qP:=[.cells tW x.2.1 [(2,1)],.grow 9 1 x.2.2]
@[go_sem] def Tq:(Int×s9×Nat)->r8:=fun(O,a8,aA)=>rv [aA=(a8.2.2.1.length)] (xS a8 O) λz=>([],[.cells tW (a8.1,(a8.2.1,(a8.2.2.1,(z.1,(z.2,()))))) [(2,1)],.grow 9 1 (a8.2.2.1.length)])
@[go_sem] def aKP O a8 aA:=rF To Tp Tq (O,a8,aA)
@[go_sem] abbrev aCD:Nat×r7:=mE 153 [.p tW [2],.v] To Tp Tq [] [1]
def NV:qW prog aCD:=
 rI (rH (qO tN (qO BA (qO HI (qO D4 rG)))) (qQ JQ rE)) func153 19 [] rfl λE ⟨O,a8,aA⟩=>by
  have u0:= @xS.eq_1;exact rK
def NW (O:pI):(pT×Int)->Option ((pT×Int)⊕pT):=fun(a8,aA)=>ite (decide (aA<(O.length:Int))) (ite (0<=aA/\aA<(O.length:Int)) (ite (((((((qZ O aA)=123)||((qZ O aA)=125))||((qZ O aA)=60))||((qZ O aA)=62))||((qZ O aA)=35))||((qZ O aA)=92)) (ite ((a8.length+([92]:pT).length)*1<=140737488355328) (ite (0<=aA/\aA<(O.length:Int)) (ite (((a8++([92]:pT)).length+([(qZ O aA)]:pT).length)*1<=140737488355328) (ite (qG (aA+1)) (some (.inl (((a8++([92]:pT))++([(qZ O aA)]:pT)),(aA+1)))) none) none) none) none) (ite (0<=aA/\aA<(O.length:Int)) (ite ((a8.length+([(qZ O aA)]:pT).length)*1<=140737488355328) (ite (qG (aA+1)) (some (.inl ((a8++([(qZ O aA)]:pT)),(aA+1)))) none) none) none)) none) (some (.inr a8))
def SF (O:pI):Option pI:=rA (rC (NW O) (([]:pT),0)) λa8=>some (tQ a8)
abbrev Tr (x:pI):List qK:=[tv x]
@[go_sem] def Ts:pI->r8:=λO=>rv [] (SF O) λz=>([tv z],[])
@[go_sem] def aKQ O:=rF Tr qU Ts O
@[go_sem] abbrev aCE:Nat×r7:=mE 157 [.v] Tr qU Ts
def aCF:qW prog aCE:=
 rI (rH (qO HH (qO rX (qO HG rG))) (qQ ub rE)) func157 26 [(2,none)] rfl λE O=>by
  have u0:= @SF.eq_1;have u1:= @NW.eq_1
  let l1:LE (NW O):=⟨λx=>⟨[(0,tv O),(3,(.val (.list (.int .u8)) x.1,some 0)),(4,iv x.2)],[(0,.grow 5 1 (x.1.length))],1,26,0⟩⟩
  let x1:XE (NW O) 0 pT:=⟨λx=>⟨[(3,(.val (.list (.int .u8)) x,some 0))],[(0,.grow 5 1 (x.length))],1,26,0⟩⟩
  exact rK
def G6 (O:pI) (a8:pI):Option (pI×Bool):=(S2 O a8).bind λaA=>some (aA.1,aA.2)
abbrev Tt (x:(pI×pI)):List qK:=[tv x.1,tv x.2]
@[go_sem] def Tu:(pI×pI)->r8:=fun(O,a8)=>rv [] (G6 O a8) λz=>([tv (z.1),bv (z.2)],[])
@[go_sem] def aKR O a8:=rF Tt qU Tu (O,a8)
@[go_sem] abbrev aCG:Nat×r7:=mE 169 [.v,.v] Tt qU Tu
def ul:qW prog aCG:=
 rI (rH rG (qQ aBp rE)) func169 11 [(4,none),(5,none)] rfl λE ⟨O,a8⟩=>by
  have u0:= @G6.eq_1;exact rK
def JX (O:pT):(pI×Int)->Option ((pI×Int)⊕pI):=fun(a8,aA)=>ite (decide (aA<(O.length:Int))) (ite (0<=aA/\aA<(O.length:Int)) (ite (((0<=(qH (.int .i64) O aA))&&((qH (.int .i64) O aA)<=1114111))&&(((qH (.int .i64) O aA)<55296)||(57343<(qH (.int .i64) O aA)))) (ite (0<=aA/\aA<(O.length:Int)) ((F5 (qH (.int .i64) O aA)).bind λaB=>ite (((a8++aB).length:Int)<=9223372036854775807) (ite (qG (aA+1)) (some (.inl ((a8++aB),(aA+1)))) none) none) none) ((F5 65533).bind λaC=>ite (((a8++aC).length:Int)<=9223372036854775807) (ite (qG (aA+1)) (some (.inl ((a8++aC),(aA+1)))) none) none)) none) (some (.inr a8))
def SG (O:pT):Option pI:=rA (rC (JX O) (([]:pI),0)) λa8=>some (a8)
abbrev Tv (x:pT):List qK:=[sv (.list (.int .i64)) x]
@[go_sem] def Tw:pT->r8:=λO=>rv [] (SG O) λz=>([tv z],[])
@[go_sem] def aKS O:=rF Tv qU Tw O
@[go_sem] abbrev aCH:Nat×r7:=mE 175 [.v] Tv qU Tw
def aCI:qW prog aCH:=
 rI (rH (qO tN (qO Kh rG)) (qQ Pa (qQ Pd rE))) func175 27 [(2,none)] rfl λE O=>by
  have u0:= @SG.eq_1;have u1:= @JX.eq_1
  let l1:LE (JX O):=⟨λx=>⟨[(0,sv (.list (.int .i64)) O),(3,tv x.1),(4,iv x.2)],[],0,27,0⟩⟩
  let x1:XE (JX O) 0 pI:=⟨λx=>⟨[(3,tv x)],[],0,27,0⟩⟩
  exact rK
def EE (O:pI) (a8:Ja2) (aA:Int) (aB:pQ) (aC:Int) (aD:pR):Option (Int×Int):=ite (decide (8<aC)) ((vR O a8 aA aB 6 aD).bind λaE=>some (aE.1,aE.2)) (some (aB.1,aB.2.1))
abbrev Ub (x:(Int×pI×Ja2×Int×pQ×pR)):List qK:=[rs 0 0,iv x.1]
abbrev Uc (x:(Int×pI×Ja2×Int×pQ×pR)):List qP:=[.cells tG (x.2.1,(x.2.2.1,(x.2.2.2.1,((some 1),x.2.2.2.2.1)))) [],.map .str .bool x.2.2.2.2.2]
@[go_sem] def Ud:(Int×pI×Ja2×Int×pQ×pR)->r8:=fun(O,a8,aA,aB,aC,aD)=>rv [] (EE a8 aA aB aC O aD) λz=>([],[.cells tG (a8,(aA,(aB,((some 1),(z.1,(z.2,())))))) [],.map .str .bool aD])
@[go_sem] def aKU O a8 aA aB aC aD:=rF Ub Uc Ud (O,a8,aA,aB,aC,aD)
@[go_sem] abbrev aCK:Nat×r7:=mE 196 [.p tG [],.v] Ub Uc Ud [(0,3,.m)] [1]
def SH:qW prog aCK:=
 rI (rH rG (qQ EC rE)) func196 8 [] rfl λE ⟨O,a8,aA,aB,aC,aD⟩=>by
  have u0:= @EE.eq_1;exact rK
attribute [irreducible] SD G5 G4 NU SE vR xS SF G6 SG EE
end
noncomputable section
def sT (O:pI) (a8:Ja2) (aA:Int) (aB:pQ) (aC:Int) (aD:pR):Option (pI×Int×Int×Int):=(vQ O a8 aA aB aD).bind λaE=>ite (!decide (aE=aC)) ((vR O a8 aA aB 3 aD).bind λaF=>some (([]:pI),aA,aF.1,aF.2)) (ite (qG (aA+1)) (ite (qG ((aA+1)- 1)) (ite (0<=((aA+1)- 1)/\((aA+1)- 1)<(a8.length:Int)) (some ((qH sN a8 ((aA+1)- 1)).2.1,(aA+1),aB.1,aB.2.1)) none) none) none)
abbrev Tx (x:(Int×pI×Ja2×Int×pQ×pR)):List qK:=[rs 0 0,iv x.1]
abbrev Tz (x:(Int×pI×Ja2×Int×pQ×pR)):List qP:=[.cells tG (x.2.1,(x.2.2.1,(x.2.2.2.1,((some 1),x.2.2.2.2.1)))) [],.map .str .bool x.2.2.2.2.2]
@[go_sem] def Ua:(Int×pI×Ja2×Int×pQ×pR)->r8:=fun(O,a8,aA,aB,aC,aD)=>rv [] (sT a8 aA aB aC O aD) λz=>([tv (z.1)],[.cells tG (a8,(aA,(z.2.1,((some 1),(z.2.2.1,(z.2.2.2,())))))) [],.map .str .bool aD])
@[go_sem] def aKT O a8 aA aB aC aD:=rF Tx Tz Ua (O,a8,aA,aB,aC,aD)
@[go_sem] abbrev aCJ:Nat×r7:=mE 195 [.p tG [],.v] Tx Tz Ua [(0,3,.m)] [1]
def ED:qW prog aCJ:=
 rI (rH (qO tN (qO rX (qO zY (qO zD (qO AJ rG))))) (qQ C2 (qQ EC rE))) func195 30 [(4,none)] rfl λE ⟨O,a8,aA,aB,aC,aD⟩=>by
  have u0:= @sT.eq_1;exact rK
def NX (O:pI):(Int×pT)->Option ((Int×pT)⊕pT):=fun(a8,aA)=>ite (decide (a8<(O.length:Int))) (ite (0<=a8/\a8<(O.length:Int)) (ite (JS (qZ O a8)) ((FZ (aA,()) 92).bind λaB=>ite (0<=a8/\a8<(O.length:Int)) ((FZ ((aA++([92]:pT)),()) (qZ O a8)).bind λaC=>ite (qG (a8+1)) (some (.inl ((a8+1),((aA++([92]:pT))++([(qZ O a8)]:pT))))) none) none) (ite (0<=a8/\a8<(O.length:Int)) ((FZ (aA,()) (qZ O a8)).bind λaD=>ite (qG (a8+1)) (some (.inl ((a8+1),(aA++([(qZ O a8)]:pT))))) none) none)) none) (some (.inr aA))
def NY (O:pI):Option pI:=rA (rC (NX O) (0,([]:pT))) λa8=>some (tQ a8)
abbrev Ue (x:pI):List qK:=[tv x]
@[go_sem] def Uf:pI->r8:=λO=>rv [] (NY O) λz=>([tv z],[])
@[go_sem] def aKV O:=rF Ue qU Uf O
@[go_sem] abbrev Ug:Nat×r7:=mE 202 [.v] Ue qU Uf
def Uh:qW prog Ug:=
 rI (rH (qO rX (qO WA rG)) (qQ Pr (qQ Ou (qQ dl rE)))) func202 21 [(2,none)] rfl λE O=>by
  have u0:= @NY.eq_1;have u1:= @NX.eq_1
  let l1:LE (NX O):=⟨λx=>⟨[(0,tv O),(3,rs 0 0),(6,iv (O.length:Int)),(7,iv x.1)],[(0,.cells vA ((some (0,0)),(x.2,())) [(1,1)]),(1,.grow 5 1 (x.2.length))],2,21,0⟩⟩
  let x1:XE (NX O) 0 pT:=⟨λx=>⟨[(3,rs 0 0)],[(0,.cells vA ((some (0,0)),(x,())) [(1,1)]),(1,.grow 5 1 (x.length))],2,21,0⟩⟩
  exact rK
def JY (O:pI):(pT×Int)->Option ((pT×Int)⊕(pT⊕(pI×Int×Int))):=fun(a8,aA)=>ite (decide (aA<(O.length:Int))) (ite (0<=aA/\aA<(O.length:Int)) (ite (((decide ((qZ O aA)=92))==true)=true->qG (aA+1)) (ite (((((qZ O aA)=92)&&((aA+1)<(O.length:Int)))==true)=true->qG (aA+1)) (ite (((((qZ O aA)=92)&&((aA+1)<(O.length:Int)))==true)=true->0<=(aA+1)/\(aA+1)<(O.length:Int)) (ite ((((qZ O aA)=92)&&((aA+1)<(O.length:Int)))&&(((((((qZ O (aA+1))=123)||((qZ O (aA+1))=125))||((qZ O (aA+1))=60))||((qZ O (aA+1))=62))||((qZ O (aA+1))=35))||((qZ O (aA+1))=92))) (ite (qG (aA+1)) (ite (0<=(aA+1)/\(aA+1)<(O.length:Int)) (ite ((a8.length+([(qZ O (aA+1))]:pT).length)*1<=140737488355328) (ite (qG ((aA+1)+1)) (some (.inl ((a8++([(qZ O (aA+1))]:pT)),((aA+1)+1)))) none) none) none) none) (ite (0<=aA/\aA<(O.length:Int)) (ite (((((((qZ O aA)=123)||((qZ O aA)=125))||((qZ O aA)=60))||((qZ O aA)=62))||((qZ O aA)=35))||((qZ O aA)=92)) (some (.inr (.inr (([]:pI),aA,3)))) (ite (0<=aA/\aA<(O.length:Int)) (ite ((a8.length+([(qZ O aA)]:pT).length)*1<=140737488355328) (ite (qG (aA+1)) (some (.inl ((a8++([(qZ O aA)]:pT)),(aA+1)))) none) none) none)) none)) none) none) none) none) (some (.inr (.inl a8)))
def SI (O:pI):Option (pI×Int×Int):=sK (rC (JY O) (([]:pT),0)) λa8=>some ((tQ a8),0,0)
abbrev Ui (x:pI):List qK:=[tv x]
@[go_sem] def Uj:pI->r8:=λO=>rv [] (SI O) λz=>([tv (z.1),iv (z.2.1),iv (z.2.2)],[])
@[go_sem] def aKW O:=rF Ui qU Uj O
@[go_sem] abbrev aCL:Nat×r7:=mE 211 [.v] Ui qU Uj
def aCM:qW prog aCL:=
 rI (rH (qO HH (qO rX (qO HG rG))) (qQ ub rE)) func211 46 [(2,none),(3,none),(4,none)] rfl λE O=>by
  have u0:= @SI.eq_1;have u1:= @JY.eq_1
  let l1:LE (JY O):=⟨λx=>⟨[(0,tv O),(5,(.val (.list (.int .u8)) x.1,some 0)),(6,iv x.2)],[(0,.grow 5 1 (x.1.length))],1,46,0⟩⟩
  let x1:XE (JY O) 0 pT:=⟨λx=>⟨[(5,(.val (.list (.int .u8)) x,some 0))],[(0,.grow 5 1 (x.length))],1,46,0⟩⟩
  exact rK
def uD (O:s9) (a8:Int):Option (pI×Ja2×Int×Int):=(vD O).bind λaA=>rA (σ:=(Int×Int)) (ite (!decide (aA.1=a8)) ((xS O 3).bind λaB=>some (aB.1,aB.2)) (some (O.2.2.2.1,O.2.2.2.2.1))) fun(aC,aD)=>ite (!decide (aD=0)) (some (([]:pI),O.1,aC,aD)) (ite (0<=(1:Int)/\1<=(O.1.length:Int)/\(O.1.length:Int)<=(O.1.length:Int)) (some (aA.2.1,(s8 O.1 1 (O.1.length:Int)),aC,aD)) none)
abbrev Uk (x:(Int×s9×Nat)):List qK:=[rs 0 0,iv x.1]
abbrev Ul (x:(Int×s9×Nat)):List qP:=[.cells tW x.2.1 [(2,1)],.grow 9 1 x.2.2]
@[go_sem] def Um:(Int×s9×Nat)->r8:=fun(O,a8,aA)=>rv [aA=(a8.2.2.1.length)] (uD a8 O) λz=>([tv (z.1)],[.cells tW (z.2.1,(a8.2.1,(a8.2.2.1,(z.2.2.1,(z.2.2.2,()))))) [(2,1)],.grow 9 1 (a8.2.2.1.length)])
@[go_sem] def aKX O a8 aA:=rF Uk Ul Um (O,a8,aA)
@[go_sem] abbrev aCN:Nat×r7:=mE 212 [.p tW [2],.v] Uk Ul Um [] [1]
def WW:qW prog aCN:=
 rI (rH (qO tN (qO rX (qO BA (qO di (qO HI (qO D4 rG)))))) (qQ JQ (qQ NV rE))) func212 29 [(4,none)] rfl λE ⟨O,a8,aA⟩=>by
  have u0:= @uD.eq_1
  let j1 (aB:(Int×pI×Int×Int)):JE 11 (Int×Int):=⟨λx=>⟨[(0,rs 0 0),(5,rs 2 0)],[(0,.cells tW (a8.1,(a8.2.1,(a8.2.2.1,(x.1,(x.2,()))))) [(2,1)]),(1,.grow 9 1 (a8.2.2.1.length)),(2,.cells sN (aB.1,(aB.2.1,(aB.2.2.1,(aB.2.2.2,())))) [])],3,29,2⟩⟩
  exact rK
def F6 (O:s9) (a8:Int):Option (Int×Int):=ite (decide (8<a8)) ((xS O 6).bind λaA=>some (aA.1,aA.2)) (some (O.2.2.2.1,O.2.2.2.2.1))
abbrev Un (x:(Int×s9×Nat)):List qK:=[rs 0 0,iv x.1]
abbrev Uo (x:(Int×s9×Nat)):List qP:=[.cells tW x.2.1 [(2,1)],.grow 9 1 x.2.2]
@[go_sem] def Up:(Int×s9×Nat)->r8:=fun(O,a8,aA)=>rv [aA=(a8.2.2.1.length)] (F6 a8 O) λz=>([],[.cells tW (a8.1,(a8.2.1,(a8.2.2.1,(z.1,(z.2,()))))) [(2,1)],.grow 9 1 (a8.2.2.1.length)])
@[go_sem] def aKY O a8 aA:=rF Un Uo Up (O,a8,aA)
@[go_sem] abbrev aCO:Nat×r7:=mE 213 [.p tW [2],.v] Un Uo Up [] [1]
def Uq:qW prog aCO:=
 rI (rH rG (qQ NV rE)) func213 8 [] rfl λE ⟨O,a8,aA⟩=>by
  have u0:= @F6.eq_1;exact rK
def D5 (O:pI) (a8:Int):(Int×Int)->Option ((Int×Int)⊕(Int⊕(Int×Int))):=fun(aA,aB)=>ite (decide (aB<a8)) (ite (0<=aB/\aB<(O.length:Int)) (ite (((decide ((qZ O aB)<128))==false)=true->0<=aB/\aB<(O.length:Int)) (ite (((qZ O aB)<128)||(191<(qZ O aB))) (some (.inr (.inr (65533,1)))) (ite (qG (64*aA)) (ite (0<=aB/\aB<(O.length:Int)) (ite (qG ((64*aA)+(IntKind.wrap .i64 (qZ O aB)))) (ite (qG (((64*aA)+(IntKind.wrap .i64 (qZ O aB)))- 128)) (ite (qG (aB+1)) (some (.inl ((((64*aA)+(IntKind.wrap .i64 (qZ O aB)))- 128),(aB+1)))) none) none) none) none) none)) none) none) (some (.inr (.inl aA)))
def NZ (O:pI):Option (Int×Int):=ite (0<=(0:Int)/\0<(O.length:Int)) (sK (σ:=(Int×Int)) (ite (decide ((IntKind.wrap .i64 (qZ O 0))<128)) (some (.inr ((IntKind.wrap .i64 (qZ O 0)),1))) (ite ((192<=(IntKind.wrap .i64 (qZ O 0)))&&((IntKind.wrap .i64 (qZ O 0))<224)) (ite (qG ((IntKind.wrap .i64 (qZ O 0))- 192)) (some (.inl (((IntKind.wrap .i64 (qZ O 0))- 192),2))) none) (ite ((224<=(IntKind.wrap .i64 (qZ O 0)))&&((IntKind.wrap .i64 (qZ O 0))<240)) (ite (qG ((IntKind.wrap .i64 (qZ O 0))- 224)) (some (.inl (((IntKind.wrap .i64 (qZ O 0))- 224),3))) none) (ite ((240<=(IntKind.wrap .i64 (qZ O 0)))&&((IntKind.wrap .i64 (qZ O 0))<248)) (ite (qG ((IntKind.wrap .i64 (qZ O 0))- 240)) (some (.inl (((IntKind.wrap .i64 (qZ O 0))- 240),4))) none) (some (.inr (65533,1))))))) fun(a8,aA)=>ite (decide ((O.length:Int)<aA)) (some (65533,1)) (sK (rC (D5 O aA) (a8,1)) λaB=>ite (((!(((0<=aB)&&(aB<=1114111))&&((aB<55296)||(57343<aB))))==false)=true->(F5 aB).isSome=true) (ite (((!(((0<=aB)&&(aB<=1114111))&&((aB<55296)||(57343<aB))))==false)=true->0<=(0:Int)/\0<=aA/\aA<=(O.length:Int)) (ite ((!(((0<=aB)&&(aB<=1114111))&&((aB<55296)||(57343<aB))))||(!decide ((val (F5 aB))=(s8 O 0 aA)))) (some (65533,1)) (some (aB,aA))) none) none)) none
abbrev Ur (x:pI):List qK:=[tv x]
@[go_sem] def Us:pI->r8:=λO=>rv [] (NZ O) λz=>([iv (z.1),iv (z.2)],[])
@[go_sem] def aKZ O:=rF Ur qU Us O
@[go_sem] abbrev aCP:Nat×r7:=mE 215 [.v] Ur qU Us
def Ut:qW prog aCP:=
 rI (rH (qO tN (qO HH (qO rX rG))) (qQ Pa (qQ Pd rE))) func215 81 [(2,none),(3,none)] rfl λE O=>by
  have u0:= @NZ.eq_1;have u1:= @D5.eq_1
  let l1 a8:LE (D5 O a8):=⟨λx=>⟨[(0,tv O),(4,iv x.1),(5,iv a8),(6,iv x.2)],[],0,81,0⟩⟩
  let j1:JE 0 (Int×Int):=⟨λx=>⟨[(0,tv O),(4,iv x.1),(5,iv x.2)],[],0,81,0⟩⟩
  let x1 a8:XE (D5 O a8) 1 Int:=⟨λx=>⟨[(0,tv O),(4,iv x),(5,iv a8)],[],0,81,0⟩⟩
  exact rK
def O0 (O:pI):Int->Option (Int⊕(Unit⊕Int)):=λa8=>ite (decide (a8<(O.length:Int))) (ite (0<=a8/\a8<(O.length:Int)) (ite (((!((((97<=(qZ O a8))&&((qZ O a8)<=122))||((65<=(qZ O a8))&&((qZ O a8)<=90)))||((48<=(qZ O a8))&&((qZ O a8)<=57))))==true)=true->0<=a8/\a8<(O.length:Int)) (ite ((((!((((97<=(qZ O a8))&&((qZ O a8)<=122))||((65<=(qZ O a8))&&((qZ O a8)<=90)))||((48<=(qZ O a8))&&((qZ O a8)<=57))))&&(!decide ((qZ O a8)=95)))==true)=true->0<=a8/\a8<(O.length:Int)) (ite (((((!((((97<=(qZ O a8))&&((qZ O a8)<=122))||((65<=(qZ O a8))&&((qZ O a8)<=90)))||((48<=(qZ O a8))&&((qZ O a8)<=57))))&&(!decide ((qZ O a8)=95)))&&(!decide ((qZ O a8)=45)))==true)=true->0<=a8/\a8<(O.length:Int)) (ite ((((((!((((97<=(qZ O a8))&&((qZ O a8)<=122))||((65<=(qZ O a8))&&((qZ O a8)<=90)))||((48<=(qZ O a8))&&((qZ O a8)<=57))))&&(!decide ((qZ O a8)=95)))&&(!decide ((qZ O a8)=45)))&&(!decide ((qZ O a8)=46)))==true)=true->0<=a8/\a8<(O.length:Int)) (ite (((((!((((97<=(qZ O a8))&&((qZ O a8)<=122))||((65<=(qZ O a8))&&((qZ O a8)<=90)))||((48<=(qZ O a8))&&((qZ O a8)<=57))))&&(!decide ((qZ O a8)=95)))&&(!decide ((qZ O a8)=45)))&&(!decide ((qZ O a8)=46)))&&(!decide ((qZ O a8)=61))) (some (.inr (.inr (a8)))) (ite (qG (a8+1)) (some (.inl (a8+1))) none)) none) none) none) none) none) (some (.inr (.inl ())))
def SJ (O:pI):Option Int:=sK (rC (O0 O) 0) λ_=>some (O.length:Int)
abbrev Uu (x:pI):List qK:=[tv x]
@[go_sem] def Uv:pI->r8:=λO=>rv [] (SJ O) λz=>([iv z],[])
@[go_sem] def aK0 O:=rF Uu qU Uv O
@[go_sem] abbrev aCQ:Nat×r7:=mE 249 [.v] Uu qU Uv
def aCR:qW prog aCQ:=
 rI (rH (qO rX rG) (qQ Qk rE)) func249 42 [(2,none)] rfl λE O=>by
  have u0:= @SJ.eq_1;have u1:= @O0.eq_1
  let l1:LE (O0 O):=⟨λx=>⟨[(0,tv O),(5,iv (O.length:Int)),(6,iv x)],[],0,42,0⟩⟩
  let x1:XE (O0 O) 0 Unit:=⟨λ_=>⟨[(0,tv O)],[],0,42,0⟩⟩
  exact rK
def O1 (O:pI):Int->Option (Int⊕(Unit⊕Int)):=λa8=>ite (decide (a8<(O.length:Int))) (ite (0<=a8/\a8<(O.length:Int)) (ite (!(JS (qZ O a8))) (ite (qG (a8+1)) (some (.inl (a8+1))) none) (ite (0<=a8/\a8<(O.length:Int)) (ite (((!decide ((qZ O a8)=92))==false)=true->qG (a8+1)) (ite ((((!decide ((qZ O a8)=92))||((a8+1)=(O.length:Int)))==false)=true->qG (a8+1)) (ite ((((!decide ((qZ O a8)=92))||((a8+1)=(O.length:Int)))==false)=true->0<=(a8+1)/\(a8+1)<(O.length:Int)) (ite (((!decide ((qZ O a8)=92))||((a8+1)=(O.length:Int)))||(!(JS (qZ O (a8+1))))) (some (.inr (.inr (a8)))) (ite (qG (a8+1)) (ite (qG ((a8+1)+1)) (some (.inl ((a8+1)+1))) none) none)) none) none) none) none)) none) (some (.inr (.inl ())))
def O2 (O:pI):Option Int:=sK (rC (O1 O) 0) λ_=>some (O.length:Int)
abbrev Uw (x:pI):List qK:=[tv x]
@[go_sem] def Ux:pI->r8:=λO=>rv [] (O2 O) λz=>([iv z],[])
@[go_sem] def aK1 O:=rF Uw qU Ux O
@[go_sem] abbrev aCS:Nat×r7:=mE 251 [.v] Uw qU Ux
def Uy:qW prog aCS:=
 rI (rH (qO rX rG) (qQ Pr rE)) func251 39 [(2,none)] rfl λE O=>by
  have u0:= @O2.eq_1;have u1:= @O1.eq_1
  let l1:LE (O1 O):=⟨λx=>⟨[(0,tv O),(3,iv x)],[],0,39,0⟩⟩
  let x1:XE (O1 O) 0 Unit:=⟨λ_=>⟨[(0,tv O)],[],0,39,0⟩⟩
  exact rK
def vM (O:s9) (a8:Bool):Option (pI×Ja2×Int×Int):=(vD O).bind λaA=>ite ((!decide (aA.1=9))||(!a8)) ((xS O 3).bind λaB=>(uD (O.1,(O.2.1,(O.2.2.1,(aB.1,(aB.2,()))))) 9).bind λaC=>some (aC.1,aC.2.1,aC.2.2.1,aC.2.2.2)) ((uD O 9).bind λaD=>some (aD.1,aD.2.1,aD.2.2.1,aD.2.2.2))
abbrev Vl (x:(Bool×s9×Nat)):List qK:=[rs 0 0,bv x.1]
abbrev Vm (x:(Bool×s9×Nat)):List qP:=[.cells tW x.2.1 [(2,1)],.grow 9 1 x.2.2]
@[go_sem] def Vn:(Bool×s9×Nat)->r8:=fun(O,a8,aA)=>rv [aA=(a8.2.2.1.length)] (vM a8 O) λz=>([tv (z.1)],[.cells tW (z.2.1,(a8.2.1,(a8.2.2.1,(z.2.2.1,(z.2.2.2,()))))) [(2,1)],.grow 9 1 (a8.2.2.1.length)])
@[go_sem] def aK6 O a8 aA:=rF Vl Vm Vn (O,a8,aA)
@[go_sem] abbrev aCZ:Nat×r7:=mE 294 [.p tW [2],.v] Vl Vm Vn [] [1]
def uo:qW prog aCZ:=
 rI (rH (qO D4 rG) (qQ JQ (qQ NV (qQ WW rE)))) func294 17 [(4,none)] rfl λE ⟨O,a8,aA⟩=>by
  have u0:= @vM.eq_1;exact rK
attribute [irreducible] sT NY SI uD F6 NZ SJ O2 vM
end
end Go.Proofs.YtedimeeleabhnaaGreatDoor
