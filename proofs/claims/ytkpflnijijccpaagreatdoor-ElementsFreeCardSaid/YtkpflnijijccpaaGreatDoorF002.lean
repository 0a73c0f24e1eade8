/- Packed by a program of mine (wip/tools/pack.py): the same texts with short names and few blanks. -/
import Derived.KernelRfl
import Derived.Lib.Hide
import Derived.Lib.IndexMore
import Derived.Lib.RowBridge
import Derived.LoopIn
import Derived.LoopNIn
import Derived.OwnWalkIn
import Derived.RangeFuncBox
import Derived.RangeFuncLeaves
import Derived.Scope
import Derived.Shelf.Abstract
import Derived.Shelf.Slices.Clone
import Derived.Shelf.Slices.CompactS
import Derived.Shelf.Slices.In.SortNone
import Derived.Shelf.SlicesE.DeleteFunc
import Derived.Shelf.Small.Strs
import Derived.Shelf.Small.Utf8
import Derived.Shelf.Sort.Plain
import Derived.Shelf.Spec.SlicesInsertGrow
import Derived.Shelf.Strconv.Itoa3
import Derived.Shelf.Strings.Builder1
import Derived.Shelf.Strings.Fields
import Derived.Shelf.Strings.OnBuilder
import Derived.Shelf.Strings.Runes
import Derived.Shelf.Strings.Search1
import Derived.Shelf.Strings.Search2
import Derived.Shelf.Strings.Search3
import Derived.Shelf.Strings.SlTrimAscii
import Derived.Shelf.Strings.Split
import Derived.Shelf.Strings.Trim
import Derived.Shelf.Unicode.DecodeAny
import Derived.Shelf.Unicode.ValidAny
import Derived.TacticsInMore
import Derived.Test.YtkpflnijijccpaaGreatDoorChecked
import Derived.Test.YtkpflnijijccpaaGreatDoorProg
import Derived.WalkKit
import Derived.Test.YtkpflnijijccpaaGreatDoorF001
set_option linter.defProp false
set_option linter.unusedVariables false
set_option linter.unusedSimpArgs false
set_option linter.unusedSectionVars false
set_option maxRecDepth 100000
set_option maxHeartbeats 4000000
namespace Go.Proofs.YtkpflnijijccpaaGreatDoor.Vc
open Go.RowKit
def Ev (R:Bool) (P:Program) (c:Code) (s:St) (Q:Ex->St->Prop):Prop:=
 ∀(ro:pP),ro.isSome=R->
 ∀(A:Nat->Nat->Prop) (L:List q9) (g0:Gh) (w0:pR) (g:Gh) (a:Act) (w:pR) (B:Nat),B<=w0.heap.size->vE B g w s a->tP A L g0 w0 g w s.H->s.np=L.length->c.wpIn (E3 ro) 0 P (IQ B A L g0 w0 Q) a w
variable {R:Bool}
theorem a8E {P:Program}{T:sM}{Γ:tX}(hT:wV P T) (hΓ:D2 P Γ) (hm:P.follows .mixedOrders=true) {c:Code}{s:St}{Q:Ex->St->Prop}(h:w6 T Γ c s Q):Ev R P c s Q:=
 fun ro hro A L g0 w0 g a w B hB hr hg hn=>F8 hT hΓ hm c s Q g a w h hr hg hn
structure rN (P:Program) (T:sM) (Γ:tX):Prop where
 T:wV P T
 Γ:D2 P Γ
 m:P.follows .mixedOrders=true
@[go_sem] def skS (l:pQ) (Γ:tX) (f:Nat):Option r6:=if BA f l=true then some ⟨[],fun _ _=>none,[],[],none⟩ else Γ f
theorem Y0 {P:Program}{T:sM}{Γ:tX}{l:pQ}(h:rN P T Γ) (hl:(l.all fun k=>decide (1000000000<=k))=true):rN P T (skS l Γ):=
 ⟨h.T,fun f s hlt hs=>by
  unfold skS at hs;split at hs
  .rename_i hm;have:=aMv (aMB.1 hl f (GR.1 hm));omega
  .exact h.Γ f s hlt hs,h.m⟩
theorem aGf {P:Program}{c:Code}{s:St}{Q Q':Ex->St->Prop}(h:Ev R P c s Q') (hq: ∀e s,Q' e s->Q e s):Ev R P c s Q:=by
 intro ro hro A L g0 w0 g a w B hB hr hg hn;refine aNv (h ro hro A L g0 w0 g a w B hB hr hg hn) fun x a' w' hp=> ?_;obtain⟨e,g',s',h1,h2,h3,h4,h5⟩:=hp;exact⟨e,g',s',h1,hq e s' h2,h3,h4,h5⟩
theorem a8G {P:Program}{c:Code}{s:St}{Q:Ex->St->Prop}(k:vS) (h:Ev R P c (s.keep k) Q):Ev R P c s Q:=by
 intro ro hro A L g0 w0 g a w B hB hr hg hn;obtain⟨g1,k1,k2,k3,_⟩:=F6 hr hg hn k;exact h ro hro A L g0 w0 g1 a w B hB k1 k2 k3
section
variable {P:Program}{s:St}{Q:Ex->St->Prop}
theorem rG (h:Q .normal s):Ev R P .skip s Q:=fun _ _ _ _ _ _ g _ _ _ _ hr hg hn=>wpIn_skip ⟨.normal,g,s,rfl,h,hr,hg,hn⟩
theorem uO {id:Nat}(h:Q (.exit id) s):Ev R P (.exit id) s Q:=fun _ _ _ _ _ _ g _ _ _ _ hr hg hn=>wpIn_exit ⟨.exit id,g,s,rfl,h,hr,hg,hn⟩
theorem qV (h:Q .ret s):Ev R P .ret s Q:=fun _ _ _ _ _ _ g _ _ _ _ hr hg hn=>wpIn_ret ⟨.ret,g,s,rfl,h,hr,hg,hn⟩
theorem qT {x y:Code}(h:Ev R P x s (N9 (fun s'=>Ev R P y s' Q) Q)):Ev R P (.seq x y) s Q:=by
 intro ro hro A L g0 w0 g a w B hB hr hg hn;refine wpIn_seq (aNv (h ro hro A L g0 w0 g a w B hB hr hg hn) fun e a' w' hp=> ?_);obtain⟨e',g',s',h1,h2,h3,h4,h5⟩:=hp;cases e<;>simp only[E4,aLO] at h1
 case normal=>subst h1;exact h2 ro hro A L g0 w0 g' a' w' B hB h3 h4 h5
 case exit id=>subst h1;exact⟨.exit id,g',s',rfl,h2,h3,h4,h5⟩
 case ret=>subst h1;exact⟨.ret,g',s',rfl,h2,h3,h4,h5⟩
 all_goals cases h1
theorem aGg {c:Operand}{x y:Code}{b:Bool}{k:pP}(h:u6 s.env c=(.val .bool b,k)) (ht:b=true->Ev R P x s Q) (hf:b=false->Ev R P y s Q):Ev R P (.cond c x y) s Q:=by
 intro ro hro A L g0 w0 g a w B hB hr hg hn;have hc:=zL hr.env c;rw[h] at hc;exact wpIn_cond_split (vL hc.1) (fun e=>ht e ro hro A L g0 w0 g a w B hB hr hg hn) (fun e=>hf e ro hro A L g0 w0 g a w B hB hr hg hn)
theorem a8H {c:Operand}{x y:Code}{p q:Prop}{k:pP}(h:u6 s.env c=(.flag p q,k)) (ht:p->Ev R P x s Q) (hf:q->Ev R P y s Q):Ev R P (.cond c x y) s Q:=by
 intro ro hro A L g0 w0 g a w B hB hr hg hn;have hc:=zL hr.env c;rw[h] at hc;obtain⟨b,hb,hp,hq⟩:=hc.1;exact wpIn_cond_split hb (fun e=>ht (hp e) ro hro A L g0 w0 g a w B hB hr hg hn) (fun e=>hf (hq e) ro hro A L g0 w0 g a w B hB hr hg hn)
theorem s9 {id:Nat}{c:Code}(h:Ev R P c s (GN id Q)):Ev R P (.block id c) s Q:=by
 intro ro hro A L g0 w0 g a w B hB hr hg hn;refine wpIn_block (aNv (h ro hro A L g0 w0 g a w B hB hr hg hn) fun e a' w' hp=> ?_);obtain⟨e',g',s',h1,h2,h3,h4,h5⟩:=hp;cases e<;>simp only[E4,aLO] at h1
 case normal=>subst h1;exact⟨.normal,g',s',rfl,h2,h3,h4,h5⟩
 case exit j=>
  subst h1;simp only[GN] at h2;simp only[Exit.inBlock];split
  .rename_i hj;rw[aLQ hj] at h2;exact⟨.normal,g',s',rfl,h2,h3,h4,h5⟩
  .rename_i hj;rw[aLU hj] at h2;exact⟨.exit j,g',s',rfl,h2,h3,h4,h5⟩
 case ret=>subst h1;exact⟨.ret,g',s',rfl,h2,h3,h4,h5⟩
 all_goals cases h1
end
@[go_sem] def Y1 (k:Nat) (t:Ty) (l:List t.den):qC->qC
 |(.own j m,x)=>if j=k then(.val (.list t) l,some k) else(.own j m,x)
 |s=>s
@[go_sem] def O1 (k:Nat) (t:Ty) (l:List t.den):List (Nat×qC)->List (Nat×qC)
 |[]=>[]
 |(i,s)::r=>(i,Y1 k t l s)::O1 k t l r
@[go_sem] def a8I (k n:Nat):qC->Prop
 |(.own j m,_)=>j=k->m=n
 |_=>True
@[go_sem] def Y2 (k n:Nat):List (Nat×qC)->Prop
 |[]=>True
 |(_,s)::r=>a8I k n s/\Y2 k n r
theorem a8J {k:Nat}{t:Ty}{l:List t.den}: ∀{env:List (Nat×qC)}{i:Nat},lk (O1 k t l env) i=Y1 k t l (lk env i)
 |[],i=>rfl
 |(j,s)::r,i=>by
  simp only[O1,lk];split
  .rfl
  .exact a8J
theorem a8K {k n:Nat}: ∀{env:List (Nat×qC)}{i:Nat},Y2 k n env->a8I k n (lk env i)
 |[],i,_=>trivial
 |(j,s)::r,i,⟨h1,h2⟩=>by
  simp only[lk];split
  .exact h1
  .exact a8K h2
theorem O2 {P:Program}{c:Code}{s:St}{Q:Ex->St->Prop}(k:Nat) {e:TypeId}{t:Ty}{l:List t.den}{n:Nat}(hk:qD s.H k=some (.row e t l n)) (hok:Y2 k n s.env)
  (h:Ev R P c ⟨O1 k t l s.env,(k,.grow e t.cells (List.length l))::s.H,s.nb,s.N,s.np⟩ Q):Ev R P c s Q:=by
 intro ro hro A L g0 w0 g a w B hB hr hg hn;obtain⟨hl,v,xs,hv,hown,hF,hnone,hseal⟩:=hr.heap.blk k _ hk
 let g':Gh:={g with S:=fun b o=>g.S b o\/(v.ownBlock=some b/\o<n*t.cells)}
 have le:Le g w g' w:=⟨fun _ _ h=> .inl h,fun _ _ _=>rfl,fun _ _ h=>h,fun _ _ _ h=>h⟩;have hown2: ∀b,v.ownBlock=some b->∀o,sA g k (.row e t l n) b o:=fun b hb o=>⟨v,hv,hb⟩;have hlist: ∀u,g.cur k n=some u->((u= .slice none 0 0/\n=0)\/∃b cap,u= .slice (some ⟨b,0,none⟩) n cap/\n<=cap)->tJ g' w (.list t) l u:=by
  intro u hu hshape;rw[hv] at hu;obtain rfl:=aLS hu;rcases hshape with⟨rfl,h0⟩ |⟨b,cap,rfl,hcap⟩
  .have:l=[]:=aMo (by rw[hl,h0]);subst this;exact .inr ⟨rfl,none,0,rfl,aMc _,.inl rfl⟩
  .refine .inr ⟨rfl,some ⟨b,0,none⟩,cap,by rw[hl],by rw[hl];exact hcap,.inr ⟨b,0,rfl,KO (C7 (fun _ _ h=>wU le h) hF) (fun j u hu=> ?_) (fun j hj=> ?_)⟩⟩
   .have:=hown.cells (g:=b) rfl j u hu;rwa [aM6] at this
   .right;exact⟨rfl,by rw[hl] at hj;omega⟩
 have hget: ∀i b,qD ((k,q9.grow e t.cells (List.length l))::s.H) i=some b->(i=k/\b= .grow e t.cells (List.length l))\/(i≠k/\qD s.H i=some b):=by
  intro i b hb;simp only[qD] at hb;split at hb
  .rename_i e1;exact .inl ⟨e1.symm,(aLS hb).symm⟩
  .rename_i e1;exact .inr ⟨Ne.symm e1,hb⟩
 have howns: ∀i b bb o,qD ((k,q9.grow e t.cells (List.length l))::s.H) i=some b->sA g' i b bb o->∃b0,qD s.H i=some b0/\sA g i b0 bb o:=by
  intro i b bb o hb ho;rcases hget i b hb with⟨rfl,rfl⟩ |⟨_,h1⟩
  .obtain⟨u,hu,hub⟩:=ho;have hu':g.cur i (List.length l)=some u:=hu;rw[hl] at hu';exact⟨_,hk,u,hu',hub⟩
  .exact⟨b,h1,(yW (g':=g') (g:=g) rfl rfl).1 ho⟩
 have hrel:vE B g' w ⟨O1 k t l s.env,(k,.grow e t.cells (List.length l))::s.H,s.nb,s.N,s.np⟩ a:=by
  refine⟨fun i=> ?_,⟨fun i b hb=> ?_,fun i j bi bj b o hij h1 h2 o1 o2=> ?_,fun b o hS=> ?_,hr.heap.tab.1,fun i b bb oo hb ho=>by
   obtain⟨c1,k1,k2⟩:=howns i b bb oo hb ho;exact hr.heap.tab.2 i c1 bb oo k1 k2⟩,hr.size,hr.nb,hr.def_,hr.np⟩
  .rw[a8J];have h1:=hr.env i;have h2:=a8K (i:=i) hok;generalize lk s.env i=sl at h1 h2;obtain⟨d,x⟩:=sl;cases d with
   |own j m=>
    simp only[Y1];split
    .rename_i hj;subst hj;have hm:m=n:=h2 rfl;subst hm;refine⟨hlist _ h1.1.1 h1.1.2,?_⟩;show g'.cur j (List.length l)=_;rw[hl];exact h1.1.1
    .exact C6 le h1
   |_=>exact C6 le h1
  .rcases hget i b hb with⟨rfl,rfl⟩ |⟨hne,h1⟩
   .refine⟨v,xs,by rw[hl];exact hv,by rw[hl];exact hown,fun m hm=>hnone m (by rw[hl] at hm;exact hm),fun b hb o hS=> ?_⟩;rw[hl];rcases hS with hS|hS
    .exact absurd hS (hseal b hb o)
    .exact hS.2
   .exact KM (hr.heap.blk i b h1) le rfl rfl (fun _ _ _=>⟨rfl,rfl⟩) (fun _ _=>rfl) (fun bb o ho hS=>by
     rcases hS with hS|hS
     .exact hS
     .exact absurd (hown2 bb hS.1 o) (fun h5=>hr.heap.dis i k b _ bb o hne h1 hk ho h5)) (fun _ _ _ _ h=>h)
  .obtain⟨c1,k1,k2⟩:=howns i bi b o h1 o1;obtain⟨c2,k3,k4⟩:=howns j bj b o h2 o2;exact hr.heap.dis i j c1 c2 b o hij k1 k3 k2 k4
  .rcases hS with hS|hS
   .exact hr.heap.sl b o hS
   .exact NF hown hS.1
 have hgood:tP A L g0 w0 g' w ((k,.grow e t.cells (List.length l))::s.H):=by
  refine⟨fun b o h0=>⟨.inl (hg.shut b o h0).1,(hg.shut b o h0).2⟩,⟨hg.fr.os,hg.fr.tape,hg.fr.output,hg.fr.size,hg.fr.blk,hg.fr.cell,fun b o hS=> ?_,hg.fr.shape⟩,fun i b bb o hb ho=> ?_,hg.J,hg.live,fun i u y us hi hb=> ?_,hg.cur⟩
  .rcases hS with hS|hS
   .exact hg.fr.new b o hS
   .exact .inr (hg.perm k _ b o hk (hown2 b hS.1 o))
  .obtain⟨c1,k1,k2⟩:=howns i b bb o hb ho;exact hg.perm i c1 bb o k1 k2
  .rcases hget i _ hb with⟨_,h1⟩ |⟨_,h1⟩
   .cases h1
   .exact hg.ty i u y us hi h1
 exact h ro hro A L g0 w0 g' a w B hB hrel hgood hn
def iter {σ ρ:Type}(f:σ->Option (σ⊕ρ)):Nat->σ->Option ρ
 |0,_=>none
 |n+1,x=>match f x with
  |none=>none
  |some (.inl y)=>iter f n y
  |some (.inr r)=>some r
theorem a8L {σ ρ:Type}{f:σ->Option (σ⊕ρ)}{r:ρ}: ∀{n:Nat}{x:σ},iter f n x=some r->iter f (n+1) x=some r
 |0,_,h=>by cases h
 |n+1,x,h=>by
  unfold iter at h|-;split
  .rename_i e;rw[e] at h;cases h
  .rename_i y e;rw[e] at h;exact a8L h
  .rename_i r' e;rw[e] at h;exact h
theorem Y3 {σ ρ:Type}{f:σ->Option (σ⊕ρ)}{r:ρ}{n:Nat}{x:σ}(h:iter f n x=some r): ∀m,iter f (n+m) x=some r
 |0=>h
 |m+1=>a8L (Y3 h m)
theorem a8M {σ ρ:Type}{f:σ->Option (σ⊕ρ)}{r r':ρ}{n m:Nat}{x:σ}(h:iter f n x=some r) (h':iter f m x=some r'):r=r':=by
 have h1:=Y3 h m;have h2:=Y3 h' n;rw[Nat.add_comm] at h2;exact aLS (h1.symm.trans h2)
noncomputable def O3 {σ ρ:Type}(f:σ->Option (σ⊕ρ)) (x:σ):Option ρ:=open Classical in if h: ∃n r,iter f n x=some r then some (Classical.choose (aNm h)) else none
def aGh {ρ:Type}:Option ρ->Option ρ->Option ρ
 |some r,_=>some r
 |none,r=>r
noncomputable def rX {σ ρ:Type}(f:σ->Option (σ⊕ρ)) (x:σ):Option ρ:=aGh (iter f 2000 x) (O3 f x)
theorem aGi {σ ρ:Type}{f:σ->Option (σ⊕ρ)}{x:σ}{r:ρ}{n:Nat}(h:iter f n x=some r):O3 f x=some r:=by
 have hx: ∃n r,iter f n x=some r:=⟨n,r,h⟩;unfold O3;rw[aNP hx,a8M h (aNm (aNm hx))]
theorem Y4 {σ ρ:Type}{f:σ->Option (σ⊕ρ)}{x:σ}{r:ρ}{n:Nat}(h:iter f n x=some r):rX f x=some r:=by
 unfold rX;cases hi:iter f 2000 x with
 |some r'=>rw[a8M h hi];rfl
 |none=>exact aGi h
theorem SY {σ ρ:Type}{f:σ->Option (σ⊕ρ)}{x:σ}{r:ρ}(h:rX f x=some r): ∃n,iter f n x=some r:=by
 unfold rX at h;cases hi:iter f 2000 x with
 |some r'=>
  rw[hi] at h;cases h;exact⟨_,hi⟩
 |none=>
  rw[hi] at h;have h:O3 f x=some r:=h;unfold O3 at h;split at h
  .rename_i hx;have:=aNm (aNm hx);rw[aLS h] at this;exact⟨_,this⟩
  .cases h
attribute [irreducible] rX
theorem vN {σ ρ:Type}{f:σ->Option (σ⊕ρ)}{x y:σ}(h:f x=some (.inl y)):rX f x=rX f y:=by
 cases hy:rX f y with
 |some r=>
  obtain⟨n,hn⟩:=SY hy;exact Y4 (n:=n+1) (by unfold iter;rw[h];exact hn)
 |none=>
  cases hx:rX f x with
  |none=>rfl
  |some r=>
   obtain⟨n,hn⟩:=SY hx;cases n with
   |zero=>cases hn
   |succ n=>
    unfold iter at hn;rw[h] at hn;rw[Y4 hn] at hy;cases hy
theorem vF {σ ρ:Type}{f:σ->Option (σ⊕ρ)}{x:σ}{r:ρ}(h:f x=some (.inr r)):rX f x=some r:=Y4 (n:=1) (by unfold iter;rw[h])
def Nxt {σ ρ:Type}(f:σ->Option (σ⊕ρ)) (y:ρ) (n:Nat):σ⊕ρ->Prop
 | .inl x=>iter f n x=some y
 | .inr r=>r=y
def qL {σ ρ:Type}(enc:σ->St) (f:σ->Option (σ⊕ρ)) (y:ρ) (n:Nat) (Q:Ex->St->Prop):Ex->St->Prop
 | .normal,s=> ∃(k:vS) (x:σ),s.keep k=enc x/\iter f n x=some y
 | .exit j,s=>Q (.exit j) s
 | .ret,s=>Q .ret s
theorem aGk {P:Program}{c:Code}{s:St}{Q:Ex->St->Prop}(I:Nat->St->Prop) (h0: ∃(k:vS) (n:Nat),I n (s.keep k))
  (h: ∀n s,I n s->Ev R P c s (fun e s'=>match e with| .normal=> ∃(k:vS) (m:Nat),m<n/\I m (s'.keep k) |e=>Q e s')):Ev R P (.loop c) s Q:=by
 intro ro hro A L g0 w0 g a w B hB hr hg hn;obtain⟨k,n0,h0⟩:=h0;obtain⟨g1,k1,k2,k3,_⟩:=F6 hr hg hn k
 let R:Act->pR->Nat->Prop:=fun a w n=> ∃g s,I n s/\vE B g w s a/\tP A L g0 w0 g w s.H/\s.np=L.length
 refine wpIn_loop (fun a w=> ∃n,R a w n) (fun a w=>NY (R a w)) ⟨_,g1,s.keep k,h0,k1,k2,k3⟩ (fun a w hI=> ?_);obtain⟨⟨g2,s2,i1,i3,i4,i5⟩,_⟩:=SU hI;refine aNv (h _ s2 i1 ro hro A L g0 w0 g2 a w B hB i3 i4 i5) fun e a' w' hp=> ?_;obtain⟨e',g',s',h1,h2,h3,h4,h5⟩:=hp;cases e<;>simp only[E4,aLO] at h1
 case normal=>
  subst h1;obtain⟨k',m,j1,j2⟩:=h2;obtain⟨g3,l1,l2,l3,_⟩:=F6 h3 h4 h5 k';have hR:R a' w' m:=⟨g3,s'.keep k',j2,l1,l2,l3⟩;exact⟨⟨_,hR⟩,Nat.lt_of_le_of_lt ((SU ⟨_,hR⟩).2 _ hR) j1⟩
 case exit id=>subst h1;exact⟨.exit id,g',s',rfl,h2,h3,h4,h5⟩
 case ret=>subst h1;exact⟨.ret,g',s',rfl,h2,h3,h4,h5⟩
 all_goals cases h1
theorem uS {P:Program}{c:Code}{s:St}{Q:Ex->St->Prop}{σ ρ:Type}{f:σ->Option (σ⊕ρ)}{x0:σ}{y:ρ}(hy:rX f x0=some y) (enc:σ->St) (k:vS) (h0:s.keep k=enc x0)
  (round: ∀x w n,f x=some w->Nxt f y n w->Ev R P c (enc x) (qL enc f y n Q)):Ev R P (.loop c) s Q:=by
 obtain⟨n,hn⟩:=SY hy;refine aGk (fun n s=> ∃x,s=enc x/\iter f n x=some y) ⟨k,n,x0,h0,hn⟩ fun n s ⟨x,e,hx⟩=> ?_;subst e;cases n with
 |zero=>cases hx
 |succ n=>
  unfold iter at hx;refine aGf (Q':=qL enc f y n Q) ?_ (fun e s' hq=> ?_)
  .split at hx
   .cases hx
   .rename_i x' e;exact round x _ n e hx
   .rename_i r e;exact round x _ n e (aLS hx)
  .cases e with
   |normal=>obtain⟨k,x',h1,h2⟩:=hq;exact⟨k,n,pG,x',h1,h2⟩
   |exit j=>exact hq
   |ret=>exact hq
def qX (j:Nat) (X:St->Prop) (Q:Ex->St->Prop):Ex->St->Prop
 | .normal,s=>Q .normal s
 | .exit i,s=>if i=j then∃k:vS,X (s.keep k) else Q (.exit i) s
 | .ret,s=>Q .ret s
theorem v6 {P:Program}{c:Code}{s:St}{Q:Ex->St->Prop}(j:Nat) (X:St->Prop) (h:Ev R P c s (qX j X Q)) (J: ∀s',X s'->Q (.exit j) s'):Ev R P c s Q:=by
 intro ro hro A L g0 w0 g a w B hB hr hg hn;refine aNv (h ro hro A L g0 w0 g a w B hB hr hg hn) fun x a' w' hp=> ?_;obtain⟨e,g',s',h1,h2,h3,h4,h5⟩:=hp;cases e with
 |normal=>exact⟨.normal,g',s',h1,h2,h3,h4,h5⟩
 |ret=>exact⟨.ret,g',s',h1,h2,h3,h4,h5⟩
 |exit i=>
  have h2:(if i=j then∃k:vS,X (s'.keep k) else Q (.exit i) s'):=h2;by_cases hij:i=j
  .rw[aLQ hij] at h2;obtain⟨k,hk⟩:=h2;obtain⟨g1,k1,k2,k3,_⟩:=F6 h3 h4 h5 k;exact⟨.exit i,g1,s'.keep k,h1,by rw[hij];exact J _ hk,k1,k2,k3⟩
  .rw[aLU hij] at h2;exact⟨.exit i,g',s',h1,h2,h3,h4,h5⟩
section
variable {Q:Ex->St->Prop}{s:St}{j i:Nat}{X:St->Prop}{σ ρ:Type}{enc:σ->St}{f:σ->Option (σ⊕ρ)}{y:ρ}{n:Nat}
theorem wH (h:Q .ret s):qX j X Q .ret s:=h
theorem uP (h: ∃k:vS,X (s.keep k)):qX j X Q (.exit j) s:=by show (if j=j then _ else _);rw[aLQ rfl];exact h
theorem tQ (h: ∃(k:vS) (x:σ),s.keep k=enc x/\iter f n x=some y):qL enc f y n Q .normal s:=h
theorem uQ (h:Q (.exit j) s):qL enc f y n Q (.exit j) s:=h
theorem wA (h:Q .ret s):qL enc f y n Q .ret s:=h
end
def qN (X:St->Prop) (Q:Ex->St->Prop):Ex->St->Prop
 | .normal,s=> ∃k:vS,X (s.keep k)
 | .exit j,s=>Q (.exit j) s
 | .ret,s=>Q .ret s
theorem AO {P:Program}{c:Code}{s:St}{Q:Ex->St->Prop}(X:St->Prop) (h:Ev R P c s (qN X Q)) (J: ∀s',X s'->Q .normal s'):Ev R P c s Q:=by
 intro ro hro A L g0 w0 g a w B hB hr hg hn;refine aNv (h ro hro A L g0 w0 g a w B hB hr hg hn) fun x a' w' hp=> ?_;obtain⟨e,g',s',h1,h2,h3,h4,h5⟩:=hp;cases e with
 |exit j=>exact⟨.exit j,g',s',h1,h2,h3,h4,h5⟩
 |ret=>exact⟨.ret,g',s',h1,h2,h3,h4,h5⟩
 |normal=>
  obtain⟨k,hk⟩:=h2;obtain⟨g1,k1,k2,k3,_⟩:=F6 h3 h4 h5 k;exact⟨.normal,g1,s'.keep k,h1,J _ hk,k1,k2,k3⟩
section
variable {Q:Ex->St->Prop}{s:St}{j:Nat}{X:St->Prop}
theorem v7 (h: ∃k:vS,X (s.keep k)):qN X Q .normal s:=h
end
def val {ρ:Type}[Inhabited ρ] (x:Option ρ):ρ:=x.getD default
theorem sC {ρ:Type}[Inhabited ρ] {x:Option ρ}{y:ρ}(h:x=some y):val x=y:=by rw[h];rfl
theorem qR {ρ:Type}{x:Option ρ}{y:ρ}(h:x=some y):x.isSome=true:=by rw[h];rfl
theorem qJ {ρ:Type}{c:Prop}[Decidable c] {x:Option ρ}{r:ρ}(h:(if c then x else none)=some r):c/\x=some r:=by
 by_cases hc:c
 .rw[aLQ hc] at h;exact⟨hc,h⟩
 .rw[aLU hc] at h;cases h
theorem qK {σ ρ:Type}{x:Option σ}{k:σ->Option ρ}{r:ρ}(h:x.bind k=some r): ∃y,x=some y/\k y=some r:=by
 cases x with
 |none=>cases h
 |some y=>exact⟨y,rfl,h⟩
theorem aGl {ρ:Type}{b:Bool}{x y:ρ}{r:ρ}(h:(if b=true then x else y)=r) (hb:b=true):x=r:=by rw[aLQ hb] at h;exact h
theorem aGm {ρ:Type}{b:Bool}{x y:ρ}{r:ρ}(h:(if b=true then x else y)=r) (hb:b=false):y=r:=by rw[hb,aLU pH] at h;exact h
def uT {σ ρ:Type}(x:Option (σ⊕ρ)) (k:σ->Option ρ):Option ρ:=x.bind fun y=>match y with
 | .inl v=>k v
 | .inr r=>some r
theorem wB {σ ρ:Type}{x:Option (σ⊕ρ)}{k:σ->Option ρ}{r:ρ}(h:uT x k=some r): ∃y,x=some y/\(match y with| .inl v=>k v| .inr r=>some r)=some r:=qK h
def t8 {σ ρ:Type}(x:Option σ) (k:σ->Option ρ):Option ρ:=x.bind k
def Y5 {σ ρ:Type}(x:σ) (k:σ->ρ):ρ:=k x
theorem aGn {σ ρ:Type}{x:σ}{k:σ->ρ}{r:ρ}(h:Y5 x k=r): ∃y,x=y/\k y=r:=⟨x,rfl,h⟩
theorem sZ {x:Bool}(h:x=true):(x==true)=true:=by rw[h];rfl
theorem a8N {G x:Bool}(hG:G=true) (h:x=true):(G&&(x==true))=true:=by rw[hG,h];rfl
theorem GU {G x:Bool}(hG:G=true) (h:x=false):(G&&(x==false))=true:=by rw[hG,h];rfl
theorem tK {x:Bool}(h:x=false):(x==false)=true:=by rw[h];rfl
section
variable {P:Program}{T:sM}{Γ:tX}(E:rN P T Γ) {s:St}{Q:Ex->St->Prop}
include E
theorem a8O {id:Nat}{ops:Array Oper}{a:vG}(h:uI T Γ ops.toList ops.toList (some ⟨s,[],[]⟩)=some a) (hp:rF a.side) (hq:Q .normal a.s):Ev R P (.region id ops false) s Q:=
 a8E E.T E.Γ E.m (aEe h hp hq)
theorem a8P {id:Nat}{ops:Array Oper}{a:vG}(h:uI T Γ ops.toList ops.toList (some ⟨s,[],[]⟩)=some a) (hf:IG ops s.nb a.es.reverse=true) (hp:rF a.side) (hq:Q .normal a.s):Ev R P (.region id ops true) s Q:=
 a8E E.T E.Γ E.m (aEf h hf hp hq)
end
end Go.Proofs.YtkpflnijijccpaaGreatDoor.Vc
namespace Go.Proofs.YtkpflnijijccpaaGreatDoor.Vc
open Go.RowKit
variable {R:Bool}
attribute [go_sem] Option.map_some Option.map_none
@[go_sem] theorem aKo {H:List (Nat×q9)}{ps:List PK}{b:List qC}{a:Option t7}:xA H ps ([]++b) a=xA H ps b a:=rfl
@[go_sem] theorem aKp {H:List (Nat×q9)}{ps:List PK}{x:qC}{l b:List qC}{a:Option t7}:xA H ps ((x::l)++b) a=xA H ps (x::(l++b)) a:=rfl
@[go_sem] def a8Q:Option qC->Option (List qC)->Option (List qC)
 |some s,some l=>some (s::l)
 |_,_=>none
@[go_sem] def a8R:Option qH->Option qC
 |some e=>some e.slot
 |none=>none
@[go_sem] def SZ (H:List (Nat×q9)):Option TI->qC->Option qH
 |some ti,(.val .ref (some (i,off)),_)=>MZ ti.ty i off (qD H i)
 |_,_=>none
@[go_sem] def O4 (T:sM) (s:St) (m:pL):Nat×Option TypeId->Option qC
 |(t,none)=>some (zG m (lk s.env t))
 |(t,some ty)=>(a8R (SZ s.H (rK T ty) (lk s.env t))).map (zG m)
@[go_sem] def GV (T:sM) (s:St) (m:pL):List (Nat×Option TypeId)->Option (List qC)
 |[]=>some []
 |q::r=>a8Q (O4 T s m q) (GV T s m r)
def CA:Nat×Option TypeId->ResultVar
 |(t,none)=> .tmp t
 |(t,some ty)=> .cell t ty
@[go_sem] def D3:Nat->Nat->List (Nat×q9)->List (Nat×q9)
 |0,_,H=>H
 |n+1,i,[]=>(i,.dead)::D3 n (i+1) []
 |n+1,i,(j,b)::H=>if j=i then(j,b)::D3 n (i+1) H else(i,.dead)::D3 n (i+1) ((j,b)::H)
theorem IS: ∀{n i:Nat}{H:List (Nat×q9)}{k:Nat}{b:q9},qD (D3 n i H) k=some b->qD H k=some b\/b= .dead
 |0,_,_,_,_,h=> .inl h
 |n+1,i,[],k,b,h=>by
  simp only[D3,qD] at h;split at h
  .exact .inr (aLS h).symm
  .exact IS h
 |n+1,i,(j,c)::H,k,b,h=>by
  unfold D3 at h;split at h
  .simp only[qD] at h|-;split at h
   .rename_i e;rw[aLQ e];exact .inl h
   .rename_i e;rw[aLU e];exact IS h
  .simp only[qD] at h;split at h
   .exact .inr (aLS h).symm
   .exact IS h
theorem sG.pad {g:Gh}{w:pR}{H:s0}(h:sG g w H) (n i:Nat):sG g w (D3 n i H):=by
 have own: ∀{k blk b o},qD (D3 n i H) k=some blk->sA g k blk b o->qD H k=some blk:=fun hg ho=>by
  rcases IS hg with h1|h1
  .exact h1
  .subst h1;exact ho.elim
 refine⟨fun k b hb=> ?_,fun i j bi bj b o hij h1 h2 o1 o2=>h.dis i j bi bj b o hij (own h1 o1) (own h2 o2) o1 o2,h.sl,h.tab.1,fun k blk b o h1 h2=>h.tab.2 k blk b o (own h1 h2) h2⟩;rcases IS hb with h1|h1
 .exact h.blk k b h1
 .subst h1;trivial
theorem tP.pad {A:Nat->Nat->Prop}{L:List q9}{g0 g:Gh}{w0 w:pR}{H:s0}(h:tP A L g0 w0 g w H) (n i:Nat):tP A L g0 w0 g w (D3 n i H):=by
 refine⟨h.shut,h.fr,fun k blk b o hg ho=> ?_,h.J,h.live,fun k u y us hk hg=> ?_,h.cur⟩
 .rcases IS hg with h1|h1
  .exact h.perm k blk b o h1 ho
  .subst h1;exact ho.elim
 .rcases IS hg with h1|h1
  .exact h.ty k u y us hk h1
  .cases h1
def a8S (T:sM) (ts:List (Nat×Option TypeId)) (r:qI):Ex->St->Prop
 | .exit _,_=>False
 |_,s=> ∃m:pL,wM s.np m=true/\D3 (r5 r.H) 0 (s.keep ⟨[],m⟩).H=qM 0 r.H/\GV T s m ts=some r.ret
section
variable {P:Program}{o:Oper}{a:Act}{g:Gh}{w:pR}{H:s0}{T:sM}(hT:wV P T) (hH:sG g w H)
include hT hH
theorem aGo {t:TypeId}{vx:pS}{sx:qC}(hx:rJ g w sx vx) {e:qH}(hr:SZ H (rK T t) sx=some e): ∃ad v,vx= .pointer (some ad)/\(loadVar t ad).run P w= .ok v w/\rJ g w e.slot v:=by
 generalize hs:rK T t=ot at hr;replace hx:=hx.1;unfold SZ at hr;split at hr
 .rename_i ti i off k;have hty:=tD hT hs;generalize hb:qD H i=ob at hr;unfold MZ at hr;split at hr
  .rename_i u z toks;generalize hga:rC ti.ty u z off=oy at hr;cases oy with
   |none=>cases hr
   |some y=>
    cases hr;obtain⟨p,hp,hv⟩:=yX hx;obtain⟨p',cs,hp',hR,hra,_,_,htk⟩:=hH.blk i _ hb;rw[hp] at hp';obtain rfl:=aLS hp';obtain⟨c1,c2,c3,rfl,rfl,hR2⟩:=CW hR hga;obtain⟨v,h1,h2,h3⟩:=NK hT hH hty (KP hT hH hra) hR2;refine⟨_,v,hv,by simpa[Instr.loadAt,Instr.sureAddr] using h1,h2,?_⟩;obtain⟨ty,el,by',ar,ls⟩:=ti;cases ty with
    |list u'=>
     simp only[DQ];generalize htt:wS toks c1.length=ok;cases ok with
     |none=>trivial
     |some k=>
      obtain⟨u2,l,v',g1,g2,g3⟩:=htk _ _ (WN hT hH htt);obtain⟨heq,hl⟩:=a6R hT hH g1 hga rfl;injection heq with heq'
      subst heq';have hlen:=sV hR2;obtain⟨v2,rfl⟩:=aM9.1 hlen;have e2:v'=v2:=by
       have e:(c1++[v2]++c3)[c1.length]? =some v2:=by simp
       rw[e] at g2;exact(aLS g2).symm
      have e3:v=v2:=by
       have h4:=A4 rfl h2;have hone:=A3 h4 v pI;have:v.cells= #[v]:=by cases v<;>first|rfl|(simp [Value.oneCell'] at hone)
       rw[this] at h3;simpa using h3
      subst e2;subst e3;have e4:(y:List u'.den)=l:=hl;subst e4;exact g3
    |_=>trivial
  .cases hr
 .cases hr
end
def IT (tmps:Array pS) (q:Nat×Option TypeId):Sem pS:=match CA q with
 | .tmp t=>pure (tmps.getD t undef)
 | .cell a t=>do loadVar t (<-asAddr (tmps.getD a undef))
theorem a8T {P:Program}{T:sM}(hT:wV P T) {B:Nat}{g:Gh}{w:pR}{s:St}{a:Act}{m:pL}(hk:wM s.np m=true) (hr:vE B g w s a): ∀{ts:List (Nat×Option TypeId)}{l:List qC},GV T s m ts=some l->
  ∃vs:pN,(ts.mapM (IT a.tmps)).run P w= .ok vs w/\uX (uJ g s.np m) w l vs
 |[],l,h=>by
  simp only[GV,aLO] at h;subst h;exact⟨[],by simp,rfl⟩
 |q::ts,l,h=>by
  simp only[GV] at h;obtain⟨s1,l1,e1,e2,rfl⟩: ∃s1 l1,O4 T s m q=some s1/\GV T s m ts=some l1/\l=s1::l1:=by
   cases h1:O4 T s m q<;>cases h2:GV T s m ts<;>rw[h1,h2] at h<;>simp [a8Q] at h
   exact⟨_,_,rfl,rfl,h.symm⟩
  obtain⟨vs,v1,v2⟩:=a8T hT hk hr e2;obtain⟨v,w1,w2⟩: ∃v,(IT a.tmps q).run P w= .ok v w/\rJ (uJ g s.np m) w s1 v:=by
   obtain⟨t,oty⟩:=q;cases oty with
   |none=>
    simp only[O4,aLO] at e1;subst e1;exact⟨_,by simp [IT,CA],SO hk (hr.env t)⟩
   |some ty=>
    simp only[O4] at e1;cases he:SZ s.H (rK T ty) (lk s.env t) with
    |none=>rw[he] at e1;cases e1
    |some e=>
     rw[he] at e1;simp only[a8R,Option.map_some,aLO] at e1;subst e1;obtain⟨ad,v,hv,hl,hs⟩:=aGo hT hr.heap (hr.env t) he;exact⟨v,by simp only[IT,CA,hv,asAddr,aL2,aMf,aLX,hl],SO hk hs⟩
  exact⟨v::vs,by simp only[List.mapM_cons,aL2,w1,aLX,v1,aMf],v,vs,rfl,w2,v2⟩
def L3 (tmps:Array pS):ResultVar->Sem pS
 | .tmp t=>pure (tmps.getD t undef)
 | .cell a t=>do loadVar t (<-asAddr (tmps.getD a undef))
theorem aGp {P:Program}{fn:Func}{w:pR}{tmps:Array pS}{ts:List (Nat×Option TypeId)}(h:fn.results.toList=ts.map CA) {vs:pN}(hv:(ts.mapM (IT tmps)).run P w= .ok vs w):(results fn tmps).run P w= .ok (XZ vs) w:=by
 obtain⟨rs,hrs⟩: ∃rs,fn.results=⟨rs⟩:=⟨fn.results.toList,rfl⟩;have hm:rs=ts.map CA:=by rw[hrs] at h;exact h
 have key:Sem.run P (((ts.map CA).toArray).mapM (L3 tmps)) w=Result.ok vs.toArray w:=by
  rw[List.mapM_toArray,List.mapM_map];have e:L3 tmps∘CA=IT tmps:=by
   funext q;obtain⟨t,o⟩:=q;cases o<;>rfl
  have e2:(fun q=>L3 tmps (CA q))=IT tmps:=e;show Sem.run P (List.mapM (fun q=>L3 tmps (CA q)) ts>>=fun l=>pure l.toArray) w=_;rw[e2,aL2,hv];rfl
 have hu:results fn tmps=(fn.results.mapM (L3 tmps) >>=fun vs=>pure (if h:vs.size=1 then vs[0] else .tuple vs)):=by
  unfold results;congr 2
 rw[hu,hrs,hm,aL2];have key2:Sem.run P (Array.mapM (L3 tmps) (⟨ts.map CA⟩:Array ResultVar)) w=Result.ok vs.toArray w:=key;rw[key2];simp only[aLX,aMf]
 match vs with
 |[]=>rfl
 |[v]=>rfl
 |v::u::l=>simp [XZ]
theorem aGq {P:Program}{T:sM}(hT:wV P T) {f:FuncId}{fn:Func}{c:Code}{C:List qC->List q9->Option qI}{ts:List (Nat×Option TypeId)}(hf:P.funcs[f]? =some fn) (hb:fn.body=some c) {N:Nat}(hN:fn.ntmps=N)
  (hcall: ∀args w,(callFunc f args).run P w= .ok (.enter f args) w) (hres:fn.results.toList=ts.map CA)
  (h: ∀args L r,C args L=some r->(∀p∈r.side,p)->rT L->args.length<=N/\NZ (vM 0 L) args/\O0 (vM 0 L) L/\Ev false P c ⟨rQ 0 args,qM 0 L,r5 L,N,r5 L⟩ (a8S T ts r)):xR P f C:=by
 subst hN;refine⟨hcall,fun g w args vals L r hH ha hC hs=> ?_⟩;obtain⟨h1,h2,h3,h4⟩:=h args L r hC hs (a8y fun i b hb=>⟨i,hH.blk i b (by rw[wW];exact hb)⟩);obtain⟨hr,hent⟩:=aGd hH ha h2 h3 h1;have hsub: ∀b o,xQ (uJ g 0 (vM 0 L)) (qM 0 L) b o->xQ g (qM 0 L) b o:=fun b o ⟨i,blk,hg,ho⟩=>⟨i,blk,hg,(hent i blk (by rw[<-wW];exact hg)).2.2 b o ho⟩;have hgood:tP (xQ (uJ g 0 (vM 0 L)) (qM 0 L)) L (uJ g 0 (vM 0 L)) w (uJ g 0 (vM 0 L)) w (qM 0 L):=by
  refine⟨fun b o h=>⟨h,rfl⟩,Fr.refl _ _ _,fun i blk b o hg ho=> .inr ⟨i,blk,hg,ho⟩,fun _ _ _ h=>h,fun i hi=> ?_,fun i u y us _ hg=>⟨y,us,by rw[<-wW];exact hg⟩,fun _ _ _ _ h=>h⟩;have hL:L[i]? =some L[i]:=by simp
  obtain⟨_,hbk,_⟩:=hent i L[i] hL;have hnd:=(IR h3 L[i] (aM4 hi)).2;generalize L[i]=blk at hbk hnd;cases blk with
  |cells t x ts=>obtain⟨p,cs,hp,_⟩:=hbk;exact .inl ⟨p,hp⟩
  |grow e c n=>obtain⟨v,xs,hv,_⟩:=hbk;exact .inr ⟨n,v,hv⟩
  |row e t l n=>obtain⟨_,v,xs,hv,_⟩:=hbk;exact .inr ⟨n,v,hv⟩
  |map k v l=>obtain⟨p,es,cl,hp,_⟩:=hbk;exact .inl ⟨p,hp⟩
  |iter s n=>obtain⟨p,hp,_⟩:=hbk;exact .inl ⟨p,hp⟩
  |dead=>exact absurd rfl hnd
 refine callsIn_wide.1 (callsIn_of_wp_marks (F:=Fence.wide) (n:=0) hf hb trivial (aNv (h4 none rfl _ _ _ _ _ _ _ _ (aMc _) hr hgood (SX L)) fun x a' w' hp=> ?_) rfl);obtain⟨e,g',s',e1,e2,e3,e4,e5⟩:=hp;have fin: ∀m:pL,wM s'.np m=true->D3 (r5 r.H) 0 (s'.keep ⟨[],m⟩).H=qM 0 r.H->GV T s' m ts=some r.ret->LeavesInM Fence.wide 0 P fn a'.tmps (fun e w'=> ∃v' g',e= .returned v'/\D1 g w L r g' w' v') a'.defers .returning w':=by
  intro m hk k1 k2;refine a8D a'.defers w' e3 e4 (fun w1 e3 e4=> ?_);obtain⟨l1,l2,l3,_⟩:=XJ e3 e4 e5 ⟨[],m⟩ hk;replace l2:=l2.pad (r5 r.H) 0;rw[k1] at l2;obtain⟨vs,q1,q2⟩:=a8T hT hk e3 k2;have q3:=aGp (P:=P) (w:=w1) (tmps:=a'.tmps) hres q1;refine⟨_,q3,_,_,rfl,⟨fun b o hb=>l2.shut b o hb,by rw[<-k1];exact l1.heap.pad _ _,?_,?_,fun i blk b o hi ho=> ?_,fun i t x us hi=> ?_,fun i t x us u y vs hi hr=> ?_,fun i p hi hp=>l2.J i p hi ((A6 SV (L2.2 ⟨rfl,aMR _,pG⟩)).1.trans hp),fun i n u hi hu=>l2.cur i n u hi ((congrFun (A6 SV (L2.2 ⟨rfl,aMR _,pG⟩)).2 n).trans hu)⟩⟩
  .unfold NP;split
   .rename_i s hs;rw[hs] at q2;obtain⟨v,vs',hv,h5,h6⟩:=q2;rw[hv,show vs'=[] from h6];exact h5
   .rename_i hne;refine⟨_,?_,q2⟩;unfold XZ;split
    .rename_i v hv;exfalso;have:=(SW q2).1;cases hq:r.ret with
     |nil=>rw[hq] at this;simp at this
     |cons s l=>cases l with
      |nil=>exact hne s hq
      |cons _ _=>rw[hq] at this;simp at this
    .rfl
  .exact⟨l2.fr.os,l2.fr.tape,l2.fr.output,l2.fr.size,fun b hb hA=>l2.fr.blk b hb (fun o ho=>hA o (hsub b o ho)),fun b o hb hA=>l2.fr.cell b o hb (fun ho=>hA (hsub b o ho)),fun b o hS=>(l2.fr.new b o hS).imp id (Or.imp id (hsub b o)),fun b s hs=>(l2.fr.shape b s hs).imp id fun h o=>hsub b o (h o)⟩
  .exact(l2.perm i blk b o (by rw[wW];exact hi) ho).imp id (hsub b o)
  .obtain⟨j1,⟨p,cs,j2,_⟩,_⟩:=hent i _ hi;have hil:i<L.length:=(aL1.1 hi).1;rw[l2.J i p hil j2,<-j1,j2]
  .have hil:i<L.length:=(aL1.1 hi).1;obtain⟨x',ts',h5⟩:=l2.ty i u y vs hil (by rw[wW];exact hr);rw[hi] at h5;simp only[aLO,q9.cells.injEq] at h5;exact h5.1.symm
 cases x<;>simp only[E4,aLO] at e1
 case normal=>subst e1;obtain⟨k,k0,k1,k2⟩:=e2;exact fin k k0 k1 k2
 case ret=>subst e1;obtain⟨k,k0,k1,k2⟩:=e2;exact fin k k0 k1 k2
 case exit id=>subst e1;exact e2.elim
 all_goals cases e1
open Classical in
noncomputable def rU {V:Type}(p:V->List qC) (q:V->List q9) (R:V->qI) (a:List qC) (L:List q9):Option qI:=
 if h: ∃v,p v=a/\q v=L then some (R h.choose) else none
theorem aGr {V:Type}{p:V->List qC}{q:V->List q9}{R:V->qI}{a:List qC}{L:List q9}{r:qI}(h:rU p q R a L=some r): ∃v,p v=a/\q v=L/\R v=r:=by
 unfold rU at h;split at h
 .rename_i e;exact⟨e.choose,e.choose_spec.1,e.choose_spec.2,aLS h⟩
 .cases h
theorem rY {V:Type}{p:V->List qC}{q:V->List q9}{R:V->qI}(inj: ∀v v',p v=p v'->q v=q v'->v=v') (v:V):rU p q R (p v) (q v)=some (R v):=by
 have h: ∃u,p u=p v/\q u=q v:=⟨v,rfl,rfl⟩;unfold rU;rw[aNP h,inj _ v h.choose_spec.1 h.choose_spec.2]
theorem a8U: ∀{l:List Prop},(∀p∈l,p)->rF l
 |[],_=>trivial
 |[p],h=>h p pI
 |p::q::r,h=>⟨h p pI,a8U (l:=q::r) fun x hx=>h x (aL5 _ hx)⟩
def r9 (P:Program) (x:Nat×r6):Prop:=xR P x.1 x.2.C/\∀F,x.2.row=some F->S8 P x.1 F
theorem rZ {P:Program}{T:sM}{Γ:tX}(hE:rN P T Γ) {f:FuncId}{fn:Func}{c:Code}{V:Type}{p:V->List qC}{q:V->List q9}{R:V->qI}{ps:List PK}{gs:List (Nat×Nat×PK)}{same:pQ}{ts:List (Nat×Option TypeId)}(hf:P.funcs[f]? =some fn) (hb:fn.body=some c) {N:Nat}(hN:fn.ntmps=N)
  (hres:fn.results.toList=ts.map CA) (hcall: ∀args w,(callFunc f args).run P w= .ok (.enter f args) w)
  (h: ∀v,rF (R v).side->rT (q v)->Ev false P c ⟨rQ 0 (p v),qM 0 (q v),r5 (q v),N,r5 (q v)⟩ (a8S T ts (R v)))
  (h1: ∀v,Nat.ble (p v).length N=true:=by intro _;rfl)
  (h2: ∀v,NZ (vM 0 (q v)) (p v):=by intro _;repeat (first|exact trivial|refine ⟨rfl,?_⟩))
  (h3: ∀v,O0 (vM 0 (q v)) (q v):=by intro _;repeat (first|exact trivial|refine ⟨rfl,?_⟩)):r9 P (f,⟨ps,rU p q R,gs,same,none⟩):=
 ⟨aGq hE.T hf hb hN hcall hres fun args L r hC hs hr=>by
  obtain⟨v,rfl,rfl,rfl⟩:=aGr hC;exact⟨aMS (h1 v),h2 v,h3 v,h v (a8U hs) hr⟩,fun _ h=>by cases h⟩
abbrev qE (n:Int):Prop:= -9223372036854775808<=n/\n<=9223372036854775807
@[go_sem] def rO:List (Nat×r6)->tX
 |[],_=>none
 |(k,s)::r,f=>if k=f then some s else rO r f
theorem rR {P:Program}:D2 P (rO []):=fun _ _ _ h=>by cases h
theorem qO {P:Program}{x:Nat×r6}{r:List (Nat×r6)}(h:r9 P x) (hr:D2 P (rO r)):D2 P (rO (x::r)):=fun f s hlt hs=>by
 obtain⟨k,y⟩:=x;simp only[rO] at hs;split at hs
 .rename_i e;subst e;cases hs;exact h
 .exact hr f s hlt hs
section
variable {P:Program}{T:sM}{Γ:tX}(E:rN P T Γ) {s:St}{Q:Ex->St->Prop}
include E
theorem qB {id:Nat}{ops:Array Oper}{a:vG}{y:Code}(hq:Ev R P y a.s Q) (h:uI T Γ ops.toList ops.toList (some ⟨s,[],[]⟩)=some a:=by simp only[go_sem];rfl) (hp:rF a.side:=by exact trivial):Ev R P (.seq (.region id ops false) y) s Q:=
 qT (a8O E h hp hq)
theorem vZ {id:Nat}{ops:Array Oper}{a:vG}{y:Code}(hq:Ev R P y a.s Q) (h:uI T Γ ops.toList ops.toList (some ⟨s,[],[]⟩)=some a:=by simp only[go_sem];rfl) (hp:rF a.side:=by exact trivial) (hf:IG ops s.nb a.es.reverse=true:=by kernel_rfl):Ev R P (.seq (.region id ops true) y) s Q:=
 qT (a8P E h hf hp hq)
theorem rL {id:Nat}{ops:Array Oper}{a:vG}(hq:Q .normal a.s) (h:uI T Γ ops.toList ops.toList (some ⟨s,[],[]⟩)=some a:=by simp only[go_sem];rfl) (hp:rF a.side:=by exact trivial):Ev R P (.region id ops false) s Q:=
 a8O E h hp hq
theorem BO {id:Nat}{ops:Array Oper}{a:vG}(hq:Q .normal a.s) (h:uI T Γ ops.toList ops.toList (some ⟨s,[],[]⟩)=some a:=by simp only[go_sem];rfl) (hp:rF a.side:=by exact trivial) (hf:IG ops s.nb a.es.reverse=true:=by kernel_rfl):Ev R P (.region id ops true) s Q:=
 a8P E h hf hp hq
end
theorem qY {P:Program}{s:St}{Q:Ex->St->Prop}{c:Operand}{x y:Code}{b b':Bool}{k:pP}{ρ:Type}{X Y r:ρ}(hC:(if b'=true then X else Y)=r) (ht:X=r->b=true->Ev R P x s Q) (hf:Y=r->b=false->Ev R P y s Q)
  (h:u6 s.env c=(.val .bool b,k):=by simp only[go_sem];rfl) (hb:b=b':=by first|rfl|simp):Ev R P (.cond c x y) s Q:=
 aGg h (fun e=>ht (aGl hC (hb▸e)) e) (fun e=>hf (aGm hC (hb▸e)) e)
theorem qS {σ ρ:Type}[Inhabited σ] {x:Option σ}{k:σ->Option ρ}{r:ρ}(h:x.bind k=some r): ∃y,x=some y/\val x=y/\k y=some r:=by
 obtain⟨y,h1,h2⟩:=qK h;exact⟨y,h1,sC h1,h2⟩
attribute [go_sem] true_and and_true false_and and_false Nat.reduceMul List.nil_append List.cons_append List.append_nil List.toList_toArray Nat.reduceEqDiff reduceIte reduceDIte reduceCtorEq Nat.reduceAdd Nat.reduceSub Int.reduceToNat Nat.reduceLT Nat.reduceLeDiff decide_true decide_false Bool.and_self Bool.or_self Bool.or_false Bool.false_or Bool.and_true Bool.true_and Bool.not_true Bool.not_false
end Go.Proofs.YtkpflnijijccpaaGreatDoor.Vc
namespace Go.Proofs
open Go.RowKit Go.Lib
def Tryz.lays137_ren:Go.Shelf.Ren:=⟨fun|137=>108|217=>149|266=>185|n=>n,fun|9=>9|5=>5|3=>3|n=>n,fun|n=>n⟩
theorem Tryz.lays137:Go.Proofs.Lays.n137 Tryz.prog Tryz.lays137_ren:={
 mixed:=by kernel_rfl
 f137:=Tryz.func108.trans (aL9 some pU)
 f217:=Tryz.func149.trans (aL9 some pU)
 f266:=Tryz.func185.trans (aL9 some pU)
 t3:=Tryz.underlying3
 a3:=Tryz.isAgg3
 z3:=Tryz.sizeOf3
 v3:=Tryz.zeroValue3
 t5:=Tryz.underlying5
 a5:=Tryz.isAgg5
 z5:=Tryz.sizeOf5
 v5:=Tryz.zeroValue5
 t9:=Tryz.underlying9
 a9:=Tryz.isAgg9
 z9:=Tryz.sizeOf9
 v9:=Tryz.zeroValue9}
def Tryz.lays161_ren:Go.Shelf.Ren:=⟨fun|161=>127|231=>117|227=>119|233=>120|235=>122|228=>160|197=>161|151=>162|260=>194|152=>195|137=>108|119=>219|224=>187|225=>186|217=>149|266=>185|n=>n,fun|9=>9|4=>4|3=>3|5=>5|117=>162|116=>161|0=>0|124=>165|105=>191|21=>21|119=>182|46=>175|139=>230|138=>229|n=>n,fun|3=>3|4=>4|n=>n⟩
theorem Tryz.lays161:Go.Proofs.Lays.n161 Tryz.prog Tryz.lays161_ren:={
 mixed:=by kernel_rfl
 f119:=Tryz.func219.trans (aL9 some pU)
 f137:=Tryz.func108.trans (aL9 some pU)
 f151:=Tryz.func162.trans (aL9 some pU)
 f152:=Tryz.func195.trans (aL9 some pU)
 f161:=Tryz.func127.trans (aL9 some pU)
 f197:=Tryz.func161.trans (aL9 some pU)
 f217:=Tryz.func149.trans (aL9 some pU)
 f224:=Tryz.func187.trans (aL9 some pU)
 f225:=Tryz.func186.trans (aL9 some pU)
 f227:=Tryz.func119.trans (aL9 some pU)
 f228:=Tryz.func160.trans (aL9 some pU)
 f231:=Tryz.func117.trans (aL9 some pU)
 f233:=Tryz.func120.trans (aL9 some pU)
 f235:=Tryz.func122.trans (aL9 some pU)
 f260:=Tryz.func194.trans (aL9 some pU)
 f266:=Tryz.func185.trans (aL9 some pU)
 t0:=Tryz.underlying0
 a0:=Tryz.isAgg0
 z0:=Tryz.sizeOf0
 v0:=Tryz.zeroValue0
 t3:=Tryz.underlying3
 a3:=Tryz.isAgg3
 z3:=Tryz.sizeOf3
 v3:=Tryz.zeroValue3
 t4:=Tryz.underlying4
 a4:=Tryz.isAgg4
 z4:=Tryz.sizeOf4
 v4:=Tryz.zeroValue4
 t5:=Tryz.underlying5
 a5:=Tryz.isAgg5
 z5:=Tryz.sizeOf5
 v5:=Tryz.zeroValue5
 t9:=Tryz.underlying9
 a9:=Tryz.isAgg9
 z9:=Tryz.sizeOf9
 v9:=Tryz.zeroValue9
 t21:=Tryz.underlying21
 a21:=Tryz.isAgg21
 z21:=Tryz.sizeOf21
 v21:=Tryz.zeroValue21
 t46:=Tryz.underlying175
 a46:=Tryz.isAgg175
 z46:=Tryz.sizeOf175
 v46:=Tryz.zeroValue175
 t105:=Tryz.underlying191
 a105:=Tryz.isAgg191
 z105:=Tryz.sizeOf191
 v105:=Tryz.zeroValue191
 t116:=Tryz.underlying161
 a116:=Tryz.isAgg161
 z116:=Tryz.sizeOf161
 t117:=Tryz.underlying162
 a117:=Tryz.isAgg162
 z117:=Tryz.sizeOf162
 v117:=Tryz.zeroValue162
 t119:=Tryz.underlying182
 a119:=Tryz.isAgg182
 z119:=Tryz.sizeOf182
 t124:=Tryz.underlying165
 a124:=Tryz.isAgg165
 z124:=Tryz.sizeOf165
 v124:=Tryz.zeroValue165
 t138:=Tryz.underlying229
 a138:=Tryz.isAgg229
 z138:=Tryz.sizeOf229
 v138:=Tryz.zeroValue229
 t139:=Tryz.underlying230
 a139:=Tryz.isAgg230
 z139:=Tryz.sizeOf230
 v139:=Tryz.zeroValue230
 g3:=by kernel_rfl
 g4:=by kernel_rfl}
def Tryz.lays190_ren:Go.Shelf.Ren:=⟨fun|190=>88|125=>135|258=>134|128=>177|129=>178|302=>168|303=>169|304=>170|305=>171|306=>172|307=>173|308=>174|309=>175|310=>176|333=>201|329=>202|330=>203|334=>204|335=>205|336=>206|344=>222|n=>n,fun|31=>24|9=>9|3=>3|46=>175|0=>0|51=>205|53=>207|4=>4|183=>199|182=>198|131=>55|5=>5|218=>221|222=>225|228=>250|229=>180|n=>n,fun|n=>n⟩
theorem Tryz.lays190:Go.Proofs.Lays.n190 Tryz.prog Tryz.lays190_ren:={
 mixed:=by kernel_rfl
 f125:=Tryz.func135.trans (aL9 some pU)
 f128:=Tryz.func177.trans (aL9 some pU)
 f129:=Tryz.func178.trans (aL9 some pU)
 f190:=Tryz.func88.trans (aL9 some pU)
 f258:=Tryz.func134.trans (aL9 some pU)
 f302:=Tryz.func168.trans (aL9 some pU)
 f303:=Tryz.func169.trans (aL9 some pU)
 f304:=Tryz.func170.trans (aL9 some pU)
 f305:=Tryz.func171.trans (aL9 some pU)
 f306:=Tryz.func172.trans (aL9 some pU)
 f307:=Tryz.func173.trans (aL9 some pU)
 f308:=Tryz.func174.trans (aL9 some pU)
 f309:=Tryz.func175.trans (aL9 some pU)
 f310:=Tryz.func176.trans (aL9 some pU)
 f329:=Tryz.func202.trans (aL9 some pU)
 f330:=Tryz.func203.trans (aL9 some pU)
 f333:=Tryz.func201.trans (aL9 some pU)
 f334:=Tryz.func204.trans (aL9 some pU)
 f335:=Tryz.func205.trans (aL9 some pU)
 f336:=Tryz.func206.trans (aL9 some pU)
 f344:=Tryz.func222.trans (aL9 some pU)
 t0:=Tryz.underlying0
 a0:=Tryz.isAgg0
 z0:=Tryz.sizeOf0
 v0:=Tryz.zeroValue0
 t3:=Tryz.underlying3
 a3:=Tryz.isAgg3
 z3:=Tryz.sizeOf3
 v3:=Tryz.zeroValue3
 t4:=Tryz.underlying4
 a4:=Tryz.isAgg4
 z4:=Tryz.sizeOf4
 v4:=Tryz.zeroValue4
 t5:=Tryz.underlying5
 a5:=Tryz.isAgg5
 z5:=Tryz.sizeOf5
 v5:=Tryz.zeroValue5
 t9:=Tryz.underlying9
 a9:=Tryz.isAgg9
 z9:=Tryz.sizeOf9
 v9:=Tryz.zeroValue9
 t31:=Tryz.underlying24
 a31:=Tryz.isAgg24
 z31:=Tryz.sizeOf24
 v31:=Tryz.zeroValue24
 t46:=Tryz.underlying175
 a46:=Tryz.isAgg175
 z46:=Tryz.sizeOf175
 v46:=Tryz.zeroValue175
 t51:=Tryz.underlying205
 a51:=Tryz.isAgg205
 z51:=Tryz.sizeOf205
 v51:=Tryz.zeroValue205
 t53:=Tryz.underlying207
 a53:=Tryz.isAgg207
 z53:=Tryz.sizeOf207
 v53:=Tryz.zeroValue207
 t131:=Tryz.underlying55
 a131:=Tryz.isAgg55
 z131:=Tryz.sizeOf55
 v131:=Tryz.zeroValue55
 t182:=Tryz.underlying198
 a182:=Tryz.isAgg198
 z182:=Tryz.sizeOf198
 v182:=Tryz.zeroValue198
 t183:=Tryz.underlying199
 a183:=Tryz.isAgg199
 z183:=Tryz.sizeOf199
 v183:=Tryz.zeroValue199
 t218:=Tryz.underlying221
 a218:=Tryz.isAgg221
 z218:=Tryz.sizeOf221
 v218:=Tryz.zeroValue221
 t222:=Tryz.underlying225
 a222:=Tryz.isAgg225
 z222:=Tryz.sizeOf225
 v222:=Tryz.zeroValue225
 t228:=Tryz.underlying250
 a228:=Tryz.isAgg250
 z228:=Tryz.sizeOf250
 v228:=Tryz.zeroValue250
 t229:=Tryz.underlying180
 a229:=Tryz.isAgg180
 z229:=Tryz.sizeOf180
 v229:=Tryz.zeroValue180}
def Tryz.lays196_ren:Go.Shelf.Ren:=⟨fun|196=>179|259=>207|n=>n,fun|0=>0|3=>3|4=>4|5=>5|9=>9|12=>12|46=>175|53=>207|119=>182|138=>229|139=>230|n=>n,fun|3=>3|4=>4|n=>n⟩
theorem Tryz.lays196:Go.Proofs.Lays.n196 Tryz.prog Tryz.lays196_ren:={
 mixed:=by kernel_rfl
 f196:=Tryz.func179.trans (aL9 some pU)
 f259:=Tryz.func207.trans (aL9 some pU)
 t0:=Tryz.underlying0
 a0:=Tryz.isAgg0
 z0:=Tryz.sizeOf0
 v0:=Tryz.zeroValue0
 t3:=Tryz.underlying3
 a3:=Tryz.isAgg3
 z3:=Tryz.sizeOf3
 v3:=Tryz.zeroValue3
 t4:=Tryz.underlying4
 a4:=Tryz.isAgg4
 z4:=Tryz.sizeOf4
 v4:=Tryz.zeroValue4
 t5:=Tryz.underlying5
 a5:=Tryz.isAgg5
 z5:=Tryz.sizeOf5
 v5:=Tryz.zeroValue5
 t9:=Tryz.underlying9
 a9:=Tryz.isAgg9
 z9:=Tryz.sizeOf9
 v9:=Tryz.zeroValue9
 t12:=Tryz.underlying12
 a12:=Tryz.isAgg12
 z12:=Tryz.sizeOf12
 v12:=Tryz.zeroValue12
 t46:=Tryz.underlying175
 a46:=Tryz.isAgg175
 z46:=Tryz.sizeOf175
 v46:=Tryz.zeroValue175
 t53:=Tryz.underlying207
 a53:=Tryz.isAgg207
 z53:=Tryz.sizeOf207
 v53:=Tryz.zeroValue207
 t119:=Tryz.underlying182
 a119:=Tryz.isAgg182
 z119:=Tryz.sizeOf182
 t138:=Tryz.underlying229
 a138:=Tryz.isAgg229
 z138:=Tryz.sizeOf229
 v138:=Tryz.zeroValue229
 t139:=Tryz.underlying230
 a139:=Tryz.isAgg230
 z139:=Tryz.sizeOf230
 v139:=Tryz.zeroValue230
 g3:=by kernel_rfl
 g4:=by kernel_rfl}
def Tryz.lays240_ren:Go.Shelf.Ren:=⟨fun|240=>58|276=>94|n=>n,fun|0=>0|4=>4|9=>9|20=>20|70=>71|72=>73|164=>142|37=>22|n=>n,fun|n=>n⟩
theorem Tryz.lays240:Go.Proofs.Lays.n240 Tryz.prog Tryz.lays240_ren:={
 mixed:=by kernel_rfl
 f240:=Tryz.func58.trans (aL9 some pU)
 f276:=Tryz.func94.trans (aL9 some pU)
 t0:=Tryz.underlying0
 a0:=Tryz.isAgg0
 z0:=Tryz.sizeOf0
 v0:=Tryz.zeroValue0
 t4:=Tryz.underlying4
 a4:=Tryz.isAgg4
 z4:=Tryz.sizeOf4
 v4:=Tryz.zeroValue4
 t9:=Tryz.underlying9
 a9:=Tryz.isAgg9
 z9:=Tryz.sizeOf9
 v9:=Tryz.zeroValue9
 t20:=Tryz.underlying20
 a20:=Tryz.isAgg20
 z20:=Tryz.sizeOf20
 v20:=Tryz.zeroValue20
 t70:=Tryz.underlying71
 a70:=Tryz.isAgg71
 z70:=Tryz.sizeOf71
 v70:=Tryz.zeroValue71
 t72:=Tryz.underlying73
 a72:=Tryz.isAgg73
 z72:=Tryz.sizeOf73
 v72:=Tryz.zeroValue73
 t164:=Tryz.underlying142
 a164:=Tryz.isAgg142
 z164:=Tryz.sizeOf142
 v164:=Tryz.zeroValue142}
theorem Tryz.builderX72:Builder.X72 Tryz.prog Tryz.lays240_ren:={
 sizeBuilder:=by kernel_rfl
 liesBuilder:=by kernel_rfl}
def Tryz.lays169_ren:Go.Shelf.Ren:=⟨fun|169=>31|n=>n,fun|70=>71|9=>9|0=>0|72=>73|37=>22|127=>106|3=>3|5=>5|n=>n,fun|n=>n⟩
theorem Tryz.lays169:Go.Proofs.Lays.n169 Tryz.prog Tryz.lays169_ren:={
 mixed:=by kernel_rfl
 f169:=Tryz.func31.trans (aL9 some pU)
 t0:=Tryz.underlying0
 a0:=Tryz.isAgg0
 z0:=Tryz.sizeOf0
 v0:=Tryz.zeroValue0
 t3:=Tryz.underlying3
 a3:=Tryz.isAgg3
 z3:=Tryz.sizeOf3
 v3:=Tryz.zeroValue3
 t9:=Tryz.underlying9
 a9:=Tryz.isAgg9
 z9:=Tryz.sizeOf9
 v9:=Tryz.zeroValue9
 t37:=Tryz.underlying22
 a37:=Tryz.isAgg22
 z37:=Tryz.sizeOf22
 v37:=Tryz.zeroValue22
 t70:=Tryz.underlying71
 a70:=Tryz.isAgg71
 z70:=Tryz.sizeOf71
 v70:=Tryz.zeroValue71
 t72:=Tryz.underlying73
 a72:=Tryz.isAgg73
 z72:=Tryz.sizeOf73
 v72:=Tryz.zeroValue73
 t127:=Tryz.underlying106
 a127:=Tryz.isAgg106
 z127:=Tryz.sizeOf106
 v127:=Tryz.zeroValue106}
theorem Tryz.builderExtra:Builder.Extra Tryz.prog Tryz.lays169_ren:={
 sizeBuilder:=by kernel_rfl
 liesBuilder:=by kernel_rfl
 t5:=Tryz.underlying5
 a5:=Tryz.isAgg5
 z5:=Tryz.sizeOf5
 v5:=Tryz.zeroValue5
 infoByte:=by kernel_rfl
 cellsByte:=by kernel_rfl
 sizeByte:=by kernel_rfl
 neB5:=by decide}
end Go.Proofs
namespace Go.Proofs.YtkpflnijijccpaaGreatDoor
open Vc Go.RowKit
theorem aGs {g:Gh}{w w':pR}(hH:sG g w (qM 0 [])) (hb:Below w.heap.size w w'):sG g w' (qM 0 []):=
 ⟨fun _ _ h=>(by cases h),fun _ _ _ _ _ _ _ h=>(by cases h),fun b o h=>aMu (hH.sl b o h) hb.size,⟨HW hH.tab.1 hb.size fun b h=>hb.block b (aMu h hH.tab.1.1),fun _ _ _ _ h=>(by cases h)⟩⟩
theorem O5 {P:Program}{f:FuncId}{C:List qC->List q9->Option qI}(hen: ∀args w,(callFunc f args).run P w= .ok (.enter f args) w)
  (h: ∀(g:Gh) (w:pR) (args:List qC) (vals:pN) (L:List q9) (r:qI),CP w->uX g w args vals->C args L=some r->(∀p∈r.side,p)->
   L=[]/\r.H=[]/\Calls P f vals.toArray w (fun e w'=> ∃v,e= .returned v/\Below w.heap.size w w'/\NP g w' r.ret v)):xR P f C:=by
 refine⟨hen,fun g w args vals L r hH ha hC hs=> ?_⟩;obtain⟨rfl,hr,hc⟩:=h g w args vals L r hH.tab.1 ha hC hs;refine hc.mono fun e w' ⟨v,he,hb,hv⟩=>⟨v,g,he,⟨fun b o h=>⟨h,hb.cell (p:=⟨b,o,none⟩) (hH.sl b o h)⟩,by rw[hr];exact aGs hH hb,hv,⟨hb.os,hb.tape,hb.output,hb.size,fun b h _=>hb.block b h,fun b o h _=>⟨hb.cell (p:=⟨b,o,none⟩) h,hb.frozen (p:=⟨b,o,none⟩) h⟩,fun b o h=> .inl h,fun b s h=> .inl ((BM (hb.block b (BL h))).trans h)⟩,(fun i blk b o h=>by rw[hr] at h;cases h),(fun i t x ts h=>by cases h),(fun i t x ts u y us h=>by cases h),(fun _ _ _ h=>h),(fun _ _ _ _ h=>h)⟩⟩
theorem a8V {P:Program}{f:FuncId}{vals:Array pS}{w:pR}{Q:Ending->Prop}(h:Calls P f vals w fun e w'=>Q e/\w'=w):Calls P f vals w fun e w'=>Q e/\Below w.heap.size w w':=
 h.mono fun e w' ⟨h1,h2⟩=>⟨h1,by rw[h2];exact Below.refl _ _⟩
def uU (s:pD) (c:Int):Int:=Lib.indexByte s (Int.toNat c).toUInt8
@[go_sem] def O6:List qC->List q9->Option qI
 |[(.val .str O,none),(.val (.int .u8) Z,none)],[]=>some ⟨[],[(.val (.int .i64) (uU O Z),none)],[]⟩
 |_,_=>none
theorem Y6:xR Tryz.prog 108 O6:=by
 refine O5 (fun _ _=>rfl) fun g w args vals L r hT ha hC hs=> ?_;unfold O6 at hC;split at hC
 .rename_i s c;cases hC;obtain⟨va,_,rfl,ra,vb,_,rfl,rb,hv⟩:=ha;obtain rfl:=wG ra.1;obtain rfl:=w7 rb.1;cases hv;exact⟨rfl,rfl,(a8V (Any.strings_IndexByte Tryz.lays137 ⟨List.toArray s⟩ c w)).mono fun e w' ⟨he,hb⟩=>⟨_,he,hb,vX _ _ _ _,trivial⟩⟩
 .cases hC
@[go_sem] def O7:List qC->List q9->Option qI
 |[(.val .str O,none),(.val .str Z,none)],[]=>some ⟨[(List.all Z fun b=>decide (b.toNat<128))=true/\List.length Z<4294967281],[(.val .str (Lib.trimLeftS O Z),none)],[]⟩
 |_,_=>none
theorem Y7:xR Tryz.prog 127 O7:=by
 refine O5 (fun _ _=>rfl) fun g w args vals L r hT ha hC hs=> ?_;unfold O7 at hC;split at hC
 .rename_i s c;cases hC;obtain⟨h1,h2⟩:=hs _ aL7;obtain⟨va,_,rfl,ra,vb,_,rfl,rb,hv⟩:=ha;obtain rfl:=wG ra.1;obtain rfl:=wG rb.1;cases hv;exact⟨rfl,rfl,(Any.strings_TrimLeft_laid Tryz.lays161 pU ⟨List.toArray s⟩ ⟨List.toArray c⟩ w h2 (ascii_of_all h1)).mono fun e w' ⟨he,hb⟩=>⟨_,he,hb,DY _ _ _,trivial⟩⟩
 .cases hC
@[go_sem] def O8:List qC->List q9->Option qI
 |[(.val .str O,none)],[]=>some ⟨[List.length O<=9223372036854775807],[(.val .bool (Lib.validD O),none)],[]⟩
 |_,_=>none
theorem Y8:xR Tryz.prog 179 O8:=by
 refine O5 (fun _ _=>rfl) fun g w args vals L r hT ha hC hs=> ?_;unfold O8 at hC;split at hC
 .rename_i s;cases hC;have h1:=hs _ aL7;obtain⟨va,_,rfl,ra,hv⟩:=ha;obtain rfl:=wG ra.1;cases hv;exact⟨rfl,rfl,(Any.utf8_ValidString Tryz.lays196 ⟨List.toArray s⟩ w h1 hT.2.1).mono fun e w' ⟨he,hb⟩=>⟨_,he,hb,w9 _ _ _,trivial⟩⟩
 .cases hC
@[go_sem] def T0:List qC->List q9->Option qI:=fun _ _=>none
def sI (l:pE):pE:=l.mergeSort fun x y=>decide (x<=y)
@[go_sem] def T1:(t:Ty)->List t.den->Option (List t.den)
 | .str,l=>some (sI l)
 |_,_=>none
theorem Y9 {g:Gh}{w:pR}: ∀{l:pE}{xs:pN},tV (Rd g w .str) 1 l xs->xs=l.map Go.Proofs.encStr
 |[],_,h=>h
 |_::_,_,⟨c1,c2,e,_,h2,h3⟩=>by rw[e,show c1=_ from h2,Y9 h3];rfl
theorem T2 {g:Gh}{w:pR}: ∀(l:pE),tV (Rd g w .str) 1 l (l.map Go.Proofs.encStr)
 |[]=>rfl
 |x::l=>⟨[.string ⟨x.toArray⟩],_,rfl,rfl,rfl,T2 l⟩
theorem a8W (s:pE) (cur:Array pS) (h:s.length<=cur.size):(Go.Sort.putCells Go.Proofs.encStr 0 s.toArray cur).toList.take s.length=s.map Go.Proofs.encStr:=by
 apply List.ext_getElem
 .simp [Go.Sort.putCells];omega
 .intro i h1 h2;have hi:i<s.length:=by simpa using h2
  simp only[Go.Sort.putCells,List.getElem_take,Array.getElem_toList,Array.getElem_mapIdx,List.getElem_map];rw[aLQ (by simp;exact hi)];simp [hi]
theorem YA:xR Tryz.prog 88 T0/\∀F,some T1=some F->S8 Tryz.prog 88 F:=by
 refine⟨⟨fun _ _=>rfl,fun g w args vals L r _ _ hC _=>by cases hC⟩,fun F hF=> ?_⟩;cases hF;intro g w e t l l' v n xs hT hown hF hl hn hf;cases t with
 |str=>
  have hf:sI l=l':=aLS hf;subst hf;subst hl;have hlen:(sI l).length=l.length:=by simp [sI]
  obtain⟨hx,⟨rfl,h0⟩ |⟨b,cap,cur,rfl,hb0,hbk,hnc,hcm,hcs,htk⟩⟩:=hown
  .obtain rfl:l=[]:=aNg.1 h0;refine(Any.slices_Sort_string_none Tryz.lays190 none 0 w).mono ?_;rintro en w' ⟨rfl,rfl⟩;exact⟨rfl,hlen,[],⟨rfl,.inl ⟨rfl,rfl⟩⟩,by simp [sI,tV],⟨rfl,rfl,rfl,aMc _,fun _ _ _=>rfl⟩⟩
  .have hxs:=Y9 hF;subst hxs;have hc1:(Ty.str).cells=1:=rfl;rw[hc1,aNC] at hcs htk;have hbl:b<w.heap.size:=by
    rcases aMY b w.heap.size with h|h
    .exact h
    .rw[Array.getElem?_eq_none h] at hbk;cases hbk
   have hH:Go.Sort.Holds Go.Proofs.encStr w b 0 l.toArray:=by
    intro j hj;have hj':j<l.length:=by simpa using hj
    refine⟨?_,Lib.frozen_of_heap hbk _⟩;rw[Lib.cell_of_heap hbk,aMs];have h2:(cur.toList.take l.length)[j]? =(l.map Go.Proofs.encStr)[j]? :=by rw[htk]
    rw[aMW hj',aMT] at h2;rw[h2];simp [hj']
   refine(Any.slices_Sort_string Tryz.lays190 b 0 cap l w hH hbl hn).mono ?_;rintro en w' ⟨rfl,m,os,rfl⟩;have hsz:(sI l).length<=cur.size:=by rw[hlen,hcs];exact hnc
   have hnew:(Go.Sort.grow (Go.Sort.putRow Go.Proofs.encStr (Go.Sort.ahead w m) b 0 (sI l).toArray) os).heap[b]? =some (.cells (Go.Sort.putCells Go.Proofs.encStr 0 (sI l).toArray cur) e (0,0)):=by
    rw[Go.Sort.heap_grow_old _ _ (by simpa using hbl)];simp [Go.Sort.putRow,Go.Sort.mapBlock,aM0,hbk,Go.Sort.onCells]
   refine⟨rfl,hlen,(sI l).map Go.Proofs.encStr,⟨by simp [hlen,hc1],.inr ⟨b,cap,_,rfl,hb0,hnew,hnc,hcm,?_,?_⟩⟩,T2 _,⟨rfl,rfl,rfl,by simp,fun k hk hne=> ?_⟩⟩
   .rw[hc1,aNC];simpa[Go.Sort.putCells] using hcs
   .rw[hc1,aNC,<-hlen];exact a8W _ _ hsz
   .rw[Go.Sort.heap_grow_old _ _ (by simpa using hk)];have hkb:b≠k:=fun h=>hne (by rw[h];rfl);simp [Go.Sort.putRow,Go.Sort.mapBlock,aM0,hkb]
 |_=>cases hf
def xS (s c:pD):Int:=Lib.index s c
@[go_sem] def O9:List qC->List q9->Option qI
 |[(.val .ref (some (0,0)),none)],[.cells (.pair .mref (.pair (.list (.int .u8)) .unit)) ((some (0,0)),O) [(1,1)],.grow Z 1 aA]=>some ⟨[aA=List.length O.1],[],[.cells (.pair .mref (.pair (.list (.int .u8)) .unit)) ((some (0,0)),O) [(1,1)],.grow Z 1 aA]⟩
 |_,_=>none
theorem aGt {g:Gh}{w:pR}{L:List q9}{e:qH}{w':pR}{u v:pS}{r:qI}(hE:sB g w (qM 0 L) e g w' u)
  (hH: ∀i,qD (qM 0 r.H) i=qD (qP e.upd (qM 0 L)) i) (hin: ∀i,i∈qG e.upd->i<L.length) (hlen:r.H.length=L.length)
  (hp: ∀i blk b o,r.H[i]? =some blk->sA g i blk b o->w.heap.size<=b\/xQ g (qM 0 L) b o)
  (hty: ∀(i:Nat) t x ts u y us,L[i]? =some (.cells t x ts)->r.H[i]? =some (.cells u y us)->u=t)
  (hret:NP g w' r.ret v):D1 g w L r g w' v:=
 ⟨fun b o h=>⟨h,hE.le.cell b o h⟩,hE.heap.ext hH,hret,hE.fr.mono fun b o ⟨i,blk,_,h1,h2⟩=>⟨i,blk,h1,h2⟩,hp,fun _ _ _ _ _=>rfl,hty,fun _ _ _ h=>h,fun _ _ _ _ h=>h⟩
theorem aGu {P:Program}{ρ:Go.Shelf.Ren}(L:Lays.n240 P ρ) (X:Builder.X72 P ρ) {e:TypeId}(b:Nat) (w:pR) (h0:w.cell? ⟨b,0,none⟩=some (.pointer none)) (hsh:w.shape? b=some (e,2)) (hl:liesAt P P.depth e (2/P.cellsOf e) 0 (ρ.t 72) 1=true) (hfz:w.frozen? ⟨b,0,none⟩=false):
  Calls P (ρ.f 240) #[.pointer (some ⟨b,0,none⟩)] w fun en w'=>en= .returned (.tuple #[])/\w'=w.setCell ⟨b,0,none⟩ (.pointer (some ⟨b,0,none⟩)):=by
 obtain⟨j,hj,hjs⟩:=aLW.1 X.sizeBuilder;have mixed:=L.mixed;have t72:=L.t72;have a72:=L.a72;have z72:=L.z72;have v72:=L.v72;have u72:=aMa L.t72;have t70:=L.t70;have a70:=L.a70;have z70:=L.z70;have v70:=L.v70;have u70:=aMa L.t70;have t9:=L.t9;have a9:=L.a9;have z9:=L.z9;have v9:=L.v9;have u9:=aMa L.t9;have t4:=L.t4;have a4:=L.a4;have z4:=L.z4;have v4:=L.v4;have u4:=aMa L.t4;have t164:=L.t164;have a164:=L.a164;have z164:=L.z164;have v164:=L.v164;have u164:=aMa L.t164
 go_enter L.f240,Body.n240_ntmps ρ
 go_wp2
 rw[Lib.run_to_unsafe w ⟨b,0,none⟩ L.t70 L.t164 hj (by rw[hjs];decide) hsh (Nat.zero_lt_succ 1)];simp only[Result.andThen];rw[Oper.upon_value]
 go_wp2
 rw[run_callFunc_extern L.f276 pU pU pU (e:=Extern.AbiNoEscape.same) pU];rw[Lib.run_noEscape];simp only[Result.andThen];rw[Oper.upon_value]
 go_wp2
 rw[Lib.run_from_unsafe w ⟨b,0,none⟩ L.t164 L.t70 hj hsh hl];simp only[Result.andThen];rw[Oper.upon_value]
 go_wp2
 go_end0
 exact⟨rfl,rfl⟩
theorem YB:xR Tryz.prog 58 O9:=by
 refine⟨fun _ _=>rfl,fun g w args vals L r hH ha hC hs=> ?_⟩;unfold O9 at hC;split at hC
 .rename_i O Z aA;cases hC;obtain⟨va,_,rfl,ra,hv⟩:=ha;cases hv;have hg0:qD (qM 0 [q9.cells (.pair .mref (.pair (.list (.int .u8)) .unit)) ((some (0,0)),O) [(1,1)],.grow Z 1 aA]) 0=some (.cells (.pair .mref (.pair (.list (.int .u8)) .unit)) ((some (0,0)),O) [(1,1)]):=rfl;obtain⟨p,cs,hJ,hR,hra,hth,hns,htk⟩:=hH.blk 0 _ hg0;obtain⟨c1,c2,rfl,hR1,hR2⟩:=hR;obtain⟨p',hJ',⟨hp0,eb,heb,hk3⟩,hc1⟩:=hR1;rw[hJ] at hJ';obtain rfl:=aLS hJ';obtain⟨b,o,k⟩:=p;have ho:o=0:=by simpa using hp0
  subst ho;have hlies:liesAt Tryz.prog Tryz.prog.depth eb (2/Tryz.prog.cellsOf eb) 0 73 1=true:=by
   unfold V5 at heb;split at heb
   .rename_i h;subst h;kernel_rfl
   .split at heb
    .rename_i h;subst h;kernel_rfl
    .cases heb
  have hva:va= .pointer (some ⟨b,0,none⟩):=by
   obtain⟨q,hq,e⟩:=yX ra.1;rw[hJ] at hq;cases hq;exact e
  subst hva;have hsh:w.shape? b=some (eb,2):=hth.2 pH _ hk3;rcases hc1 with rfl|rfl
  .have h0:w.cell? ⟨b,0,none⟩=some (.pointer none)/\w.frozen? ⟨b,0,none⟩=false:=⟨hra 0 _ rfl,(hth.1 0 pH).2⟩;refine(aGu Tryz.lays240 Tryz.builderX72 b w h0.1 hsh hlies h0.2).mono ?_;rintro en w' ⟨rfl,rfl⟩;refine⟨_,g,rfl,?_⟩;have hE:=sB.store (side:=[]) (rds:=[]) hH (i:=0) (t:= .mref) (y:=some (0,0)) (off:=0) (k:=none) (p:=⟨b,0,k⟩) (cy:=[.pointer (some ⟨b,0,none⟩)]) (v:= .pointer (some ⟨b,0,none⟩)) hg0 hJ (z:=((some (0,0)),O)) pV ⟨_,hJ,⟨rfl,_,heb,hk3⟩,.inr rfl⟩ trivial (fun _ _ h=>by cases h) (fun _=>rfl);refine aGt hE.1 ?_ ?_ rfl ?_ ?_ ?_
   .intro i
    match i with
    |0=>rfl
    |1=>rfl
    |i+2=>rfl
   .intro i hi;simp [qG] at hi;subst hi;exact Nat.zero_lt_succ _
   .intro i blk b o hi ho;exact .inr ⟨i,blk,by rw[S7];simpa using hi,ho⟩
   .intro i t x ts u y us h1 h2;rw[h1] at h2;cases h2;rfl
   .exact⟨[],rfl,rfl⟩
  .have h0:w.cell? ⟨b,0,none⟩=some (.pointer (some ⟨b,0,none⟩)):=hra 0 _ rfl;refine(Any.Builder_copyCheck_used Tryz.lays240 Tryz.builderX72 b w h0).mono ?_;rintro en w' ⟨rfl,rfl⟩;refine⟨_,g,rfl,⟨fun b o h=>⟨h,rfl⟩,hH,⟨[],rfl,rfl⟩,Fr.refl _ _ _,?_,fun _ _ _ _ _=>rfl,?_,fun _ _ _ h=>h,fun _ _ _ _ h=>h⟩⟩
   .intro i blk b o hi ho;exact .inr ⟨i,blk,by rw[S7];simpa using hi,ho⟩
   .intro i t x ts u y us h1 h2;rw[h1] at h2;cases h2;rfl
 .cases hC
theorem a8X {P:Program}(w:pR): ∀(l:pM) (a:Addr) (acc:ByteArray),(∀j x,l[j]? =some x->w.cell? (a.add j)=some (.int .u8 x))->
  (loadBytes a acc l.length).run P w= .ok ⟨acc.data++(x7 l).toArray⟩ w
 |[],a,acc,_=>by simp [loadBytes,x7]
 |x::l,a,acc,h=>by
  have h0:w.cell? a=some (.int .u8 x):=by
   have:=h 0 x rfl;simpa[Addr.add] using this
  have ih:=a8X (P:=P) w l (a.add 1) (acc.push (UInt8.ofNat x.toNat)) (fun j y hy=>by
   have:=h (j+1) y (by simpa using hy);have e:(a.add 1).add j=a.add (j+1):=by
    unfold Addr.add;by_cases hj:j=0
    .subst hj;simp
    .simp [hj];omega
   rw[e];exact this)
  have hx:x.toNat.toUInt8=UInt8.ofNat x.toNat:=rfl;simp only[aLY,loadBytes,aL2,run_load,h0,Result.andThen,hx];rw[ih];congr 1;apply ByteArray.ext;simp [ByteArray.push,x7]
theorem aGv {P:Program}(w:pR) (pt it ty e:TypeId) (hp:P.underlying pt=some (.pointer e)) (hc:P.cellsOf e=1) (g cells:Nat) (hsh:w.shape? g=some (e,cells)) (l:pM) (h0:l≠[]) (hn:l.length<=cells) (h63:l.length<=9223372036854775807)
  (hcell: ∀j x,l[j]? =some x->w.cell? ((⟨g,0,none⟩:Addr).add j)=some (.int .u8 x)):
  (Builtin.unsafeString_ #[pt,it] ty #[.pointer (some ⟨g,0,none⟩),.int .i64 l.length]).run P w= .ok (.string ⟨(x7 l).toArray⟩) (w.freeze ⟨g,0,none⟩ l.length):=by
 have hl:l.length≠0:=by simpa using h0
 have hlb:=a8X (P:=P) w l ⟨g,0,none⟩ .empty hcell;have hlies:=Lib.liesAt_bytes (P:=P) hc (cells/P.cellsOf e) l.length (by rw[hc];simpa using hn);have h63': ¬(9223372036854775807:Int)<(l.length:Int):=by omega
 have hdef:Builtin.unsafeString_ #[pt,it] ty #[.pointer (some ⟨g,0,none⟩),.int .i64 l.length]=
   (do
    let n<-asInt (.int .i64 l.length)
    if n<0 then runtimePanic (.error "unsafe.String: len out of range")
    if n>IntKind.i64.max then unsupported (.unsafePointer "String: a length above the largest int")
    if n=0 then pure (.string .empty)
    else if<-variablesAt ⟨g,0,none⟩ (<-elemOf pt) n.toNat then do
     let s<-loadBytes ⟨g,0,none⟩ .empty n.toNat
     freeze ⟨g,0,none⟩ n.toNat
     pure (.string s)
    else unsupported (.unsafePointer "String: not so many bytes at ptr")):=rfl
 rw[hdef];have hmax:IntKind.i64.max=9223372036854775807:=rfl;have hneg: ¬(l.length:Int)<0:=by omega
 simp [asInt,asIntOf,hmax,h63',hneg,hl,variablesAt,hsh,elemOf,aMa hp,hlies,hlb]
theorem YC {P:Program}{ρ:Go.Shelf.Ren}(L:Lays.n169 P ρ) (X:Builder.Extra P ρ) (b n cap:Nat) (a q:Option Addr) (s:ByteArray) (w w2:pR)
  (c1:w.drew.cell? ⟨b,1,none⟩=some (.slice a n cap)) (hSD:(Builtin.unsafeSliceData_ #[(ρ.t 37)] (ρ.t 127) #[.slice a n cap]).run P w.drew= .ok (.pointer q) w.drew)
  (hUS:(Builtin.unsafeString_ #[(ρ.t 127),(ρ.t 3)] (ρ.t 9) #[.pointer q,.int .i64 n]).run P w.drew= .ok (.string s) w2):
  Calls P (ρ.f 169) #[.pointer (some ⟨b,0,none⟩)] w fun e w'=>e= .returned (.string s)/\w'=w2:=by
 have mixed:=L.mixed;have t72:=L.t72;have a72:=L.a72;have z72:=L.z72;have v72:=L.v72;have u72:=aMa L.t72;have t70:=L.t70;have a70:=L.a70;have z70:=L.z70;have v70:=L.v70;have u70:=aMa L.t70;have t37:=L.t37;have a37:=L.a37;have z37:=L.z37;have v37:=L.v37;have u37:=aMa L.t37;have t127:=L.t127;have a127:=L.a127;have z127:=L.z127;have v127:=L.v127;have u127:=aMa L.t127;have t3:=L.t3;have a3:=L.a3;have z3:=L.z3;have v3:=L.v3;have u3:=aMa L.t3;have t9:=L.t9;have a9:=L.a9;have z9:=L.z9;have v9:=L.v9;have u9:=aMa L.t9;have t5:=X.t5;have a5:=X.a5;have z5:=X.z5;have v5:=X.v5;have u5:=aMa X.t5
 go_enter L.f169,Body.n169_ntmps ρ
 go_wp2
 go_region_o
 all_goals (go_wp2;go_ret;exact⟨rfl,rfl⟩)
theorem aGw {P:Program}{ρ:Go.Shelf.Ren}(L:Lays.n169 P ρ) (X:Builder.Extra P ρ) (b g:Nat) (cur:Array pS) (w:pR) (hlt:b<w.heap.size)
  (c1:w.drew.cell? ⟨b,1,none⟩=some (.slice (some ⟨g,0,none⟩) 0 0)) (hg:w.drew.heap[g]? =some (.cells cur (ρ.t 5) (0,0))):
  Calls P (ρ.f 169) #[.pointer (some ⟨b,0,none⟩)] w fun e w'=>e= .returned (.string ⟨#[]⟩)/\w'=w.drew.alloc (.view ⟨g,0,none⟩ (ρ.t 5)):=by
 have hUS:=Any.unsafeString_none L X;have hSD:(Builtin.unsafeSliceData_ #[(ρ.t 37)] (ρ.t 127) #[.slice (some ⟨g,0,none⟩) 0 0]).run P w.drew= .ok (.pointer (some ⟨w.drew.heap.size,0,none⟩)) (w.drew.alloc (.view ⟨g,0,none⟩ (ρ.t 5))):=
  Lib.run_unsafeSliceData_zero w.drew _ _ (ρ.t 5) L.t127 ⟨g,0,none⟩ 0 ((ρ.t 5),cur.size) (by simp [World.shape?,hg])
 have c2:(w.drew.alloc (.view ⟨g,0,none⟩ (ρ.t 5))).cell? ⟨b,1,none⟩=some (.slice (some ⟨g,0,none⟩) 0 0):=
  (aMe (a:=⟨b,1,none⟩) (Lib.alloc_old w.drew _ b hlt)).trans c1
 have c3:(w.alloc (.view ⟨g,0,none⟩ (ρ.t 5))).drew.cell? ⟨b,1,none⟩=some (.slice (some ⟨g,0,none⟩) 0 0):=c2;have c0:w.cell? ⟨b,1,none⟩=some (.slice (some ⟨g,0,none⟩) 0 0):=c1;have mixed:=L.mixed;have t72:=L.t72;have a72:=L.a72;have z72:=L.z72;have v72:=L.v72;have u72:=aMa L.t72;have t70:=L.t70;have a70:=L.a70;have z70:=L.z70;have v70:=L.v70;have u70:=aMa L.t70;have t37:=L.t37;have a37:=L.a37;have z37:=L.z37;have v37:=L.v37;have u37:=aMa L.t37;have t127:=L.t127;have a127:=L.a127;have z127:=L.z127;have v127:=L.v127;have u127:=aMa L.t127;have t3:=L.t3;have a3:=L.a3;have z3:=L.z3;have v3:=L.v3;have u3:=aMa L.t3;have t9:=L.t9;have a9:=L.a9;have z9:=L.z9;have v9:=L.v9;have u9:=aMa L.t9;have t5:=X.t5;have a5:=X.a5;have z5:=X.z5;have v5:=X.v5;have u5:=aMa X.t5
 go_enter L.f169,Body.n169_ntmps ρ
 go_wp2
 go_region_o
 all_goals (go_wp2;go_ret;exact⟨rfl,rfl⟩)
@[go_sem] def OA:List qC->List q9->Option qI
 |[(.val .ref (some (0,0)),none)],[.cells (.pair .mref (.pair (.list (.int .u8)) .unit)) ((some (0,0)),O) [(1,1)],.grow 5 1 Z]=>some ⟨[Z=List.length O.1],[(.val .str (x7 O.1),none)],[.cells (.pair .mref (.pair (.list (.int .u8)) .unit)) ((some (0,0)),O) [],.dead]⟩
 |_,_=>none
theorem YD {g:Gh}{w w':pR}{m:pO}{b:(Ty.pair (.list (.int .u8)) .unit).den}{e n:Nat}{s:pD}{sd:List Prop}(hH:sG g w (qM 0 [q9.cells (.pair .mref (.pair (.list (.int .u8)) .unit)) (m,b) [(1,1)],.grow e 1 n]))
  (hos:w'.os=w.os) (htape:w'.tape=w.tape) (hout:w'.output=w.output) (hsz:w.heap.size<=w'.heap.size)
  (hcell: ∀b o,b<w.heap.size->w'.cell? ⟨b,o,none⟩=w.cell? ⟨b,o,none⟩) (hshape: ∀b s,w.shape? b=some s->w'.shape? b=some s)
  (hblk: ∀b,b<w.heap.size->(∀o,¬sA g 1 (.grow e 1 n) b o)->w'.heap[b]? =w.heap[b]?):
  D1 g w [q9.cells (.pair .mref (.pair (.list (.int .u8)) .unit)) (m,b) [(1,1)],.grow e 1 n] ⟨sd,[(.val .str s,none)],[.cells (.pair .mref (.pair (.list (.int .u8)) .unit)) (m,b) [],.dead]⟩ g w' (.string ⟨s.toArray⟩):=by
 have hg0:qD (qM 0 [q9.cells (.pair .mref (.pair (.list (.int .u8)) .unit)) (m,b) [(1,1)],.grow e 1 n]) 0=some (.cells (.pair .mref (.pair (.list (.int .u8)) .unit)) (m,b) [(1,1)]):=rfl;have hg1:qD (qM 0 [q9.cells (.pair .mref (.pair (.list (.int .u8)) .unit)) (m,b) [(1,1)],.grow e 1 n]) 1=some (.grow e 1 n):=rfl;have hle:Le g w g w':=⟨fun _ _ h=>h,fun b o h=>hcell b o (hH.sl b o h),fun _ _ h=>h,fun _ _ _ h=>h⟩;have hno: ∀c o,sA g 0 (.cells (.pair .mref (.pair (.list (.int .u8)) .unit)) (m,b) [(1,1)]) c o->∀o',¬sA g 1 (.grow e 1 n) c o':=fun c o h o' h'=>by
  obtain⟨v,hv,hb⟩:=h';exact hH.dis 0 1 _ _ c o pH hg0 hg1 h ⟨v,hv,hb⟩
 obtain⟨p,cs,hJ,hR,hra,hth,hns,htk⟩:=hH.blk 0 _ hg0;have hown0: ∀j,j<2->sA g 0 (.cells (.pair .mref (.pair (.list (.int .u8)) .unit)) (m,b) [(1,1)]) p.1 (p.2+j):=fun j hj=>⟨p,hJ,rfl,Nat.le_add_right _ _,Nat.add_lt_add_left hj _⟩;have hpl:p.1<w.heap.size:=KL (hH.blk 0 _ hg0) (hown0 0 pH);have hpb:w'.heap[p.1]? =w.heap[p.1]? :=hblk p.1 hpl (hno p.1 _ (hown0 0 pH));have hbk0:zI g w' 0 (.cells (.pair .mref (.pair (.list (.int .u8)) .unit)) (m,b) []):=
  ⟨p,cs,hJ,wU hle hR,fun j v hj=>(hcell _ _ hpl).trans (hra j v hj),⟨fun j hj=>by
   have h1:=hth.1 j hj;rw[hcell _ _ hpl];exact⟨h1.1,(aME (a:=⟨p.1,p.2+j,none⟩) hpb).trans h1.2⟩,fun h s hs=>hshape _ _ (hth.2 h s hs)⟩,hns,fun _ _ h=>by cases h⟩
 refine⟨fun b o h=>⟨h,hcell b o (hH.sl b o h)⟩,?_,(show rJ g w' (.val .str s,none) (.string ⟨s.toArray⟩) from⟨DY _ _ _,trivial⟩),⟨hos,htape,hout,hsz,?_,?_,fun _ _ h=> .inl h,fun b s h=> .inl (hshape b s h)⟩,?_,fun _ _ _ _ _=>rfl,?_,fun _ _ _ h=>h,fun _ _ _ _ h=>h⟩
 .refine⟨fun i blk h=> ?_,fun i j bi bj c o hij hi hj hoi hoj=> ?_,fun b o h=>aMu (hH.sl b o h) hsz,HW hH.tab.1 hsz (fun c hc=>hblk c (aMu hc hH.tab.1.1) fun o ho=>absurd (hH.tab.2 1 _ c o hg1 ho) pG),fun i blk c o h ho=> ?_⟩
  .match i,h with
   |0,h=>cases h;exact hbk0
   |1,h=>cases h;trivial
   |i+2,h=>simp [qM,qD] at h
  .match i,j,hi,hj with
   |0,0,_,_=>exact hij rfl
   |0,1,_,hj=>cases hj;exact hoj
   |1,_,hi,_=>cases hi;exact hoi
   |0,j+2,_,hj=>simp [qM,qD] at hj
   |i+2,_,hi,_=>simp [qM,qD] at hi
  .match i,h with
   |0,h=>cases h;exact hH.tab.2 0 _ c o hg0 ho
   |1,h=>cases h;exact ho.elim
   |i+2,h=>simp [qM,qD] at h
 .intro c hc hn;exact hblk c hc fun o ho=>hn o ⟨1,_,hg1,ho⟩
 .intro c o hc hn;exact⟨hcell c o hc,aME (a:=⟨c,o,none⟩) (hblk c hc fun o' ho=>hn ⟨1,_,hg1,by obtain⟨v,hv,hb⟩:=ho;exact⟨v,hv,hb⟩⟩)⟩
 .intro i blk c o hi ho
  match i,hi with
  |0,hi=>cases hi;exact .inr ⟨0,_,hg0,ho⟩
  |1,hi=>cases hi;exact ho.elim
  |i+2,hi=>simp at hi
 .intro i t x ts u y us h1 h2
  match i,h1,h2 with
  |0,h1,h2=>cases h1;cases h2;rfl
  |1,h1,_=>cases h1
  |i+2,h1,_=>simp at h1
theorem aGx (w:pR) (a p:Addr) (n:Nat):(w.freeze a n).cell? p=w.cell? p:=by
 unfold World.freeze;split
 .rfl
 .simp only[World.cell?,aM0];by_cases h:a.block=p.block
  .rw[aLQ h];cases w.heap[p.block]? with
   |none=>rfl
   |some o=>cases o<;>rfl
  .rw[aLU h]
theorem aGy (w:pR) (a:Addr) (n b:Nat):(w.freeze a n).shape? b=w.shape? b:=by
 unfold World.freeze;split
 .rfl
 .simp only[World.shape?,aM0];by_cases h:a.block=b
  .rw[aLQ h];cases w.heap[b]? with
   |none=>rfl
   |some o=>cases o<;>rfl
  .rw[aLU h]
theorem aGz (w:pR) (a:Addr) (n b:Nat) (h:b≠a.block):(w.freeze a n).heap[b]? =w.heap[b]? :=by
 unfold World.freeze;split
 .rfl
 .simp only[aM0];rw[aLU (Ne.symm h)]
theorem aGA (w:pR) (a:Addr) (n:Nat):(w.freeze a n).os=w.os/\(w.freeze a n).tape=w.tape/\(w.freeze a n).output=w.output/\(w.freeze a n).heap.size=w.heap.size:=by
 unfold World.freeze;split
 .exact⟨rfl,rfl,rfl,rfl⟩
 .exact⟨rfl,rfl,rfl,by simp⟩
theorem a8Y {g:Gh}{w:pR}{b:Nat}: ∀{l:pM}{o:Nat},y4 (Rd g w (.int .u8)) w g.S 1 b o l->∀j x,l[j]? =some x->w.cell? ⟨b,o+j,none⟩=some (.int .u8 x)
 |[],_,_,_,_,h=>by cases h
 |y::l,o,⟨⟨cs,_,hra,_,hR⟩,hl⟩,j,x,h=>by
  match j,h with
  |0,h=>
   cases h;have hR:cs=[.int .u8 y]:=hR;subst hR;exact hra 0 _ rfl
  |j+1,h=>
   have:=a8Y hl j x (by simpa using h);rw[show o+(j+1)=o+1+j by omega];exact this
theorem aGB {u:Ty}{m:pO}{bv:(Ty.pair (.list (.int .u8)) .unit).den}{l:List u.den}(hget:rC (.list u) (.pair .mref (.pair (.list (.int .u8)) .unit)) (m,bv) 1=some l):l.length=bv.1.length:=by
 have h2:rC (.list u) (.list (.int .u8)) bv.1 0=some l:=hget;simp only[rC] at h2;split at h2
 .rename_i h;injection h with h
  subst h;cases h2;rfl
 .cases h2
theorem YE:xR Tryz.prog 31 OA:=by
 refine⟨fun _ _=>rfl,fun g w args vals L r hH ha hC hs=> ?_⟩;unfold OA at hC;split at hC
 .rename_i bv n;cases hC;obtain rfl:n=List.length bv.1:=hs _ pI;obtain⟨va,_,rfl,ra,hv⟩:=ha;cases hv;have hg0:qD (qM 0 [q9.cells (.pair .mref (.pair (.list (.int .u8)) .unit)) ((some (0,0)),bv) [(1,1)],.grow 5 1 (List.length bv.1)]) 0=some (.cells (.pair .mref (.pair (.list (.int .u8)) .unit)) ((some (0,0)),bv) [(1,1)]):=rfl;have hg1:qD (qM 0 [q9.cells (.pair .mref (.pair (.list (.int .u8)) .unit)) ((some (0,0)),bv) [(1,1)],.grow 5 1 (List.length bv.1)]) 1=some (.grow 5 1 (List.length bv.1)):=rfl;obtain⟨p,cs,hJ,hR,hra,hth,hns,htk⟩:=hH.blk 0 _ hg0;obtain⟨v',xs,hv',hown,hmax,hsl⟩:=hH.blk 1 _ hg1;obtain⟨c1,c2,rfl,hR1,hR2⟩:=hR;obtain⟨d1,d2,rfl,⟨a,cap,rfl,hcap,hl⟩,hd2⟩:=hR2;obtain⟨p',hJ',⟨hp0,_,_,_⟩,hc1⟩:=hR1;rw[hJ] at hJ';obtain rfl:=aLS hJ';obtain⟨b,o,k⟩:=p;have ho:o=0:=by simpa using hp0
  subst ho;have hlen1:c1.length=1:=by rcases hc1 with rfl|rfl<;>rfl
  obtain⟨q,hq,hva⟩:=yX ra.1;rw[hJ] at hq;cases hq;subst hva;have hcell1:w.cell? ⟨b,1,none⟩=some (.slice a bv.1.length cap):=hra 1 _ (by rw[aL0 pG,hlen1];rfl);obtain⟨u,l,v,hget,hcv,hcur⟩:=htk 1 1 pI;have hvv:v= .slice a bv.1.length cap:=by
   rw[aL0 pG,hlen1] at hcv;exact(aLS hcv).symm
  have hll:l.length=bv.1.length:=aGB hget;rw[hll,hv',hvv] at hcur;obtain rfl:=aLS hcur;have hbl:b<w.heap.size:=RY hcell1;have hdr: ∀(s:pD) (sd:List Prop),D1 g w _ ⟨sd,[(.val .str s,none)],[.cells (.pair .mref (.pair (.list (.int .u8)) .unit)) ((some (0,0)),bv) [],.dead]⟩ g w.drew (.string ⟨s.toArray⟩):=fun s sd=>
   YD hH rfl rfl rfl (aMc _) (fun _ _ _=>rfl) (fun _ _ h=>h) (fun _ _ _=>rfl)
  obtain⟨hx,⟨hnil,h0⟩ |⟨gb,cap',cur,hsl',hb0,hbk,hnc,hcm,hcs,htake⟩⟩:=hown
  .have hb0:bv.1=[]:=aNg.1 h0;have hz:x7 bv.1=[]:=by rw[hb0];rfl
   have hl0:List.length bv.1=0:=h0;injection hnil with e1 e2 e3
   subst e1;subst e3;refine(YC Tryz.lays169 Tryz.builderExtra b bv.1.length 0 none none .empty w w.drew hcell1 rfl (by rw[hl0];exact Any.unsafeString_none Tryz.lays169 Tryz.builderExtra w.drew none)).mono ?_;rintro e w' ⟨rfl,rfl⟩;exact⟨_,g,rfl,by rw[hz];exact hdr [] _⟩
  .injection hsl' with e1 e2 e3
   subst e1;subst e3;have hsz:bv.1.length<=cur.size:=by omega
   by_cases hb0:bv.1=[]
   .have hz:x7 bv.1=[]:=by rw[hb0];rfl
    have hl0:List.length bv.1=0:=by rw[hb0];rfl
    by_cases hc0:cap=0
    .subst hc0;rw[hl0] at hcell1;refine(aGw Tryz.lays169 Tryz.builderExtra b gb cur w hbl hcell1 hbk).mono ?_;rintro e w' ⟨rfl,rfl⟩;have hold: ∀c,c<w.heap.size->(w.drew.alloc (.view ⟨gb,0,none⟩ 5)).heap[c]? =w.heap[c]? :=fun c hc=>Lib.alloc_old w.drew _ c hc;refine⟨_,g,rfl,?_⟩;rw[hz];exact YD hH rfl rfl rfl pI (fun c o hc=>aMe (a:=⟨c,o,none⟩) (hold c hc)) (fun c s h=>(BM (hold c (BL h))).trans h) (fun c hc _=>hold c hc)
    .refine(YC Tryz.lays169 Tryz.builderExtra b bv.1.length cap (some ⟨gb,0,none⟩) (some ⟨gb,0,none⟩) .empty w w.drew hcell1 (Lib.run_unsafeSliceData_row _ _ _ _ _ _ hc0) (by rw[hl0];exact Any.unsafeString_none Tryz.lays169 Tryz.builderExtra w.drew _)).mono ?_;rintro e w' ⟨rfl,rfl⟩;exact⟨_,g,rfl,by rw[hz];exact hdr [] _⟩
   .have hcap0:cap≠0:=fun h=>hb0 (aNg.1 pG);have hcb: ∀j x,bv.1[j]? =some x->w.cell? ⟨gb,j,none⟩=some (.int .u8 x):=by
     rcases hl with hl|⟨b',o',ha',hl⟩
     .exact absurd hl hb0
     .cases ha';intro j x hj;have:=a8Y hl j x hj;rwa [aMs] at this
    have hbk':w.drew.heap[gb]? =some (.cells cur 5 (0,0)):=hbk;have hshp:w.drew.shape? gb=some (5,cur.size):=by simp only[World.shape?,hbk']
    refine(YC Tryz.lays169 Tryz.builderExtra b bv.1.length cap (some ⟨gb,0,none⟩) (some ⟨gb,0,none⟩) ⟨(x7 bv.1).toArray⟩ w (w.drew.freeze ⟨gb,0,none⟩ bv.1.length) hcell1 (Lib.run_unsafeSliceData_row _ _ _ _ _ _ hcap0)
     (aGv w.drew _ _ _ 5 (Tryz.lays169).t127 (Tryz.builderExtra).cellsByte gb cur.size hshp bv.1 hb0 hsz (by unfold maxLen at hcm;omega) (fun j x h=>by rw[aM6,aMs];exact hcb j x h))).mono ?_
    rintro e w' ⟨rfl,rfl⟩;refine⟨_,g,rfl,?_⟩;have hblk: ∀c,(∀o,¬sA g 1 (.grow 5 1 (List.length bv.1)) c o)->(w.drew.freeze ⟨gb,0,none⟩ bv.1.length).heap[c]? =w.heap[c]? :=fun c hc=>aGz w.drew _ _ c fun e=>hc 0 ⟨_,hv',by rw[e];rfl⟩;have hr:=aGA w.drew ⟨gb,0,none⟩ bv.1.length;refine YD hH hr.1 hr.2.1 hr.2.2.1 (aNj hr.2.2.2.symm) (fun c o _=>aGx w.drew _ _ _) (fun c s h=>(aGy w.drew _ _ c).trans h) (fun c _ hc=>hblk c hc)
 .cases hC
theorem a8Z:tW Tryz.prog 111 ⟨(.pair .str (.pair .str .unit)),0,0,false,[]⟩:=⟨pU,(show ((_/\∃_,_/\_)\/_)/\_ from⟨.inl ⟨rfl,_,Tryz.underlying111,(show _/\_/\_/\_ from⟨rfl,pU,pU,(show _/\_/\_/\_ from⟨rfl,pU,pU,trivial⟩)⟩)⟩,(fun h=>absurd h pH)⟩)⟩
theorem T3 {P:Program}(w:pR) (dT sT ty elem:TypeId) (sz g o dLen dCap:Nat) (a:Addr) (sLen sCap:Nat) (cur:Array pS) (t:TypeId) (cs:pN)
  (hu:P.underlying dT=some (.slice elem)) (hs:(P.info? elem).map (·.size)=some sz)
  (hg:w.heap[g]? =some (.cells cur t (0,0))) (hn:cs.length=Nat.min sLen dLen*sz)
  (hsrc: ∀j v,cs[j]? =some v->w.cell? (a.add j)=some v) (hfit:o+cs.length<=cur.size) (h1: ∀v∈cs,v.oneCell'=true):
  (Builtin.copy_ #[dT,sT] ty #[.slice (some ⟨g,o,none⟩) dLen dCap,.slice (some a) sLen sCap]).run P w=
   .ok (goInt (Nat.min sLen dLen:Nat)) (w.setRow g (cur.toList.take o++cs++cur.toList.drop (o+cs.length)).toArray):=by
 have hl:=run_loadCells_list (P:=P) w a cs hsrc;have hst:=run_storeCells_at P g o t cs 0 cur w hg (by simpa using hfit) h1;cases hq:P.info? elem with
 |none=>simp [hq] at hs
 |some i=>
  have hi:i.size=sz:=by simpa[hq] using hs
  simp [Builtin.copy_,aMa hu,Builtin.lenOf,Builtin.firstCells,sizeOf,typeInfo,hq,hi,<-hn,hl,hst]
theorem aGC {P:Program}(w:pR) (tS tR e:TypeId) (ht:P.underlying tS=some (.slice e)) (size:Nat) (hz: ∀w,(Go.sizeOf e).run P w= .ok size w)
  (a b:Addr) (la ca lb cb:Nat) (hne:a.block≠b.block) (tA tB:TypeId) (kA kB:Nat)
  (hsa:w.shape? a.block=some (tA,kA)) (hkA:kA≠0) (hsb:w.shape? b.block=some (tB,kB)) (hfb: ∀o,w.frozen? ⟨b.block,o,none⟩=false) (hsp:b.spot=none):
  (Extern.SlicesOverlaps.overlaps #[tS,tS] #[tR] #[.slice (some a) la ca,.slice (some b) lb cb]).run P w= .ok (.bool false) w:=by
 have hnb:(a.block != b.block)=true:=by simpa using hne
 have hnb':(a.block==b.block)=false:=by simpa using hne
 have hfb1:w.frozen? b=false:=by
  obtain⟨bb,bo,bs⟩:=b;cases hsp;exact hfb bo
 have hfb2:=hfb kB;change Sem.run P (α:=pS) (do
  let some t:=(#[tS,tS]:Array TypeId)[0]? |stuck "slices.overlaps: no parameter types"
  let .slice elem<-underlying t|stuck "slices.overlaps: slice type expected"
  let size<-sizeOf elem
  match (some a:Option Addr),(some b:Option Addr) with
  |some a,some b=>
   if la=0\/lb=0\/size=0 then pure (Value.bool false)
   else if a.block != b.block&&(<-frozen a)&&(<-frozen b) then unsupported .addressObserved
   else do
    if a.block != b.block then do
     noView a;noView b
     if<-mayBeOne a b then return Value.bool ((<-choose (.extern "sameAddr.stringBytes" 2))==1)
    pure (Value.bool (a.block==b.block&&a.off<b.off+lb*size&&b.off<a.off+la*size))
  |_,_=>pure (Value.bool false)) w=_
 by_cases h0:la=0\/lb=0\/size=0
 .simp [aMa ht,hz,h0]
 .cases kA with
  |zero=>exact absurd rfl hkA
  |succ kA=>
   cases hfa:w.frozen? a<;>cases hfe:w.frozen? {block:=a.block,off:=kA+1}<;>
   simp [aMa ht,hz,h0,hnb,hnb',frozen,noView,viewAt,mayBeOne,stringish,shape,Sem.run,hsa,hsb,hfb1,hfb2,hfa,hfe]
theorem aGD {α:Type}{l:List α}{i n:Nat}(hin:i<=n):(l.drop (i*2)).take ((n-i)*2)=(l.take (n*2)).drop (i*2):=by
 rw[List.drop_take,show n*2-i*2=(n-i)*2 by omega]
theorem a80 {α:Type}{l:List α}{i n:Nat}{v:α}(h:v∈(l.drop (i*2)).take ((n-i)*2)):v∈l.take (n*2):=by
 rw[show (n-i)*2=n*2-i*2 by omega,<-List.drop_take] at h;exact List.mem_of_mem_drop h
theorem aGE {cur c1 c2:Array pS}{mid vs:pN}{i n m:Nat}(hc1:c1=(cur.toList.take ((i+m)*2)++mid++cur.toList.drop ((i+m)*2+mid.length)).toArray) (hc2:c2=(c1.toList.take (i*2)++vs++c1.toList.drop (i*2+vs.length)).toArray)
  (hml:mid.length=(n-i)*2) (hvl:vs.length=m*2) (hcur:(n+m)*2<=cur.toList.length) (hin:i<=n):c2.toList.take ((n+m)*2)=cur.toList.take (i*2)++vs++mid:=by
 have e1:c1.toList=cur.toList.take ((i+m)*2)++(mid++cur.toList.drop ((i+m)*2+mid.length)):=by rw[hc1,aLV]
 have l1:(cur.toList.take ((i+m)*2)).length=(i+m)*2:=by rw[aMd];omega
 have e2:c1.toList.take (i*2)=cur.toList.take (i*2):=by
  rw[e1,aMJ pG,List.take_take,Nat.min_eq_left pG]
 have e3:c1.toList.drop (i*2+vs.length)=mid++cur.toList.drop ((i+m)*2+mid.length):=by
  rw[e1,hvl,show i*2+m*2=(cur.toList.take ((i+m)*2)).length by omega,aNq]
 have l2:(cur.toList.take (i*2)).length=i*2:=by rw[aMd];omega
 have e4:c2.toList=(cur.toList.take (i*2)++vs++mid)++cur.toList.drop ((i+m)*2+mid.length):=by rw[hc2,e2,e3];simp only[aLV]
 rw[e4,show (n+m)*2=(cur.toList.take (i*2)++vs++mid).length by simp only[aLT];omega,aM2]
theorem aGF (b n c i vb voff m vc:Nat) (cur:Array pS) (vs:pN) (w:pR) (hi:i<n) (hm:0<m) (hroom:n+m<=c) (hc63:c<=maxLen) (hvb:vb≠b)
  (hg:w.heap[b]? =some (.cells cur 111 (0,0))) (hcs:cur.size=c*2) (hvl:vs.length=m*2)
  (hvs: ∀j v,vs[j]? =some v->w.cell? ⟨vb,voff+j,none⟩=some v) (h1: ∀v∈cur.toList.take (n*2),v.oneCell'=true) (h1v: ∀v∈vs,v.oneCell'=true):
  Calls Tryz.prog 159 #[.slice (some ⟨b,0,none⟩) n c,.int .i64 i,.slice (some ⟨vb,voff,none⟩) m vc] w fun e w'=>
   e= .returned (.slice (some ⟨b,0,none⟩) (n+m) c)/\∃cur':Array pS,w'=w.drew.setRow b cur'/\cur'.size=cur.size/\cur'.toList.take ((n+m)*2)=cur.toList.take (i*2)++vs++(cur.toList.drop (i*2)).take ((n-i)*2):=by
 have u24:=aMa Tryz.underlying33;have hz1: ¬((m:Int)=0):=by omega
 have hz2: ¬((i:Int)=(n:Int)):=by omega
 have hw1:IntKind.i64.wrap ((i:Int)+(m:Int))=(i:Int)+(m:Int):=by rw[aNA];unfold maxLen at hc63;omega
 have hw2:IntKind.i64.wrap ((n:Int)+(m:Int))=(n:Int)+(m:Int):=by rw[aNA];unfold maxLen at hc63;omega
 have hb1:(0:Int)<=(i:Int)+(m:Int):=by omega
 have hin:i<=n:=by omega
 have htn:((i:Int)+(m:Int)).toNat=i+m:=by omega
 have hb2: ¬(c=i+m):=by omega
 have hb3:(i:Int)<=(n:Int)+(m:Int):=by omega
 have hb4: ¬(c=i):=by omega
 have z144: ∀w,(Go.sizeOf 111).run Tryz.prog w= .ok 2 w:=fun w=>by
  simp only[sizeOf,typeInfo,aL2,aMP,aLX];rfl
 have hsz:(Tryz.prog.info? 111).map (·.size)=some 2:=by kernel_rfl
 have hvs0:w.cell? ⟨vb,voff,none⟩=some (vs[0]'pG):=hvs 0 _ (aLZ pG);obtain⟨⟨tA,kA⟩,hsa,hkA⟩: ∃q:TypeId×Nat,w.shape? vb=some q/\q.2≠0:=by
  have h0:=hvs0;simp only[World.cell?] at h0;simp only[World.shape?];cases hh:w.heap[vb]? with
  |none=>rw[hh] at h0;simp at h0
  |some o=>
   rw[hh] at h0;cases o with
   |cells cs e fr=>
    refine⟨(e,cs.size),rfl,fun hz=> ?_⟩;have hz:cs.size=0:=hz;have:cs= #[]:=Array.eq_empty_of_size_eq_zero hz;subst this;simp at h0
   |_=>simp at h0
 have hov: ∀lb cb,(callFunc 192 #[.slice (some ⟨vb,voff,none⟩) m vc,.slice (some ⟨b,(i+m)*2,none⟩) lb cb]).run Tryz.prog w= .ok (.value (.bool false)) w:=fun lb cb=>by
  rw[run_callFunc_extern Tryz.func192 pU pU pU (e:=Extern.SlicesOverlaps.overlaps #[33,33] #[4]) pU,
   aGC w 33 4 111 Tryz.underlying33 2 z144 ⟨vb,voff,none⟩ ⟨b,(i+m)*2,none⟩ m vc lb cb hvb tA 111 kA cur.size hsa hkA (by simp [World.shape?,hg]) (fun o=>Lib.frozen_of_heap hg _) rfl]
  rfl
 have mixed:Tryz.prog.follows .mixedOrders=true:=by kernel_rfl
 obtain⟨mid,hmid⟩: ∃mid,mid=(cur.toList.drop (i*2)).take ((n-i)*2):=⟨_,rfl⟩;have hml:mid.length=(n-i)*2:=by rw[hmid,aMd,aL8,aMt];omega
 have hmin1:Nat.min (n+m-i) (n+m- (i+m))=n-i:=by simp only[Nat.min_def];split<;>omega
 have hmin2:Nat.min m (n+m-i)=m:=by simp only[Nat.min_def];split<;>omega
 obtain⟨c1,hc1⟩: ∃c1:Array pS,c1=(cur.toList.take ((i+m)*2)++mid++cur.toList.drop ((i+m)*2+mid.length)).toArray:=⟨_,rfl⟩;have hc1l:c1.size=cur.size:=by rw[hc1];simp only[aMF,aLT,aMd,aL8,aMt,hml];omega
 obtain⟨c2,hc2⟩: ∃c2:Array pS,c2=(c1.toList.take (i*2)++vs++c1.toList.drop (i*2+vs.length)).toArray:=⟨_,rfl⟩;have hc2l:c2.size=cur.size:=by rw[hc2];simp only[aMF,aLT,aMd,aL8,aMt,hc1l,hvl];omega
 have hcp1: ∀ty dc sc,(Builtin.copy_ #[33,33] ty #[.slice (some ⟨b,(i+m)*2,none⟩) (n+m- (i+m)) dc,.slice (some ⟨b,i*2,none⟩) (n+m-i) sc]).run Tryz.prog w.drew= .ok (goInt (n-i:Nat)) (w.drew.setRow b c1):=fun ty dc sc=>by
  have h:=T3 (P:=Tryz.prog) w.drew 33 33 ty 111 2 b ((i+m)*2) (n+m- (i+m)) dc ⟨b,i*2,none⟩ (n+m-i) sc cur 111 mid Tryz.underlying33 hsz hg (by rw[hml,hmin1]) (fun j v hj=>by
    rw[aNx];rw[hmid,aNd] at hj;split at hj
    .rw[List.getElem?_drop,aMT] at hj;show (w.cell? ⟨b,i*2+j,none⟩)=_;rw[Lib.cell_of_heap hg];exact hj
    .cases hj) (by rw[hml];omega) (fun v hv=>h1 v (a80 (hmid▸hv)))
  rw[h,hmin1,hc1]
 have hg1:(w.drew.setRow b c1).heap[b]? =some (.cells c1 111 (0,0)):=aNB w.drew b cur c1 _ _ hg;have hcp2: ∀ty dc,(Builtin.copy_ #[33,33] ty #[.slice (some ⟨b,i*2,none⟩) (n+m-i) dc,.slice (some ⟨vb,voff,none⟩) m vc]).run Tryz.prog (w.drew.setRow b c1)= .ok (goInt (m:Nat)) ((w.drew.setRow b c1).setRow b c2):=fun ty dc=>by
  have h:=T3 (P:=Tryz.prog) (w.drew.setRow b c1) 33 33 ty 111 2 b (i*2) (n+m-i) dc ⟨vb,voff,none⟩ m vc c1 111 vs Tryz.underlying33 hsz hg1 (by rw[hvl,hmin2]) (fun j v hj=>by
    rw[aNx,aMe (w:=w) (a:=⟨vb,voff+j,none⟩) (aNh w.drew b vb c1 hvb)];exact hvs j v hj) (by rw[hvl,hc1l];omega) h1v
  rw[h,hmin2,hc2]
 have Hmid:=Lib.hid hmid;have Hc1:=Lib.hid hc1;have Hc2:=Lib.hid hc2;have Hs1:=Lib.hid hc1l;have Hs2:=Lib.hid hc2l;have Hml:=Lib.hid hml;clear hmid hc1 hc2 hc1l hc2l hml hmin1 hmin2
 go_enter Tryz.func159,Tryz.ntmps159
 go_wp2_with (simp only[hov])
 go_region_law_o (refine step_copy_runI rfl _ _ 33 33 rfl _ _ (by simp [Act.eval,Act.put]) (by simp [Act.eval,Act.put]) (hcp1 _ _ _) ?_)
 go_wp2_with (at_builtin;refine wpList_copy_runI _ rfl _ _ 33 33 rfl _ _ rfl rfl (hcp2 _ _) ?_)
 go_ret
 refine⟨rfl,c2,?_,Hs2.out,?_⟩
 .rw[setRow_setRow]
 .rw[<-Hmid.out];exact aGE Hc1.out Hc2.out Hml.out hvl (by rw[aMt];omega) hin
theorem aGG (base:Option Addr) (n c i:Nat) (v0:Option Addr) (vc:Nat) (w:pR) (hi:i<=n) (hnc:n<=c) (hc63:c<=maxLen):
  Calls Tryz.prog 159 #[.slice base n c,.int .i64 i,.slice v0 0 vc] w fun e w'=>e= .returned (.slice base n c)/\w'=w:=by
 have u24:=aMa Tryz.underlying33
 go_enter Tryz.func159,Tryz.ntmps159
 go_wp2_with fail
 all_goals (go_ret;exact⟨rfl,rfl⟩)
theorem aGH (v:pS) (n vb voff m vc:Nat) (xs vs:pN) (w:pR) (hm:0<m) (hown:w.ownsRow 0 111 2 v n xs) (h63:n+m<=maxLen) (hby:(n+m)*32<=140737488355328)
  (hvl:vs.length=m*2) (hvs: ∀j v,vs[j]? =some v->w.cell? ⟨vb,voff+j,none⟩=some v) (h1v: ∀v∈vs,v.oneCell'=true):
  Calls Tryz.prog 159 #[v,.int .i64 n,.slice (some ⟨vb,voff,none⟩) m vc] w fun e w'=>
   ∃q cap,e= .returned (.slice (some ⟨q,0,none⟩) (n+m) cap)/\w'.ownsRow 0 111 2 (.slice (some ⟨q,0,none⟩) (n+m) cap) (n+m) (xs++vs)/\
   (q=w.heap.size\/v.ownBlock=some q)/\w.grownBy w' v.ownBlock:=by
 have u24:=aMa Tryz.underlying33;obtain⟨inf,hi,hsz,hz⟩:=CZ a8Z;have hby2:inf.bytes=32:=by
  have:(Tryz.prog.info? 111).map (·.bytes)=some 32:=by kernel_rfl
  rw[hi] at this;exact aLS this
 have hrun: ∀ty,∃q cap w',(Builtin.append_ #[33,33] ty #[v,.slice (some ⟨vb,voff,none⟩) m vc]).run Tryz.prog w= .ok (.slice (some ⟨q,0,none⟩) (n+m) cap) w'/\_:=
  fun ty=>WP (P:=Tryz.prog) w 33 ty 111 inf _ 2 32 Tryz.underlying33 hi hz hsz hby2 pV v n xs hown ⟨vb,voff,none⟩ m vc vs hvl (fun j u hj=>by rw[aNx];exact hvs j u hj) h1v hm h63 hby
 obtain⟨q,cap,w2,hr,h1,h2,h3,h4,h5⟩:=hrun 33;have H1:=Lib.hid h1;have H2:=Lib.hid h2;have H3:=Lib.hid h3;have Hown:=Lib.hid hown;have hz1: ¬((m:Int)=0):=by omega
 have hmx:n+m<=9223372036854775807:=by unfold maxLen at h63;omega
 obtain⟨hxl,hv⟩:=hown;clear h1 h2 h3 h5 hrun hz hsz hby2 hi hxl;rcases hv with⟨rfl,rfl⟩ |⟨b,c,cur,rfl,_,hbk,hnc,hcm,hcs,htk⟩
 .clear Hown;rw[aMs] at hr
  go_enter Tryz.func159,Tryz.ntmps159
  go_wp2_with (at_builtin;refine Lib.wpList_append_run _ rfl _ _ _ _ rfl _ _ rfl rfl _ _ hr ?_)
  all_goals (go_ret;exact⟨q,cap,by rw[aMs];rfl,H1.out,H2.out,H3.out⟩)
 .clear hbk hcs htk;have hcm:c<=9223372036854775807:=by unfold maxLen at hcm;omega
  go_enter Tryz.func159,Tryz.ntmps159
  go_wp2_with (at_builtin;refine Lib.wpList_append_run _ rfl _ _ _ _ rfl _ _ rfl rfl _ _ hr ?_)
  all_goals (go_ret;exact⟨q,cap,rfl,H1.out,H2.out,H3.out⟩)
theorem aGI (b n c i vb voff m vc:Nat) (cur:Array pS) (vs:pN) (w:pR) (hi:i<n) (hm:0<m) (hnc:n<=c) (hroom:c<n+m) (hbig:(n+m)*32<=140737488355328)
  (hg:w.heap[b]? =some (.cells cur 111 (0,0))) (hcs:cur.size=c*2) (hvl:vs.length=m*2)
  (hvs: ∀j v,vs[j]? =some v->w.cell? ⟨vb,voff+j,none⟩=some v) (h1: ∀v∈cur.toList.take (n*2),v.oneCell'=true) (h1v: ∀v∈vs,v.oneCell'=true):
  Calls Tryz.prog 159 #[.slice (some ⟨b,0,none⟩) n c,.int .i64 i,.slice (some ⟨vb,voff,none⟩) m vc] w fun e w'=>
   ∃G,e= .returned (.slice (some ⟨w.heap.size,0,none⟩) (n+m) G)/\w'.ownsRow 0 111 2 (.slice (some ⟨w.heap.size,0,none⟩) (n+m) G) (n+m) (cur.toList.take (i*2)++vs++(cur.toList.drop (i*2)).take ((n-i)*2))/\w.grownBy w' none:=by
 have u24:=aMa Tryz.underlying33;have mixed:Tryz.prog.follows .mixedOrders=true:=by kernel_rfl
 obtain⟨inf,hinf,hzs,hz⟩:=CZ a8Z;have hzb:inf.bytes=32:=by
  have:(Tryz.prog.info? 111).map (·.bytes)=some 32:=by kernel_rfl
  rw[hinf] at this;exact aLS this
 have hsz:(Tryz.prog.info? 111).map (·.size)=some 2:=by kernel_rfl
 have hz1: ¬((m:Int)=0):=by omega
 have hz2: ¬((i:Int)=(n:Int)):=by omega
 have hz3:(c:Int)<(n:Int)+(m:Int):=by omega
 have hbw:b<w.heap.size:=by
  rcases aMY b w.heap.size with h|h
  .exact h
  .rw[Array.getElem?_eq_none h] at hg;cases hg
 have hvw:vb<w.heap.size:=block_lt_of_cell (hvs 0 _ (aLZ pG));have hkk:(n:Int)+(m:Int)- (i:Int)=((n+m-i:Nat):Int):=by omega
 have hik:i+(n+m-i)=n+m:=by omega
 have hold:(Builtin.firstCells inf.size i (.slice (some ⟨b,0,none⟩) i c)).run Tryz.prog w.drew= .ok (cur.toList.take (i*2)).toArray w.drew:=by
  rw[hzs];exact run_firstCells_some w.drew 2 i ⟨b,0,none⟩ i c (cur.toList.take (i*2)) (by rw[aMd,aMt];omega) (fun j v hj=>by
   rw[aNx,aMs];rw[aNd] at hj;split at hj
   .rw[aMT] at hj;show w.cell? ⟨b,j,none⟩=_;rw[Lib.cell_of_heap hg];exact hj
   .cases hj)
 have hrz: ∀ty,(Builtin.append_ #[33,3] ty #[.slice (some ⟨b,0,none⟩) i c,.int .i64 ((n:Int)+(m:Int)- (i:Int))]).run Tryz.prog w=
   .ok (.slice (some ⟨w.heap.size,0,none⟩) (n+m) (grownCap w (n+m) c 111)) (w.drew.alloc (.cells ((cur.toList.take (i*2)).toArray++Builtin.zeroCells (vW (.pair .str (.pair .str .unit))).cells (n+m-i)++Builtin.zeroCells (vW (.pair .str (.pair .str .unit))).cells (grownCap w (n+m) c 111- (n+m))) 111)):=fun ty=>by
  have h:=Lib.run_append_grow_zeros (P:=Tryz.prog) w 33 3 ty 111 inf _ .i64 .i64 Tryz.underlying33 Tryz.underlying3 hinf hz (some ⟨b,0,none⟩) i c (cur.toList.take (i*2)) hold (n+m-i) pG (by rw[hzs];decide) pG pG (by rw[hzb];omega) (by rw[hzb,hik];exact growslice_fits hroom hbig);rw[hik] at h;rw[hkk];exact h
 obtain⟨G,hG⟩: ∃G,G=grownCap w (n+m) c 111:=⟨_,rfl⟩;obtain⟨ROW,hROW⟩: ∃ROW:Array pS,ROW=(cur.toList.take (i*2)).toArray++Builtin.zeroCells (vW (.pair .str (.pair .str .unit))).cells (n+m-i)++Builtin.zeroCells (vW (.pair .str (.pair .str .unit))).cells (G- (n+m)):=⟨_,rfl⟩;rw[<-hG] at hrz;rw[<-hROW] at hrz;have hGn:n+m<=G:=by rw[hG];exact grownCap_ge w _ _ _
 have hGm:G<=maxLen:=by rw[hG];exact grownCap_le_maxLen w (n+m) c _ (by unfold maxLen;omega)
 have hzc:(vW (.pair .str (.pair .str .unit))).cells.size=2:=rfl;have hRl:ROW.size=G*2:=by
  rw[hROW];simp only[aNL,aMF,size_zeroCells,hzc,aMd,aMt];omega
 have hRt:ROW.toList.take (i*2)=cur.toList.take (i*2):=by
  rw[hROW];simp only[Array.toList_append,aLV];rw[aMJ (by rw[aMd,aMt];omega),List.take_take,Nat.min_self]
 obtain⟨q,hq⟩: ∃q,q=w.heap.size:=⟨_,rfl⟩;obtain⟨mid,hmid⟩: ∃mid,mid=(cur.toList.drop (i*2)).take ((n-i)*2):=⟨_,rfl⟩;have hml:mid.length=(n-i)*2:=by rw[hmid,aMd,aL8,aMt];omega
 have hmin1:Nat.min m (n+m-i)=m:=by simp only[Nat.min_def];split<;>omega
 have hmin2:Nat.min (n-i) (n+m- (i+m))=n-i:=by simp only[Nat.min_def];split<;>omega
 obtain⟨c1,hc1⟩: ∃c1:Array pS,c1=(ROW.toList.take (i*2)++vs++ROW.toList.drop (i*2+vs.length)).toArray:=⟨_,rfl⟩;have hc1l:c1.size=G*2:=by rw[hc1];simp only[aMF,aLT,aMd,aL8,aMt,hRl,hvl];omega
 obtain⟨c2,hc2⟩: ∃c2:Array pS,c2=(c1.toList.take ((i+m)*2)++mid++c1.toList.drop ((i+m)*2+mid.length)).toArray:=⟨_,rfl⟩;have hc2l:c2.size=G*2:=by rw[hc2];simp only[aMF,aLT,aMd,aL8,aMt,hc1l,hml];omega
 obtain⟨W1,hW1⟩: ∃W1,W1=w.drew.alloc (.cells ROW 111):=⟨_,rfl⟩;rw[<-hW1] at hrz;have hbq:b≠q:=by omega
 have hvq:vb≠q:=by omega
 have hg1:W1.heap[q]? =some (.cells ROW 111 (0,0)):=by rw[hW1,hq];exact aNM w.drew _
 have hO1: ∀k,k<w.heap.size->W1.heap[k]? =w.heap[k]? :=fun k hk=>by rw[hW1];exact aMp w.drew _ k hk
 have hcpA: ∀(W:pR),W.heap=W1.heap->∀ty dc,(Builtin.copy_ #[33,33] ty #[.slice (some ⟨q,i*2,none⟩) (n+m-i) dc,.slice (some ⟨vb,voff,none⟩) m vc]).run Tryz.prog W= .ok (goInt (m:Nat)) (W.setRow q c1):=fun W hW ty dc=>by
  have h:=T3 (P:=Tryz.prog) W 33 33 ty 111 2 q (i*2) (n+m-i) dc ⟨vb,voff,none⟩ m vc ROW 111 vs Tryz.underlying33 hsz (by rw[hW];exact hg1) (by rw[hvl,hmin1]) (fun j v hj=>by
    rw[aNx,aMe (w:=w) (a:=⟨vb,voff+j,none⟩) (by rw[hW];exact hO1 vb hvw)];exact hvs j v hj) (by rw[hvl,hRl];omega) h1v
  rw[h,hmin1,hc1]
 have hcpB: ∀(W:pR),W.heap=(W1.setRow q c1).heap->∀ty dc sc,(Builtin.copy_ #[33,33] ty #[.slice (some ⟨q,(i+m)*2,none⟩) (n+m- (i+m)) dc,.slice (some ⟨b,i*2,none⟩) (n-i) sc]).run Tryz.prog W= .ok (goInt (n-i:Nat)) (W.setRow q c2):=fun W hW ty dc sc=>by
  have h:=T3 (P:=Tryz.prog) W 33 33 ty 111 2 q ((i+m)*2) (n+m- (i+m)) dc ⟨b,i*2,none⟩ (n-i) sc c1 111 mid Tryz.underlying33 hsz (by rw[hW];exact aNB W1 q ROW c1 _ _ hg1) (by rw[hml,hmin2]) (fun j v hj=>by
    rw[aNx,aMe (w:=w) (a:=⟨b,i*2+j,none⟩) (by rw[hW,aNh W1 q b c1 hbq];exact hO1 b hbw),Lib.cell_of_heap hg];rw[hmid,aNd] at hj;split at hj
    .rw[List.getElem?_drop,aMT] at hj;exact hj
    .cases hj) (by rw[hml,hc1l];omega) (fun v hv=>h1 v (a80 (hmid▸hv)))
  rw[h,hmin2,hc2]
 have hGi: ¬(G=i):=by omega
 have hGim: ¬(G=i+m):=by omega
 have hci: ¬(c=i):=by omega
 have hw1:IntKind.i64.wrap ((i:Int)+(m:Int))=(i:Int)+(m:Int):=by rw[aNA];omega
 have hw2:IntKind.i64.wrap ((n:Int)+(m:Int))=(n:Int)+(m:Int):=by rw[aNA];omega
 have hw3:IntKind.i64.wrap ((n:Int)+(m:Int)- (i:Int))=(n:Int)+(m:Int)- (i:Int):=by rw[aNA];omega
 have hb1:(0:Int)<=(i:Int)+(m:Int):=by omega
 have hin:i<=n:=by omega
 have htn:((i:Int)+(m:Int)).toNat=i+m:=by omega
 have hb3:(i:Int)<=(n:Int):=by omega
 have hG63:G<=9223372036854775807:=by unfold maxLen at hGm;omega
 rw[<-hq] at hrz|-;have hend: ∀W:pR,W.heap=((W1.setRow q c1).setRow q c2).heap->W.os=w.os->W.tape=w.tape->W.output=w.output->
   W.ownsRow 0 111 2 (.slice (some ⟨q,0,none⟩) (n+m) G) (n+m) (cur.toList.take (i*2)++vs++mid)/\w.grownBy W none:=fun W hW e1 e2 e3=>by
  have hg2:W.heap[q]? =some (.cells c2 111 (0,0)):=by rw[hW];exact aNB (W1.setRow q c1) q c1 c2 _ _ (aNB W1 q ROW c1 _ _ hg1)
  have hs:w.heap.size<=W.heap.size:=by
   have:=(aMi.1 hg2).1;omega
  refine⟨⟨?_,.inr ⟨q,G,c2,rfl,aMR _,hg2,hGn,hGm,hc2l,?_⟩⟩,⟨e1,e2,e3,hs,fun k hk _=> ?_⟩⟩
  .simp only[aLT,aMd,aMt,hml,hvl];omega
  .have x1:c1.toList=cur.toList.take (i*2)++vs++ROW.toList.drop (i*2+vs.length):=by rw[hc1,hRt]
   have l1:(cur.toList.take (i*2)++vs).length=(i+m)*2:=by rw[aLT,aMd,aMt,hvl];omega
   have x2:c2.toList=cur.toList.take (i*2)++vs++mid++c1.toList.drop ((i+m)*2+mid.length):=by
    rw[hc2];show c1.toList.take ((i+m)*2)++mid++_=_;rw[x1,<-l1,aM2]
   rw[x2,show (n+m)*2=(cur.toList.take (i*2)++vs++mid).length by rw[aLT,l1,hml];omega,aM2]
  .rw[hW,aNh _ q k c2 pG,aNh _ q k c1 pG];exact hO1 k hk
 have Hmid:=Lib.hid hmid;have Hq:=Lib.hid hq;have Hend:=Lib.hid hend;have HW1:=Lib.hid hW1;clear hkk hik hold hROW hG hRl hmid hq hend hW1 hc1 hc2 hc1l hc2l hml hmin1 hmin2 hz hzs hzb hinf hRt hg1 hO1
 go_enter Tryz.func159,Tryz.ntmps159
 go_wp2_with (first
  |(at_builtin;refine Lib.wpList_append_run _ rfl _ _ _ _ rfl _ _ rfl rfl _ _ (hrz _) ?_)
  |(at_builtin;refine wpList_copy_runI _ rfl _ _ 33 33 rfl _ _ rfl rfl (hcpA _ rfl _ _) ?_))
 go_region_law_o (refine step_copy_runI rfl _ _ 33 33 rfl (.slice (some ⟨q,(i+m)*2,none⟩) (n+m- (i+m)) (G- (i+m))) (.slice (some ⟨b,i*2,none⟩) (n-i) (c-i)) (by simp [Act.eval,Act.put]) (by simp [Act.eval,Act.put]) (hcpB (W1.setRow q c1).drew rfl _ (G- (i+m)) (c-i)) ?_)
 go_wp2_with fail
 go_ret
 rw[<-Hmid.out];exact⟨G,rfl,Hend.out _ rfl (by rw[HW1.out];rfl) (by rw[HW1.out];rfl) (by rw[HW1.out];rfl)⟩
theorem aGJ (v:pS) (n i m vc:Nat) (v0:Option Addr) (xs vs:pN) (w:pR) (hin:i<=n) (hown:w.ownsRow 0 111 2 v n xs) (hby:(n+m)*32<=140737488355328)
  (h1: ∀u∈xs,u.oneCell'=true) (hv0:m=0\/∃vb voff,v0=some ⟨vb,voff,none⟩/\v.ownBlock≠some vb/\∀j u,vs[j]? =some u->w.cell? ⟨vb,voff+j,none⟩=some u)
  (hvl:vs.length=m*2) (h1v: ∀v∈vs,v.oneCell'=true):
  Calls Tryz.prog 159 #[v,.int .i64 i,.slice v0 m vc] w fun e w'=>
   ∃v',e= .returned v'/\w'.ownsRow 0 111 2 v' (n+m) (xs.take (i*2)++vs++xs.drop (i*2))/\(m=0->v'=v)/\(∀b,v'.ownBlock=some b->b=w.heap.size\/v.ownBlock=some b)/\w.grownBy w' v.ownBlock:=by
 have h63:n+m<=maxLen:=by unfold maxLen;omega
 rcases Nat.eq_zero_or_pos m with hm|hm
 .subst hm;have hvs:vs=[]:=aNg.1 pG;subst hvs;have hres:w.ownsRow 0 111 2 v (n+0) (xs.take (i*2)++[]++xs.drop (i*2)):=by
   rw[List.append_nil,aNk];exact hown
  obtain⟨base,c,rfl,hnc,hc⟩: ∃base c,v= .slice base n c/\n<=c/\c<=maxLen:=by
   rcases hown.2 with⟨rfl,rfl⟩ |⟨b,c,cur,rfl,_,_,h2,h3,_⟩
   .exact⟨none,0,rfl,aMc _,by unfold maxLen;omega⟩
   .exact⟨_,c,rfl,h2,h3⟩
  refine(aGG base n c i v0 vc w hin hnc hc).mono ?_;rintro e w' ⟨rfl,rfl⟩;exact⟨_,rfl,hres,fun _=>rfl,fun b hb=> .inr hb,World.grownBy.refl _ _⟩
 .obtain⟨vb,voff,rfl,hvb,hvs⟩: ∃vb voff,v0=some ⟨vb,voff,none⟩/\v.ownBlock≠some vb/\∀j u,vs[j]? =some u->w.cell? ⟨vb,voff+j,none⟩=some u:=by
   rcases hv0 with h|h
   .omega
   .exact h
  have hxl:=hown.1;rcases aMY i n with hlt|hge
  .rcases hown.2 with⟨rfl,rfl⟩ |⟨b,c,cur,rfl,_,hbk,hnc,hcm,hcs,htk⟩
   .omega
   .have hb:vb≠b:=fun h=>hvb (by rw[h];rfl);have hx1:cur.toList.take (i*2)=xs.take (i*2):=by rw[<-htk,List.take_take,Nat.min_eq_left pG]
    have hx2:(cur.toList.drop (i*2)).take ((n-i)*2)=xs.drop (i*2):=by rw[aGD hin,htk]
    rcases aMY c (n+m) with hr|hr
    .refine(aGI b n c i vb voff m vc cur vs w hlt hm hnc hr hby hbk hcs hvl hvs (by rw[htk];exact h1) h1v).mono ?_;rintro e w' ⟨G,rfl,ho,hg⟩;rw[hx1,hx2] at ho;exact⟨_,rfl,ho,fun h=>by omega,fun b hb=> .inl (by simpa[Value.ownBlock] using hb.symm),⟨hg.os,hg.tape,hg.output,hg.size,fun k hk _=>hg.block k hk pI⟩⟩
    .refine(aGF b n c i vb voff m vc cur vs w hlt hm hr hcm hb hbk hcs hvl hvs (by rw[htk];exact h1) h1v).mono ?_;rintro e w' ⟨rfl,cur',rfl,hs,ht⟩;rw[hx1,hx2] at ht;refine⟨_,rfl,⟨?_,.inr ⟨b,c,cur',rfl,aMR _,aNB w.drew b cur cur' _ _ hbk,hr,hcm,by rw[hs,hcs],ht⟩⟩,fun h=>by omega,fun b' hb'=> .inr hb',⟨rfl,rfl,rfl,by simp,fun k hk hne=>aNh w.drew b k cur' (fun h=>hne (by rw[h];rfl))⟩⟩;simp only[aLT,aMd,aL8,hxl,hvl];omega
  .obtain rfl:i=n:=by omega
   refine(aGH v i vb voff m vc xs vs w hm hown h63 hby hvl hvs h1v).mono ?_;rintro e w' ⟨q,cap,rfl,ho,hq,hg⟩;refine⟨_,rfl,?_,fun h=>by omega,fun b hb=> ?_,hg⟩
   .rw[<-hxl,List.take_length,aMU,List.append_nil];exact ho
   .have hb:q=b:=by simpa[Value.ownBlock] using hb
    exact hb▸hq
theorem a81 {α:Type}{R:α->pN->Prop}{c:Nat}: ∀{l:List α}{cs:pN}(i:Nat),tV R c l cs->tV R c (l.take i) (cs.take (i*c))
 |_,_,0,_=>by simp [tV]
 |[],_,_+1,h=>by rw[show _=[] from h];simp [tV]
 |x::l,_,i+1,⟨c1,c2,e,h1,h2,h3⟩=>by
  refine⟨c1,c2.take (i*c),?_,h1,h2,a81 i h3⟩;rw[e,aMX,Nat.add_comm,<-h1,List.take_length_add_append]
theorem a82 {α:Type}{R:α->pN->Prop}{c:Nat}: ∀{l:List α}{cs:pN}(i:Nat),tV R c l cs->tV R c (l.drop i) (cs.drop (i*c))
 |_,_,0,h=>by simpa using h
 |[],_,_+1,h=>by rw[show _=[] from h];simp [tV]
 |x::l,_,i+1,⟨c1,c2,e,h1,h2,h3⟩=>by
  rw[e,show (i+1)*c=c1.length+i*c by rw[h1,aMX,Nat.add_comm],List.drop_length_add_append];exact a82 i h3
def AP {t:Type}(l:List t) (i:Int) (v:List t):List t:=List.take i.toNat l++v++List.drop i.toNat l
@[go_sem] def OB:List qC->List q9->Option qI
 |[(.own 0 O,none),(.val (.int .i64) Z,none),(.val (.list (.pair .str (.pair .str .unit))) aA,none)],[.row 111 (.pair .str (.pair .str .unit)) aB aC]=>
  some ⟨[O=aC,0<=Z/\Z<=List.length aB,(List.length aB+List.length aA)*32<=140737488355328],[(.own 0 (List.length (AP aB Z aA)),none)],[.row 111 (.pair .str (.pair .str .unit)) (AP aB Z aA) (List.length (AP aB Z aA))]⟩
 |_,_=>none
theorem YF:xR Tryz.prog 159 OB:=by
 refine⟨fun _ _=>rfl,fun g w args vals L r hH ha hC hs=> ?_⟩;unfold OB at hC;split at hC
 .rename_i n iI vl l n2;cases hC;obtain rfl:n=n2:=hs _ pI;obtain⟨hi0,hil⟩:=hs (0<=iI/\iI<=List.length l) pI;have hby:=hs ((List.length l+List.length vl)*32<=140737488355328) pI;clear hs;obtain⟨va,_,rfl,ra,vb,_,rfl,rb,vc,_,rfl,rc,hv⟩:=ha;cases hv;have hg0:qD (qM 0 [q9.row 111 (.pair .str (.pair .str .unit)) l n]) 0=some (.row 111 (.pair .str (.pair .str .unit)) l n):=rfl;obtain⟨hl,v,xs,hcur,hown,hF,hnone,hseal⟩:=hH.blk 0 _ hg0;have hva:va=v:=by
   have:=ra.1.1;rw[hcur] at this;exact(aLS this).symm
  subst hva;obtain⟨i,rfl⟩:=Int.eq_ofNat_of_zero_le hi0;have hvb:vb= .int .i64 i:=w7 rb.1;subst hvb;obtain⟨a,cap,rfl,hcap,hlist⟩:=CY rc.1;have hRone: ∀(x:(Ty.pair .str (.pair .str .unit)).den) cs,Rd g w (.pair .str (.pair .str .unit)) x cs->∀v∈cs,v.oneCell'=true:=fun x cs h=>A3 h;obtain⟨vs,hFv,hv0⟩: ∃vs,tV (Rd g w (.pair .str (.pair .str .unit))) 2 vl vs/\(vl.length=0\/∃vb voff,a=some ⟨vb,voff,none⟩/\va.ownBlock≠some vb/\∀j u,vs[j]? =some u->w.cell? ⟨vb,voff+j,none⟩=some u):=by
   rcases hlist with rfl|⟨b,o,rfl,hL⟩
   .exact⟨[],rfl,.inl rfl⟩
   .obtain⟨cs,h1,h2,h3⟩:=KQ hL;rcases Nat.eq_zero_or_pos vl.length with h0|h0
    .exact⟨cs,h1,.inl h0⟩
    .exact⟨cs,h1,.inr ⟨b,o,rfl,fun hb=>hseal b hb _ (h3 0 (Nat.mul_pos h0 pH)),h2⟩⟩
  have hvl:=GO hFv;have hil2:(i:Int)<=(l.length:Int):=hil;have hil':i<=n:=by omega
  subst hl;refine(aGJ va l.length i vl.length cap a xs vs w pG hown hby (NL hRone hF) hv0 hvl (NL hRone hFv)).mono ?_;rintro e w' ⟨v',rfl,hown',hm0,hob,hgr⟩;have hlen:(AP l (i:Int) vl).length=l.length+vl.length:=by
   simp only[AP,aMK,aLT,aMd,aL8];omega
  have hF':tV (Rd g w (.pair .str (.pair .str .unit))) 2 (AP l (i:Int) vl) (xs.take (i*2)++vs++xs.drop (i*2)):=by
   unfold AP;rw[aMK];exact NE (NE (a81 i hF) hFv) (a82 i hF)
  have hsl: ∀b o,g.S b o->w'.cell? ⟨b,o,none⟩=w.cell? ⟨b,o,none⟩:=fun b o h=>aMe (a:=⟨b,o,none⟩) (hgr.block b (hH.sl b o h) (fun e=>hseal b e.symm o h));have hE:=sB.row (side:=[]) (rds:=[]) (s:=(.own 0 (AP l (i:Int) vl).length,none)) (val:=v') (k:=0) (g:=g) (w:=w) (H:=qM 0 [q9.row 111 (.pair .str (.pair .str .unit)) l l.length]) hH (e:=111) (t:= .pair .str (.pair .str .unit)) (l:=AP l (i:Int) vl) (n:=(AP l (i:Int) vl).length) (v:=v') rfl (by rw[hlen];exact hown') hF'
   (fun m hm=>hnone m pG) (fun u hu=>by
    rcases Nat.eq_zero_or_pos vl.length with h0|h0
    .rw[hlen,h0,aM7,hcur] at hu;rw[hm0 h0];exact(aLS hu).symm
    .rw[hnone _ pG] at hu;cases hu)
   (.inr ⟨va.ownBlock,hgr,fun b hb o=>⟨0,_,by simp,hg0,va,hcur,hb⟩⟩) hsl
   (fun b hb o hS=>by
    rcases hob b hb with h|h
    .have:=hH.sl b o hS;omega
    .exact hseal b h o hS)
   (fun b hb=>(hob b hb).imp (fun h=>by omega) fun h o=>⟨0,_,by simp,hg0,va,hcur,h⟩)
   ⟨⟨by simp [Gh.tok],by
    rw[hlen];rcases hown'.2 with⟨rfl,h⟩ |⟨b,cap',_,rfl,_,_,h,_⟩
    .exact .inl ⟨rfl,h⟩
    .exact .inr ⟨b,cap',rfl,h⟩⟩,trivial⟩
  refine⟨v',_,rfl,⟨fun b o h=>⟨hE.le.S b o h,hE.le.cell b o h⟩,hE.heap.ext ?_,hE.slot,hE.fr.mono fun b o ⟨i,blk,_,h1,h2⟩=>⟨i,blk,h1,h2⟩,fun i blk b o hi ho=> ?_,fun i t x ts h=> ?_,fun i t x ts u y us h _=> ?_,fun _ _ _ h=>h,fun i m u hi h=> ?_⟩⟩
  .intro i
   match i with
   |0=>rfl
   |i+1=>rfl
  .match i,hi with
   |0,hi=>
    cases hi;exact(hE.perm 0 _ b o (by simp [qG]) rfl ho).imp id fun⟨i,blk,_,h1,h2⟩=>⟨i,blk,h1,h2⟩
   |i+1,hi=>simp at hi
  .match i,h with
   |0,h=>cases h
   |i+1,h=>simp at h
  .match i,h with
   |0,h=>cases h
   |i+1,h=>simp at h
  .exact hE.le.cur i m u h
 .cases hC
end Go.Proofs.YtkpflnijijccpaaGreatDoor
namespace Go.Proofs.YtkpflnijijccpaaGreatDoor.Vc
open Go.RowKit
@[go_sem] def YG (np:Nat):DV->Bool
 | .any=>true
 | .nilS=>true
 | .val .ref (some (i,_))=>decide (i<np)
 | .val .ref none=>true
 | .val t _=>t.pure
 |_=>false
@[go_sem] def T4 (np:Nat):qC->Bool
 |(d,none)=>YG np d
 |(.val (.list t) _,some k)=>t.pure&&decide (k<np)
 |_=>false
@[go_sem] def GW (np:Nat):List (Nat×qC)->Bool
 |[]=>true
 |(_,s)::r=>T4 np s&&GW np r
theorem a83 {np:Nat}: ∀{env:List (Nat×qC)},GW np env=true->∀t,T4 np (lk env t)=true
 |[],_,t=>rfl
 |(k,s)::r,h,t=>by
  simp only[GW,aMb] at h;unfold lk;split
  .exact h.1
  .exact a83 h.2 t
theorem aGK {np:Nat}{g g':Gh}{w:pR}(hS:g'.S=g.S) (hJ: ∀i,i<np->g'.J i=g.J i) (hC: ∀i n,i<np->g'.cur i n=g.cur i n) {s:qC}{v:pS}(hp:T4 np s=true) (h:rJ g w s v):rJ g' w s v:=by
 have hV: ∀{t:Ty}{x:t.den},t.pure=true->tJ g w t x v->tJ g' w t x v:=fun ht hv=>by
  rcases hv with⟨h1,cs,h2,h3⟩ |⟨h1,h2⟩
  .exact .inl ⟨h1,cs,h2,vT hS ht h3⟩
  .exact .inr ⟨h1,vT hS ht h2⟩
 have hD: ∀d,YG np d=true->zH g w d v->zH g' w d v:=by
  intro d hd hr;unfold YG at hd;split at hd
  .trivial
  .exact hr
  .rename_i i o;have hi:=aMv hd;rcases hr with⟨h1,_⟩ |⟨h1,h2⟩
   .cases h1
   .refine .inr ⟨h1,?_⟩;obtain⟨p,hp1,hp2⟩:=h2;exact⟨p,(hJ i hi).trans hp1,hp2⟩
  .rcases hr with⟨h1,_⟩ |⟨h1,h2⟩
   .cases h1
   .exact .inr ⟨h1,h2⟩
  .exact hV hd hr
  .cases hd
 obtain⟨d,k⟩:=s;cases k with
 |none=>exact⟨hD d hp h.1,trivial⟩
 |some k=>
  unfold T4 at hp;split at hp
  .rename_i heq;cases heq
  .rename_i t x k' heq;cases heq;simp only[aMb,aMj] at hp;exact⟨hV (t:= .list t) hp.1 h.1,(hC k _ hp.2).trans h.2⟩
  .cases hp
theorem aGL {np:Nat}{g g':Gh}{w w':pR}{env:List (Nat×qC)}{tmps:Array pS}(h:A5 g w env tmps) (hp:GW np env=true) (hS: ∀b o,g.S b o->g'.S b o) (hc: ∀b o,g.S b o->w'.cell? ⟨b,o,none⟩=w.cell? ⟨b,o,none⟩)
  (hJ: ∀i p,i<np->g.J i=some p->g'.J i=some p) (hC: ∀i n v,i<np->g.cur i n=some v->g'.cur i n=some v):A5 g' w' env tmps:=fun t=>by
 have le:Le g w ⟨g'.S,fun i=>if i<np then g'.J i else g.J i,fun i n=>if i<np then g'.cur i n else g.cur i n⟩ w':=by
  refine⟨hS,hc,fun i p hi=> ?_,fun i n v hi=> ?_⟩
  .show (if i<np then _ else _)=_;split
   .rename_i hlt;exact hJ i p hlt hi
   .exact hi
  .show (if i<np then _ else _)=_;split
   .rename_i hlt;exact hC i n v hlt hi
   .exact hi
 exact aGK (np:=np) (g:=⟨g'.S,fun i=>if i<np then g'.J i else g.J i,fun i n=>if i<np then g'.cur i n else g.cur i n⟩) (g':=g') rfl (fun i hi=>(aLQ hi).symm) (fun i n hi=>by show g'.cur i n=(if i<np then g'.cur i n else g.cur i n);rw[aLQ hi]) (a83 hp t) (C6 le (h t))
theorem tP.inner {A A':Nat->Nat->Prop}{L L':List q9}{g0 g g':Gh}{w0 w w':pR}{H H':s0}(h:tP A L g0 w0 g w H) (k:tP A' L' g w g' w' H') (hA: ∀b o,A' b o->w.heap.size<=b\/xQ g H b o) (hl:L.length<=L'.length)
  (hL: ∀i,i<L.length->∀b,L'[i]? =some b->qD H i=some b):tP A L g0 w0 g' w' H':=by
 have own: ∀b o,A' b o->w0.heap.size<=b\/A b o:=fun b o x=>by
  rcases hA b o x with h1|⟨i,blk,h1,h2⟩
  .exact .inl (aMN h.fr.size h1)
  .exact h.perm i blk b o h1 h2
 refine⟨fun b o x=> ?_,h.fr.trans k.fr own,fun i blk b o h1 h2=> ?_,fun i p hi hp=>k.J i p pG (h.J i p hi hp),fun i hi=>k.live i pG,fun i u y us hi hg=> ?_,fun i n v hi hv=>k.cur i n v pG (h.cur i n v hi hv)⟩
 .obtain⟨h1,h2⟩:=h.shut b o x;obtain⟨k1,k2⟩:=k.shut b o h1;exact⟨k1,k2.trans h2⟩
 .rcases k.perm i blk b o h1 h2 with h3|h3
  .exact .inl (aMN h.fr.size h3)
  .exact own b o h3
 .obtain⟨x,ts,hx⟩:=k.ty i u y us pG hg;exact h.ty i u x ts hi (hL i hi _ hx)
theorem tP.start {g:Gh}{w:pR}{H:s0}{L':List q9}(hH:sG g w H) (hL: ∀i b,L'[i]? =some b->qD H i=some b/\b≠.dead) (hty: ∀i,i<L'.length->∀b,qD H i=some b->L'[i]? =some b):tP (xQ g H) L' g w g w H:=by
 refine⟨fun b o h=>⟨h,rfl⟩,Fr.refl _ _ _,fun i blk b o hg ho=> .inr ⟨i,blk,hg,ho⟩,fun _ _ _ h=>h,fun i hi=> ?_,fun i u y us hi hg=>⟨y,us,hty i hi _ hg⟩,fun _ _ _ _ h=>h⟩;obtain⟨h1,h2⟩:=hL i L'[i] pI;have hbk:=hH.blk i _ h1;generalize L'[i]=blk at hbk h2;cases blk with
 |cells t x ts=>obtain⟨p,cs,hp,_⟩:=hbk;exact .inl ⟨p,hp⟩
 |grow e c n=>obtain⟨v,xs,hv,_⟩:=hbk;exact .inr ⟨n,v,hv⟩
 |row e t l n=>obtain⟨_,v,xs,hv,_⟩:=hbk;exact .inr ⟨n,v,hv⟩
 |map k v l=>obtain⟨p,es,cl,hp,_⟩:=hbk;exact .inl ⟨p,hp⟩
 |iter s n=>obtain⟨p,hp,_⟩:=hbk;exact .inl ⟨p,hp⟩
 |dead=>exact absurd rfl h2
@[go_sem] def F9 (env:List (Nat×qC)):pQ->List qC->List (Nat×qC)
 |p::ps,s::ss=>F9 (u7 (some p) s env) ps ss
 |_,_=>env
theorem a84 {g:Gh}{w:pR}: ∀{ps:pQ}{ss:List qC}{vs:pN}{env:List (Nat×qC)}{tmps:Array pS},A5 g w env tmps->(∀p∈ps,p<tmps.size)->uX g w ss vs->ps.length=ss.length->
  A5 g w (F9 env ps ss) ((ps.zip vs).foldl (fun t (q:Nat×pS)=>t.setIfInBounds q.1 q.2) tmps)/\((ps.zip vs).foldl (fun t (q:Nat×pS)=>t.setIfInBounds q.1 q.2) tmps).size=tmps.size
 |[],[],vs,env,tmps,h,_,ha,_=>by
  have:vs=[]:=ha;subst this;exact⟨h,rfl⟩
 |p::ps,s::ss,vs,env,tmps,h,hp,ha,hl=>by
  obtain⟨v,vs',rfl,h1,h2⟩:=ha;have hput:A5 g w (u7 (some p) s env) (tmps.setIfInBounds p v):=XK (a:={tmps:=tmps,defers:=[]}) (o:=⟨some p,.move (.tmp 0),0, "",#[],none⟩) (N:=tmps.size) h (Le.refl g w) h1 rfl (by simpa[GJ] using hp p pI)
  have:=a84 (tmps:=tmps.setIfInBounds p v) hput (fun q hq=>by simpa using hp q (aL5 _ hq)) h2 (by simpa using hl);exact⟨this.1,by rw[List.zip_cons_cons,List.foldl_cons];rw[this.2];simp⟩
def OC (P:Program) (gf:Nat) (u:Ty) {ι:Type}(pre:u.den->Prop) (items:u.den->List ι) (vl:ι->pN):Prop:=
 (∀args w,(callFunc gf args).run P w= .ok (.enter gf args) w)/\
 ∀(l b o:Nat) (x:u.den) (cs:pN) (g:Gh) (W0:pR) (J:Nat->pR->Prop) (Jx:pR->Prop),pre x->Rd g W0 u x cs->
  (∀i W,J i W->W.rangeAt b o cs/\∀b o,g.S b o->W.cell? ⟨b,o,none⟩=W0.cell? ⟨b,o,none⟩)->
  (∀i W W',J i W->Below W.heap.size W W'->J i W')->(∀W W',Jx W->Below W.heap.size W W'->Jx W')->(∀i W,J i W->CP W)->
  (∀i it V W,(items x)[i]? =some it->J i V->Below V.heap.size V W->YieldAt Fence.wide 0 P l (vl it).toArray W fun e W'=>((e= .returned (.bool true)/\J (i+1) W')\/(e= .returned (.bool false)/\Jx W'))/\
   ∀D,V.heap.size<=D->D<W.heap.size->W'.heap[D]? =W.heap[D]?)->
  ∀W,J 0 W->Calls P gf #[.func (.yield l) #[] #[],.pointer (some ⟨b,o,none⟩)] W fun e W'=>(∃v,e= .returned v)/\(J (items x).length W'\/Jx W')
theorem aGM {F:Fence}{m:Nat}{P:Program}{l:Nat}{args:Array pS}{W:pR}{R R':Ending->pR->Prop}(h:YieldAt F m P l args W R) (hr: ∀e W',R e W'->R' e W'):YieldAt F m P l args W R':=by
 obtain⟨fn,tmps,assign,body,h1,h2⟩:=h;exact⟨fn,tmps,assign,body,h1,h2.mono hr⟩
def xF {ι σ ρ:Type}(f:ι->σ->Option (σ⊕ρ)):List ι->σ->Option (σ⊕ρ)
 |[],x=>some (.inl x)
 |it::r,x=>(f it x).bind fun w=>match w with
  | .inl x'=>xF f r x'
  | .inr y=>some (.inr y)
theorem aGN {ι σ ρ:Type}{f:ι->σ->Option (σ⊕ρ)}{it:ι}{r:List ι}{x:σ}{y:σ⊕ρ}(h:xF f (it::r) x=some y): ∃w,f it x=some w/\(∀x',w= .inl x'->xF f r x'=some y)/\(∀z,w= .inr z->y= .inr z):=by
 unfold xF at h;cases hf:f it x with
 |none=>rw[hf] at h;cases h
 |some w=>
  rw[hf] at h;refine⟨w,rfl,fun x' e=> ?_,fun z e=> ?_⟩
  .subst e;exact h
  .subst e;exact(aLS h).symm
def qA (st:St):Ex->St->Prop
 | .normal,s=> ∃k:vS,s.keep k=st
 |_,_=>False
def qF {σ ρ:Type}(encH:σ->List q9) (E0:List (Nat×qC)) (N np np':Nat) (w:σ⊕ρ) (Q:Ex->St->Prop):Ex->St->Prop
 | .normal,s=> ∃(k:vS) (x:σ),w= .inl x/\s.keep k=⟨[],qM 0 (encH x),r5 (encH x),N,np'⟩
 |e,s=> ∃(k:vS) (B:List q9),s.keep k=⟨[],qM 0 B,r5 B,N,np'⟩/\(∃z,w= .inr z)/\Q e ⟨E0,qM 0 B,r5 B,N,np⟩
section
variable {B:Nat}{A:Nat->Nat->Prop}{L:List q9}{g0 g:Gh}{w0 w:pR}{b0 o0 n0:Nat}{cs:pN}{E0:List (Nat×qC)}{tmps:Array pS}{ds:List Deferred}
structure D4 (B:Nat) (A:Nat->Nat->Prop) (L:List q9) (g0:Gh) (w0:pR) (g:Gh) (w:pR) (b0 o0 n0:Nat) (cs:pN) (E0:List (Nat×qC)) (tmps:Array pS) (ds:List Deferred) (g1:Gh) (W:pR) (H:s0):Prop where
 env:A5 g1 W E0 tmps
 heap:sG g1 W H
 good:tP A L g0 w0 g1 W H
 sld: ∀b o,g.S b o->g1.S b o/\W.cell? ⟨b,o,none⟩=w.cell? ⟨b,o,none⟩
 rng:W.rangeAt b0 o0 cs
 len:cs.length=n0
 lt:0<n0->b0<W.heap.size
 out: ∀o,o0<=o->o<o0+n0->¬xQ g1 H b0 o
 defs:yY B W ds
theorem D4.turn {g1:Gh}{W W2:pR}{H:s0}(h:D4 B A L g0 w0 g w b0 o0 n0 cs E0 tmps ds g1 W H) (t:uZ w0.heap.size W W2) {ds':List Deferred}(hd:yY B W2 ds'):D4 B A L g0 w0 g w b0 o0 n0 cs E0 tmps ds' g1 W2 H:=by
 refine⟨fun x=>C6 (t.le h.heap.sl) (h.env x),t.heapOk h.heap,h.good.turn h.heap.sl t,fun b o x=>⟨(h.sld b o x).1,(t.cell (h.heap.sl b o (h.sld b o x).1) o).1.trans (h.sld b o x).2⟩,fun j v hv=> ?_,h.len,fun x=>aMu (h.lt x) t.size,h.out,hd⟩;have hj:j<cs.length:=(aL1.1 hv).1;have:=h.len;exact(t.cell (h.lt pG) _).1.trans (h.rng j v hv)
theorem D4.inner {g1 g2:Gh}{W W2:pR}{H H2:s0}{L':List q9}{np':Nat}(h:D4 B A L g0 w0 g w b0 o0 n0 cs E0 tmps ds g1 W H) (k:tP (xQ g1 H) L' g1 W g2 W2 H2) (hH:sG g2 W2 H2) (hpin:GW np' E0=true) (hnp:np'=L'.length) (hl:L.length<=L'.length)
  (hL: ∀i,i<L.length->∀b,L'[i]? =some b->qD H i=some b):D4 B A L g0 w0 g w b0 o0 n0 cs E0 tmps ds g2 W2 H2:=by
 subst hnp;refine⟨aGL h.env hpin (fun b o x=>(k.shut b o x).1) (fun b o x=>(k.shut b o x).2) (fun i p hi x=>k.J i p hi x) (fun i n v hi x=>k.cur i n v hi x),hH,h.good.inner k (fun b o x=> .inr x) hl hL,fun b o x=> ?_,fun j v hv=> ?_,h.len,fun x=>aMu (h.lt x) k.fr.size,fun o h1 h2 ⟨i,blk,h3,h4⟩=> ?_,h.defs.same fun D hD=> ?_⟩
 .obtain⟨h1,h2⟩:=h.sld b o x;exact⟨(k.shut b o h1).1,(k.shut b o h1).2.trans h2⟩
 .have hj:j<cs.length:=(aL1.1 hv).1;have:=h.len;exact(k.fr.cell _ _ (h.lt pG) (h.out _ pG pG)).1.trans (h.rng j v hv)
 .rcases k.perm i blk _ _ h3 h4 with h5|h5
  .have:=h.lt pG;omega
  .exact h.out o h1 h2 h5
 .rw[k.fr.blk D (aMi.1 hD).1 (fun o ⟨i,blk,h1,h2⟩=>SL (h.heap.blk i blk h1) h2 hD rfl)];exact hD
theorem a85 {g1 g2:Gh}{W W2:pR}{H H2:s0}{L':List q9}(hH:sG g1 W H) (k:tP (xQ g1 H) L' g1 W g2 W2 H2) {D:Nat}{ob:Obj}(hD:W.heap[D]? =some ob) (hm:F5 ob=true):W2.heap[D]? =some ob:=by
 rw[k.fr.blk D (aMi.1 hD).1 (fun o ⟨i,blk,h1,h2⟩=>SL (hH.blk i blk h1) h2 hD hm)];exact hD
end
theorem uZ.put {B:Nat}{W:pR}{l:Nat}{o o':Obj}(h:W.heap[l]? =some o) (hB:B<=l) (hN:NG<=l) (hm:F5 o=true) (hm':F5 o'=true):uZ B W (W.putObj l o'):=by
 have hlt:=(aMi.1 h).1;refine⟨rfl,rfl,rfl,by simp [World.putObj],fun b hb=> ?_⟩;by_cases e:b=l
 .subst e;exact .inr ⟨hB,hN,_,_,h,World.putObj_heap_same hlt,hm,hm'⟩
 .exact .inl (World.putObj_heap_other e)
theorem uZ.new (B:Nat) (W:pR) (o:Obj):uZ B W (W.alloc o):=by
 refine⟨rfl,rfl,rfl,by simp,fun b hb=> .inl ?_⟩;exact aMp W o b hb
theorem a86 {e:Ex}{x:Exit}(h:E4 x=some e):(x= .normal/\e= .normal)\/(x= .ret/\e= .ret)\/∃id,x= .exit id/\e= .exit id:=by
 cases x<;>simp only[E4,aLO] at h
 .exact .inl ⟨rfl,h.symm⟩
 .exact .inr (.inr ⟨_,rfl,h.symm⟩)
 .cases h
 .exact .inr (.inl ⟨rfl,h.symm⟩)
 .cases h
 .cases h
def aGO:Ex->Option Code
 | .normal=>none
 | .ret=>some .ret
 | .exit id=>some (.exit id)
theorem a87 {P:Program}{gf:Nat}{u:Ty}{ι:Type}{pre:u.den->Prop}{items:u.den->List ι}{vl:ι->pN}(hit:OC P gf u pre items vl) {sl:ι->List qC}(hsl: ∀it g w,uX g w (sl it) (vl it))
  {fo:Operand}{ps:Array Tmp}{assign body:Code}{s:St}{Q:Ex->St->Prop}{c:Nat}{k0:pP}(hf:u6 s.env fo=(.val .clo (some (gf,[(c,0)])),k0)) {xc:u.den}{toks:pL}(hc:qD s.H c=some (.cells u xc toks)) (hpre:pre xc)
  {σ ρ:Type}{f:ι->σ->Option (σ⊕ρ)}{x0:σ}{y:σ⊕ρ}(hy:xF f (items xc) x0=some y)
  (E0:List (Nat×qC)) (E1:ι->List (Nat×qC)) (encH:σ->List q9) (encA:ι->σ->List q9) (np':Nat) (k:vS) (hk:wM s.np k.ids=true) (h0:s.keep k=⟨E0,qM 0 (encH x0),r5 (encH x0),s.N,s.np⟩)
  (hcase:k.ids.all (fun q=>decide (q.2≠c))=true\/c<s.np/\(∀g w cs g2 w2 cs2,Rd g w u xc cs->Rd g2 w2 u xc cs2->cs=cs2)/\∃toksK,∀x,qD (qM 0 (encH x)) c=some (.cells u xc toksK)) (hpin:GW np' E0=true) (hnp:s.np<=np') (hlen: ∀x,np'<=r5 (encH x)) (hdead: ∀x,((encH x).take np').all (fun b=>match b with| .dead=>false|_=>true)=true)
  (hA: ∀it x,(encA it x).take np'=(encH x).take np') (hlenA: ∀it x,np'<=r5 (encA it x))
  (hps: ∀it,ps.toList.length=(sl it).length) (hpN:(ps.toList.all fun p=>decide (p<s.N))=true)
  (hround: ∀it x w,f it x=some w->(∀z,w= .inr z->y= .inr z)->Ev true P assign ⟨F9 E0 ps.toList (sl it),qM 0 (encH x),r5 (encH x),s.N,np'⟩ (qA ⟨E1 it,qM 0 (encA it x),r5 (encA it x),s.N,np'⟩)/\
   Ev true P body ⟨E1 it,qM 0 (encA it x),r5 (encA it x),s.N,np'⟩ (qF encH E0 s.N s.np np' w Q))
  (hdone: ∀x,y= .inl x->Q .normal ⟨E0,qM 0 (encH x),r5 (encH x),s.N,s.np⟩):Ev false P (.rangeFunc fo ps assign body) s Q:=by
 intro ro hro A L g0 w0 g a w B hB hr hg hn;have hN:ro=none:=by cases ro<;>first|rfl|cases hro
 subst hN;have hfv:=zL hr.env fo;rw[hf] at hfv;obtain⟨p,hpJ,hev⟩: ∃p,g.J c=some p/\a.eval fo= .func (.func gf) #[] #[.pointer (some ⟨p.1,p.2,none⟩)]:=by
  rcases hfv.1 with⟨h1,_⟩ |⟨_,vs,⟨p,vs',h4,h5,h6⟩,h3⟩
  .cases h1
  .rw[show vs'=[] from h6] at h5;subst h5;simp only[aMI,and_true] at h3;exact⟨p,h4,h3⟩
 obtain⟨p',cs,hp',hRc,hra,hth,hns,htk⟩:=hr.heap.blk c _ hc;rw[hpJ] at hp';obtain rfl:=aLS hp';obtain⟨hr1,hg1,hn1,_⟩:=XJ hr hg hn k hk;have hpJ1:c<s.np->(uJ g s.np k.ids).J c=some p:=fun hcN=>by
  show (if c<s.np then g.J c else _)=_;rw[aLQ hcN];exact hpJ
 obtain⟨b0,o0,n0,cI,inv0,hrng⟩: ∃b0 o0 n0 cI,D4 B A L g0 w0 g w b0 o0 n0 cI E0 a.tmps a.defers (uJ g s.np k.ids) w (qM 0 (encH x0))/\∀{g1:Gh}{W:pR}{x:σ}{dd:List Deferred},D4 B A L g0 w0 g w b0 o0 n0 cI E0 a.tmps dd g1 W (qM 0 (encH x))->(c<s.np->g1.J c=some p)->W.rangeAt p.1 p.2 cs:=by
  rcases hcase with hcd|⟨hcN,hu,toksK,hcK⟩
  .have hout: ∀o,p.2<=o->o<p.2+u.cells->¬xQ (uJ g s.np k.ids) (s.keep k).H p.1 o:=by
    rintro o h1 h2 ⟨i,blk,h3,h4⟩;have h3':qD (N8 s k (wM s.np k.ids)).H i=some blk:=h3;rw[hk] at h3';obtain⟨o',h5,rfl⟩:=GT h3';obtain⟨c1,h6,h7⟩:=(IN hk h5 fun c1 hc1=>hr.heap.blk o' c1 hc1).2 _ _ h4;exact hr.heap.dis o' c c1 _ p.1 o (aMv (aMB.1 hcd _ h5)) h6 hc h7 ⟨p,hpJ,rfl,h1,h2⟩
   rw[h0] at hr1 hg1 hout;exact⟨p.1,p.2,u.cells,cs,⟨hr1.env,hr1.heap,hg1,fun b o h=>⟨h,rfl⟩,hra,sV hRc,fun hpos=>by
    obtain⟨v,hv⟩:=aLR.1 (hth.1 0 hpos).1;exact RY hv,hout,hr.def_⟩,fun h _=>h.rng⟩
  .rw[h0] at hr1 hg1;refine⟨0,0,0,[],⟨hr1.env,hr1.heap,hg1,fun b o h=>⟨h,rfl⟩,fun j v h=>by simp at h,rfl,fun h=>absurd h pG,fun o h1 h2=>by omega,hr1.def_⟩,fun h h2=> ?_⟩;obtain⟨p2,cs2,h3,h4,h5,_⟩:=h.heap.blk c _ (hcK _);rw[h2 hcN] at h3;obtain rfl:=aLS h3;rw[hu _ _ _ _ _ _ hRc h4];exact h5
 rw[h0] at hr1 hg1;have hNG:NG<=w.heap.size:=hr.heap.tab.1.1;have hBw:w0.heap.size<=w.heap.size:=hg.fr.size;refine wpIn_rangeFunc fun fn _=> ?_;obtain⟨rec,hrec⟩: ∃rec:LoopState->Option Code->Loop,rec=fun st pe=>{state:=st,pending:=pe,fn,tmps:=a.tmps,params:=ps,assign,body,defers:=w.heap.size}:=⟨_,rfl⟩;obtain⟨W1,hW1⟩: ∃W1,(w.alloc (.deferred (some []))).alloc (.loop (rec .ready none))=W1:=⟨_,rfl⟩;have hL1:W1.heap[w.heap.size+1]? =some (.loop (rec .ready none)):=by
  rw[<-hW1];have:=World.alloc_heap_new (w.alloc (.deferred (some []))) (.loop (rec .ready none));rwa [World.size_alloc] at this
 have hK1:W1.heap[w.heap.size]? =some (.deferred (some [])):=by
  rw[<-hW1];exact(aMp _ _ _ pI).trans (World.alloc_heap_new w _)
 have t1:uZ w0.heap.size w W1:=by rw[<-hW1];exact(uZ.new _ _ _).trans (uZ.new _ _ _)
 obtain⟨ds,hds⟩: ∃ds:List Deferred,{target:= .collected w.heap.size,args:= #[]}::a.defers=ds:=⟨_,rfl⟩;have hd1:yY B W1 ds:=by
  rw[<-hds];refine⟨List.nodup_cons.2 ⟨fun hm=> ?_,hr.def_.1⟩,fun d hd=> ?_⟩
  .obtain⟨D,h1,_,_,h4⟩:=hr.def_.2 _ hm;have h5:w.heap.size=D:=by injection h1 with h1;injection h1
   have:=(aMi.1 h4).1;omega
  .rcases aL3.1 hd with rfl|hd
   .exact⟨_,rfl,pG,hNG,hK1⟩
   .obtain⟨D,h1,h2,h3,h4⟩:=hr.def_.2 _ hd;have hlt:=(aMi.1 h4).1;refine⟨D,h1,h2,h3,?_⟩;rw[<-hW1];exact(aMp _ _ D pJ).trans ((aMp _ _ D hlt).trans h4)
 let l:=w.heap.size+1
 let J:Nat->pR->Prop:=fun i W=> ∃g1 x,xF f ((items xc).drop i) x=some y/\D4 B A L g0 w0 g w b0 o0 n0 cI E0 a.tmps ds g1 W (qM 0 (encH x))/\
  (∀j,r5 (encH x)<=j->g1.J j=none/\∀n,g1.cur j n=none)/\W.heap[l]? =some (.loop (rec .ready none))/\(c<s.np->g1.J c=some p)
 let Jx:pR->Prop:=fun W=> ∃g1 Bl e cd z,aGO e=some cd/\y= .inr z/\Q e ⟨E0,qM 0 Bl,r5 Bl,s.N,s.np⟩/\D4 B A L g0 w0 g w b0 o0 n0 cI E0 a.tmps ds g1 W (qM 0 Bl)/\
  (∀j,r5 Bl<=j->g1.J j=none/\∀n,g1.cur j n=none)/\s.np<=r5 Bl/\W.heap[l]? =some (.loop (rec .done (some cd)))
 have tbel: ∀{W W':pR},Below W.heap.size W W'->uZ w0.heap.size W W':=fun hb=>⟨hb.os,hb.tape,hb.output,hb.size,fun b h=> .inl (hb.block b h)⟩;have hob: ∀{W W':pR}{D:Nat}{ob:Obj},Below W.heap.size W W'->W.heap[D]? =some ob->W'.heap[D]? =some ob:=fun hb h=>(hb.block _ (aMi.1 h).1).trans h;have hJd: ∀i W W',J i W->Below W.heap.size W W'->J i W':=fun i W W' ⟨g1,x,h1,h2,h3,h4,h5⟩ hb=>⟨g1,x,h1,h2.turn (tbel hb) (h2.defs.same fun _ h=>hob hb h),h3,hob hb h4,h5⟩;have hJxd: ∀W W',Jx W->Below W.heap.size W W'->Jx W':=fun W W' ⟨g1,Bl,e,cd,z,h1,h2,h3,h4,h5,h6,h7⟩ hb=>⟨g1,Bl,e,cd,z,h1,h2,h3,h4.turn (tbel hb) (h4.defs.same fun _ h=>hob hb h),h5,h6,hob hb h7⟩;have hround2: ∀i it V W,(items xc)[i]? =some it->J i V->Below V.heap.size V W->YieldAt Fence.wide 0 P l (vl it).toArray W fun e W'=>((e= .returned (.bool true)/\J (i+1) W')\/(e= .returned (.bool false)/\Jx W'))/\
   ∀D,V.heap.size<=D->D<W.heap.size->W'.heap[D]? =W.heap[D]? :=by
  rintro i it V W hi ⟨g1,x,hfold,invV,nb,hlV,hgc⟩ hbel;have inv:=invV.turn (tbel hbel) (invV.defs.same fun _ h=>hob hbel h);have hl:=hob hbel hlV;have hVl:l<V.heap.size:=(aMi.1 hlV).1;have hnoV: ∀D,V.heap.size<=D->∀o,¬xQ g1 (qM 0 (encH x)) D o:=fun D hD o ⟨i,blk,h1,h2⟩=>by
   have:=KL (invV.heap.blk i blk h1) h2;omega
  have hil:i<(items xc).length:=(aL1.1 hi).1;have hdrop:(items xc).drop i=it::(items xc).drop (i+1):=by
   rw[aMw hil];congr 1;exact(aL1.1 hi).2
  rw[hdrop] at hfold;obtain⟨wv,hw,hinl,hinr⟩:=aGN hfold;obtain⟨evA,evB⟩:=hround it x wv hw hinr;have hvl:(vl it).toArray.size=ps.size:=by
   rw[aMF,(SW (hsl it g1 W)).1,<-hps it,aMt]
  have hyl:=run_yield (P:=P) (args:=(vl it).toArray) hl (by rw[hrec];exact hvl);rw[hrec] at hyl;refine⟨fn,_,assign,body,hyl,roundIn_of_wpIn trivial ?_⟩;have hz:(ps.zip (vl it).toArray).foldl (fun tmps (t,v)=>tmps.setIfInBounds t v) a.tmps=(ps.toList.zip (vl it)).foldl (fun t (q:Nat×pS)=>t.setIfInBounds q.1 q.2) a.tmps:=by
   rw[<-aNJ,Array.toList_zip]
  rw[hz];obtain⟨henv,hsz⟩:=a84 inv.env (fun q hq=>by rw[hr.size];exact aMv (aMB.1 hpN q hq)) (hsl it g1 W) (hps it);have hL'len:((encH x).take np').length=np':=by
   rw[aMd];have:=hlen x;rw[SX] at this;omega
  have hLget: ∀i b,((encH x).take np')[i]? =some b->qD (qM 0 (encH x)) i=some b:=fun i b h=>by
   rw[wW];exact(aMW (by have:=(aL1.1 h).1;omega)).symm.trans h
  have hLget2: ∀i b,((encH x).take np')[i]? =some b->qD (qM 0 (encH x)) i=some b/\b≠.dead:=fun i b h=>⟨hLget i b h,fun e=>by
   have:=aMB.1 (hdead x) b (List.mem_of_getElem? h);subst e;cases this⟩
  have hLty: ∀i,i<((encH x).take np').length->∀b,qD (qM 0 (encH x)) i=some b->((encH x).take np')[i]? =some b:=fun i hi b h=>by
   rw[wW] at h;exact(aMW pG).trans h
  have gs:=tP.start inv.heap hLget2 hLty;have rA:vE W.heap.size g1 W ⟨F9 E0 ps.toList (sl it),qM 0 (encH x),r5 (encH x),s.N,np'⟩ {tmps:=(ps.toList.zip (vl it)).foldl (fun t (q:Nat×pS)=>t.setIfInBounds q.1 q.2) a.tmps,defers:=[]}:=⟨henv,inv.heap,hsz.trans hr.size,nb,a7P _ _,hlen x⟩;have hlow:L.length<=((encH x).take np').length:=by rw[hL'len,<-hn];exact hnp
  refine aNv (evA (some l) rfl _ _ g1 W g1 _ W _ (aMc _) rA gs hL'len.symm) fun e a1 wa hp=> ?_;obtain⟨e',g2,s2,e1,e2,e3,e4,e5⟩:=hp;rcases a86 e1 with⟨rfl,rfl⟩ |⟨rfl,rfl⟩ |⟨id,rfl,rfl⟩
  .obtain⟨kA,hkA⟩:=e2;obtain⟨g3,k1,k2,k3,_⟩:=F6 e3 e4 e5 kA;rw[hkA] at k1 k2;have inva:=inv.inner k2 k1.heap hpin hL'len.symm hlow (fun i hi b h=>hLget i b h);have hla:=a85 inv.heap k2 hl rfl;refine⟨_,run_beginRound hla (by rw[hrec]),?_⟩;obtain⟨Wb,hWb⟩: ∃Wb,wa.putObj l (.loop {rec .ready none with state:= .busy})=Wb:=⟨_,rfl⟩
   have tb:uZ w0.heap.size wa Wb:=by rw[<-hWb];exact uZ.put hla (by show w0.heap.size<=w.heap.size+1;omega) (by show NG<=w.heap.size+1;omega) rfl rfl
   have hlt:=(aMi.1 hla).1;have other: ∀{W:pR}{o o':Obj}{D:Nat},W.heap[l]? =some (.loop (rec .ready none))\/W.heap[l]? =some (.loop {rec .ready none with state:= .busy})->W.heap[D]? =some (.deferred (some []))->(W.putObj l o').heap[D]? =some (.deferred (some [])):=by
    intro W o o' D h1 h2;rw[World.putObj_heap_other (fun e=>by subst e;rcases h1 with h1|h1<;>(rw[h1] at h2;cases h2))]
    exact h2
   have invb:=inva.turn tb (inva.defs.same fun D hD=>by rw[<-hWb];exact other (o:= .loop (rec .ready none)) (.inl hla) hD);have hlb:Wb.heap[l]? =some (.loop {rec .ready none with state:= .busy}):=by rw[<-hWb];exact World.putObj_heap_same hlt
   have hkA: ∀D,V.heap.size<=D->D<W.heap.size->Wb.heap[D]? =W.heap[D]? :=fun D h1 h2=>by
    rw[<-hWb,World.putObj_heap_other pG];exact k2.fr.blk D h2 (hnoV D h1)
   rw[hWb];have hAg: ∀i,i<np'->qD (qM 0 (encA it x)) i=qD (qM 0 (encH x)) i:=fun i hi=>by
    rw[wW,wW,<-aMW hi,hA it x,aMW hi]
   have hltL: ∀i b,((encH x).take np')[i]? =some b->i<np':=fun i b h=>by
    have:=(aL1.1 h).1;omega
   have gsb:=tP.start invb.heap (fun i b h=>by rw[hAg i (hltL i b h)];exact hLget2 i b h) (fun i hi b h=>hLty i hi b (by rw[<-hAg i pG];exact h));have rB:vE W.heap.size g3 Wb ⟨E1 it,qM 0 (encA it x),r5 (encA it x),s.N,np'⟩ a1:=⟨fun t=>C6 (tb.le k1.heap.sl) (k1.env t),invb.heap,k1.size,k1.nb,k1.def_.same fun D hD=>by rw[<-hWb];exact other (o:= .loop (rec .ready none)) (.inl hla) hD,hlenA it x⟩;have hWW:W.heap.size<=Wb.heap.size:=aMN k2.fr.size tb.size;refine aNv (evB (some l) rfl _ _ g3 Wb g3 a1 Wb _ hWW rB gsb hL'len.symm) fun e a2 wc hp=> ?_;obtain⟨e',g4,s4,e1,e2,e3,e4,e5⟩:=hp;have fin: ∀(kB:vS) (Bl:List q9),s4.keep kB=⟨[],qM 0 Bl,r5 Bl,s.N,np'⟩->∀jump:Option Code,∃g5,D4 B A L g0 w0 g w b0 o0 n0 cI E0 a.tmps ds g5 (wc.putObj l (.loop (rec (if jump.isNone then .ready else .done) jump))) (qM 0 Bl)/\
     (∀j,r5 Bl<=j->g5.J j=none/\∀n,g5.cur j n=none)/\np'<=r5 Bl/\(wc.putObj l (.loop (rec (if jump.isNone then .ready else .done) jump))).heap[l]? =some (.loop (rec (if jump.isNone then .ready else .done) jump))/\
     (Instr.endRound l jump).run P wc= .ok (.bool jump.isNone) (wc.putObj l (.loop (rec (if jump.isNone then .ready else .done) jump)))/\(c<s.np->g5.J c=some p)/\
     ∀D,V.heap.size<=D->D<W.heap.size->(wc.putObj l (.loop (rec (if jump.isNone then .ready else .done) jump))).heap[D]? =W.heap[D]? :=by
    intro kB Bl hkB jump;obtain⟨g5,j1,j2,j3,_⟩:=F6 e3 e4 e5 kB;rw[hkB] at j1 j2;have invc:=invb.inner j2 j1.heap hpin hL'len.symm hlow (fun i hi b h=>by rw[hAg i pG];exact hLget i b h);have hlc:=a85 invb.heap j2 hlb rfl;have hltc:=(aMi.1 hlc).1;have tc:uZ w0.heap.size wc (wc.putObj l (.loop (rec (if jump.isNone then .ready else .done) jump))):=uZ.put hlc (by show w0.heap.size<=w.heap.size+1;omega) (by show NG<=w.heap.size+1;omega) rfl rfl;refine⟨g5,invc.turn tc (invc.defs.same fun D hD=>other (o:= .loop (rec .ready none)) (.inr hlc) hD),j1.nb,j1.np,World.putObj_heap_same hltc,?_,fun hcN=>j2.J c p pG (k2.J c p pG (hgc hcN)),fun D h1 h2=> ?_⟩
    .have:=run_endRound (P:=P) jump hlc;rw[this,hrec]
    .rw[World.putObj_heap_other pG,j2.fr.blk D pG (fun o ⟨i,blk,h3,h4⟩=>by
      rcases k2.perm i blk D o h3 h4 with h5|h5
      .omega
      .exact hnoV D h1 o h5),hkA D h1 h2]
   rcases a86 e1 with⟨rfl,rfl⟩ |⟨rfl,rfl⟩ |⟨id,rfl,rfl⟩
   .obtain⟨kB,x',rfl,hkB⟩:=e2;obtain⟨g5,q1,q2,q3,q4,q5,q6,q7⟩:=fin kB _ hkB none;exact⟨_,_,q5,.inl ⟨rfl,g5,x',hinl x' rfl,q1,q2,q4,q6⟩,q7⟩
   .obtain⟨kB,Bl,hkB,⟨z,rfl⟩,hq⟩:=e2;obtain⟨g5,q1,q2,q3,q4,q5,q6,q7⟩:=fin kB _ hkB (some .ret);exact⟨_,_,q5,.inr ⟨rfl,g5,Bl,.ret,.ret,z,rfl,hinr z rfl,hq,q1,q2,aMN hnp q3,q4⟩,q7⟩
   .obtain⟨kB,Bl,hkB,⟨z,rfl⟩,hq⟩:=e2;obtain⟨g5,q1,q2,q3,q4,q5,q6,q7⟩:=fin kB _ hkB (some (.exit id));exact⟨_,_,q5,.inr ⟨rfl,g5,Bl,.exit id,.exit id,z,rfl,hinr z rfl,hq,q1,q2,aMN hnp q3,q4⟩,q7⟩
  .exact e2.elim
  .exact e2.elim
 refine⟨l,[{target:= .collected w.heap.size,args:= #[]}],W1,{target:= .fn (.func gf) #[.pointer (some ⟨p.1,p.2,none⟩)],args:= #[.func (.yield l) #[] #[]]},W1,gf,#[.func (.yield l) #[] #[]]++ #[.pointer (some ⟨p.1,p.2,none⟩)],W1,?_,?_,fun _ _=>trivial,?_,fun h=>(by cases h),?_⟩
 .rw[<-hW1,hrec];exact run_enterLoop_outer _ _ _ _ _
 .simp only[resolve,hev];simp [go_sem]
 .simp [invoke,go_sem,hit.1]
 .have inv1:=inv0.turn t1 hd1;refine(a7Y (ro:=none) (n:=0-1) (hit.2 l p.1 p.2 xc cs g w J Jx hpre hRc (fun i W ⟨g1,x,_,h2,_,_,h5⟩=>⟨hrng h2 h5,fun b o hb=>(h2.sld b o hb).2⟩) hJd hJxd (fun i W ⟨g1,x,_,h2,_⟩=>h2.heap.tab.1) hround2 W1 ⟨_,x0,hy,inv1,hr1.nb,hL1,hpJ1⟩)).mono ?_;have hend: ∀{W:pR}{r:Loop},W.heap[l]? =some (.loop r)->∀{ds0:List Deferred},yY B W ds0->yY B (W.putObj l (.loop {r with state:= .exhausted})) ds0:=by
   intro W r h1 ds0 h2;refine h2.same fun D hD=> ?_;rw[World.putObj_heap_other (fun e=>by subst e;rw[h1] at hD;cases hD)];exact hD
  rintro e W2 ⟨⟨v,rfl⟩,(⟨g1,x,h1,h2,h3,h4,_⟩ |⟨g1,Bl,e,cd,z,h1,h2,h3,h4,h5,h6,h7⟩)⟩
  .rw[aMU] at h1;have hyx:y= .inl x:=(aLS h1).symm;have hin:=h2.turn (uZ.put (o':= .loop {rec .ready none with state:= .exhausted}) h4 (by show w0.heap.size<=w.heap.size+1;omega) (by show NG<=w.heap.size+1;omega) rfl rfl) (hend h4 h2.defs)
   refine⟨none,W2.putObj l (.loop {rec .ready none with state:= .exhausted}),by have:=run_endLoop (P:=P) h4 (by rw[hrec];simp);rw[hrec] at this|-;exact this,?_⟩
   refine⟨.normal,g1,_,rfl,hdone x hyx,⟨hin.env,hin.heap,hr.size,h3,?_,aMN hnp (hlen x)⟩,hin.good,hn⟩;have:=hin.defs;rw[<-hds] at this;exact this
  .have hin:=h4.turn (uZ.put (o':= .loop {rec .done (some cd) with state:= .exhausted}) h7 (by show w0.heap.size<=w.heap.size+1;omega) (by show NG<=w.heap.size+1;omega) rfl rfl) (hend h7 h4.defs)
   refine⟨some cd,W2.putObj l (.loop {rec .done (some cd) with state:= .exhausted}),by have:=run_endLoop (P:=P) h7 (by rw[hrec];simp);rw[hrec] at this|-;exact this,?_⟩
   have hdef:=hin.defs;rw[<-hds] at hdef;have hrel:vE B g1 (W2.putObj l (.loop {rec .done (some cd) with state:= .exhausted})) ⟨E0,qM 0 Bl,r5 Bl,s.N,s.np⟩ {a with defers:=[{target:= .collected w.heap.size,args:= #[]}]++a.defers}:=⟨hin.env,hin.heap,hr.size,h5,hdef,h6⟩
   cases e with
   |normal=>cases h1
   |ret=>
    obtain rfl:=aLS h1;exact wpIn_ret ⟨.ret,g1,_,rfl,h3,hrel,hin.good,hn⟩
   |exit id=>
    obtain rfl:=aLS h1;exact wpIn_exit ⟨.exit id,g1,_,rfl,h3,hrel,hin.good,hn⟩
theorem a88 {P:Program}{gf:Nat}{u:Ty}{ι:Type}{pre:u.den->Prop}{items:u.den->List ι}{vl:ι->pN}(hit:OC P gf u pre items vl) {sl:ι->List qC}(hsl: ∀it g w,uX g w (sl it) (vl it))
  {fo:Operand}{ps:Array Tmp}{assign body:Code}{s:St}{Q:Ex->St->Prop}{c:Nat}{k0:pP}(hf:u6 s.env fo=(.val .clo (some (gf,[(c,0)])),k0)) {xc:u.den}{toks:pL}(hc:qD s.H c=some (.cells u xc toks)) (hpre:pre xc)
  {σ ρ:Type}{f:ι->σ->Option (σ⊕ρ)}{x0:σ}{y:σ⊕ρ}(hy:xF f (items xc) x0=some y)
  (E0:List (Nat×qC)) (E1:ι->List (Nat×qC)) (encH:σ->List q9) (np':Nat) (k:vS) (hk:wM s.np k.ids=true) (h0:s.keep k=⟨E0,qM 0 (encH x0),r5 (encH x0),s.N,s.np⟩)
  (hcd:k.ids.all (fun q=>decide (q.2≠c))=true) (hpin:GW np' E0=true) (hnp:s.np<=np') (hlen: ∀x,np'<=r5 (encH x)) (hdead: ∀x,((encH x).take np').all (fun b=>match b with| .dead=>false|_=>true)=true)
  (hps: ∀it,ps.toList.length=(sl it).length) (hpN:(ps.toList.all fun p=>decide (p<s.N))=true)
  (hround: ∀it x w,f it x=some w->(∀z,w= .inr z->y= .inr z)->Ev true P assign ⟨F9 E0 ps.toList (sl it),qM 0 (encH x),r5 (encH x),s.N,np'⟩ (qA ⟨E1 it,qM 0 (encH x),r5 (encH x),s.N,np'⟩)/\
   Ev true P body ⟨E1 it,qM 0 (encH x),r5 (encH x),s.N,np'⟩ (qF encH E0 s.N s.np np' w Q))
  (hdone: ∀x,y= .inl x->Q .normal ⟨E0,qM 0 (encH x),r5 (encH x),s.N,s.np⟩):Ev false P (.rangeFunc fo ps assign body) s Q:=
 a87 hit hsl hf hc hpre hy E0 E1 encH (fun _=>encH) np' k hk h0 (.inl hcd) hpin hnp hlen hdead (fun _ _=>rfl) (fun _=>hlen) hps hpN hround hdone
theorem aGP {P:Program}{gf:Nat}{ι:Type}{pre:pD->Prop}{items:pD->List ι}{vl:ι->pN}(hit:OC P gf .str pre items vl) {sl:ι->List qC}(hsl: ∀it g w,uX g w (sl it) (vl it))
  {fo:Operand}{ps:Array Tmp}{assign body:Code}{s:St}{Q:Ex->St->Prop}{c:Nat}{k0:pP}(hf:u6 s.env fo=(.val .clo (some (gf,[(c,0)])),k0)) {xc:pD}{toks:pL}(hc:qD s.H c=some (.cells .str xc toks)) (hpre:pre xc)
  {σ ρ:Type}{f:ι->σ->Option (σ⊕ρ)}{x0:σ}{y:σ⊕ρ}(hy:xF f (items xc) x0=some y)
  (E0:List (Nat×qC)) (E1:ι->List (Nat×qC)) (encH:σ->List q9) (encA:ι->σ->List q9) (np':Nat) (k:vS) (hk:wM s.np k.ids=true) (h0:s.keep k=⟨E0,qM 0 (encH x0),r5 (encH x0),s.N,s.np⟩)
  (hcN:c<s.np) {toksK:pL}(hcK: ∀x,qD (qM 0 (encH x)) c=some (.cells .str xc toksK)) (hpin:GW np' E0=true) (hnp:s.np<=np') (hlen: ∀x,np'<=r5 (encH x)) (hdead: ∀x,((encH x).take np').all (fun b=>match b with| .dead=>false|_=>true)=true)
  (hA: ∀it x,(encA it x).take np'=(encH x).take np') (hlenA: ∀it x,np'<=r5 (encA it x))
  (hps: ∀it,ps.toList.length=(sl it).length) (hpN:(ps.toList.all fun p=>decide (p<s.N))=true)
  (hround: ∀it x w,f it x=some w->(∀z,w= .inr z->y= .inr z)->Ev true P assign ⟨F9 E0 ps.toList (sl it),qM 0 (encH x),r5 (encH x),s.N,np'⟩ (qA ⟨E1 it,qM 0 (encA it x),r5 (encA it x),s.N,np'⟩)/\
   Ev true P body ⟨E1 it,qM 0 (encA it x),r5 (encA it x),s.N,np'⟩ (qF encH E0 s.N s.np np' w Q))
  (hdone: ∀x,y= .inl x->Q .normal ⟨E0,qM 0 (encH x),r5 (encH x),s.N,s.np⟩):Ev false P (.rangeFunc fo ps assign body) s Q:=
 a87 (u:= .str) hit hsl hf hc hpre hy E0 E1 encH encA np' k hk h0 (.inr ⟨hcN,fun _ _ _ _ _ _ h h2=>Eq.trans h (Eq.symm h2),toksK,hcK⟩) hpin hnp hlen hdead hA hlenA hps hpN hround hdone
section
variable {σ ρ:Type}{encH:σ->List q9}{E0:List (Nat×qC)}{N np np':Nat}{w:σ⊕ρ}{Q:Ex->St->Prop}{st s:St}
theorem YH (k:vS) (h:s.keep k=st):qA st .normal s:=⟨k,h⟩
theorem YI (k:vS) (x:σ) (hw:w= .inl x) (h:s.keep k=⟨[],qM 0 (encH x),r5 (encH x),N,np'⟩):qF encH E0 N np np' w Q .normal s:=⟨k,x,hw,h⟩
theorem aGQ (k:vS) (B:List q9) (z:ρ) (hw:w= .inr z) (h:s.keep k=⟨[],qM 0 B,r5 B,N,np'⟩) (hq:Q .ret ⟨E0,qM 0 B,r5 B,N,np⟩):qF encH E0 N np np' w Q .ret s:=⟨k,B,h,⟨z,hw⟩,hq⟩
end
end Go.Proofs.YtkpflnijijccpaaGreatDoor.Vc
namespace Go.Proofs.YtkpflnijijccpaaGreatDoor
open Go.RowKit Go.Shelf Vc
section
attribute [local go_sem] Oper.semAt_some
def z6 (d:(Ty.pair .str (.pair (.list .str) (.pair .str .unit))).den):List (Int×pD):=
 (0,d.1)::((List.range d.2.1.length).map fun j:Nat=>((j:Int)+1,d.2.1.getD j []))++[((d.2.1.length:Int)+1,d.2.2.1)]
def OD (it:Int×pD):pN:=[.int .i64 it.1,.string ⟨it.2.toArray⟩]
@[go_sem] def YJ (it:Int×pD):List qC:=[(.val (.int .i64) it.1,none),(.val .str it.2,none)]
theorem a89 (it:Int×pD) (g:Gh) (w:pR):uX g w (YJ it) (OD it):=⟨_,_,rfl,⟨vX _ _ _ _,trivial⟩,_,_,rfl,⟨DY _ _ _,trivial⟩,rfl⟩
theorem a9a (d:(Ty.pair .str (.pair (.list .str) (.pair .str .unit))).den):(z6 d).length=d.2.1.length+2:=by simp [z6]
theorem YK (d:(Ty.pair .str (.pair (.list .str) (.pair .str .unit))).den):(z6 d)[0]? =some (0,d.1):=by simp [z6]
theorem YL (d:(Ty.pair .str (.pair (.list .str) (.pair .str .unit))).den) {j:Nat}(h:j<d.2.1.length):(z6 d)[j+1]? =some ((j:Int)+1,d.2.1.getD j []):=by
 simp [z6,aL4,h]
theorem YM (d:(Ty.pair .str (.pair (.list .str) (.pair .str .unit))).den):(z6 d)[d.2.1.length+1]? =some ((d.2.1.length:Int)+1,d.2.2.1):=by
 simp [z6]
theorem a9b:OC Tryz.prog 57 (.pair .str (.pair (.list .str) (.pair .str .unit))) (fun d=>d.2.1.length<=4611686018427387904) z6 OD:=by
 refine⟨fun _ _=>rfl,?_⟩;intro l b o d cs g W0 J Jx hpre hR hrd hJd hJxd hJt hY W h0;replace hY:=fun i it W h1 h2=>aGM (hY i it W W h1 h2 (Below.refl _ _)) (R':=fun e W'=>(e= .returned (.bool true)/\J (i+1) W')\/(e= .returned (.bool false)/\Jx W')) (fun _ _ h=>h.1);obtain⟨c1,c2,rfl,hh,c3,c4,rfl,hl,c5,c6,rfl,ht,hu⟩:=hR;rw[show c1=[.string ⟨d.1.toArray⟩] from hh] at hrd;rw[show c5=[.string ⟨d.2.2.1.toArray⟩] from ht,show c6=[] from hu] at hrd;obtain⟨a,cap,rfl,hcap,hel⟩:=hl;have r0: ∀i W,J i W->W.cell? ⟨b,o,none⟩=some (.string ⟨d.1.toArray⟩):=fun i W h=>by simpa using(hrd i W h).1 0 _ rfl
 have r1: ∀i W,J i W->W.cell? ⟨b,o+1,none⟩=some (.slice a d.2.1.length cap):=fun i W h=>(hrd i W h).1 1 _ rfl;have r2: ∀i W,J i W->W.cell? ⟨b,o+2,none⟩=some (.string ⟨d.2.2.1.toArray⟩):=fun i W h=>(hrd i W h).1 2 _ rfl;have re: ∀j,j<d.2.1.length->∃b' o',a=some ⟨b',o',none⟩/\∀i W,J i W->W.cell? ⟨b',o'+j,none⟩=some (.string ⟨(d.2.1.getD j []).toArray⟩):=by
  intro j hj;rcases hel with h|⟨b',o',h1,h2⟩
  .rw[h] at hj;cases hj
  .refine⟨b',o',h1,fun i W h=> ?_⟩;have hg:d.2.1[j]? =some (d.2.1.getD j []):=by rw[aMr,aLZ hj];rfl
   obtain⟨cs,k1,k2,k3,k4⟩:=S1 h2 hg;rw[show cs=[.string ⟨(d.2.1.getD j []).toArray⟩] from k4] at k2;have k5:=k2 0 _ rfl;have k6:=k3 0 pH;rw[aM7,show j*Ty.str.cells=j from aNC j] at k5 k6;rw[(hrd i W h).2 _ _ k6];exact k5
 have q0:=YK d;have qm:=fun j=>YL d (j:=j);have ql:=YM d;have qn:=a9a d;generalize hn:d.2.1.length=n at*;refine(callsIn_wide (n:=0)).1 (callsIn_of_wp Tryz.func57 rfl trivial ?_);simp only[Tryz.ntmps57,aMF,aLY,aMh,Nat.reduceAdd,Nat.reduceSub,Array.replicate_succ,Array.replicate_zero,List.push_toArray,List.append_toArray,List.nil_append,List.cons_append];have c0:=r0 0 W h0;obtain⟨fn,tmps,assign,body,hy,hQ⟩:=hY 0 _ W q0 h0;dsimp only[OD] at hy
 gi_wp2
 refine⟨rfl,hQ.mono ?_⟩;clear hQ hy;rintro e W1 (⟨rfl,hJ1⟩ |⟨rfl,hJx⟩)
 .have s1:=r1 _ W1 hJ1
  gi_wp2
  gi_loopw [13] (fun i wr=> ∃k:Nat,k<=n/\i= .int .i64 k/\J (k+1) wr) (fun i _=>n- (RowKit.intOf i).toNat)
  case atStart=>exact⟨0,aMR _,rfl,hJ1⟩
  case round=>
   obtain⟨k,hk,rfl,hJs⟩:=hrel;by_cases hlt:k<n
   .obtain⟨b',o',rfl,hce⟩:=re k hlt;have hc':=hce _ _ hJs;have hq:=qm k hlt;clear re qm ql q0 hce;generalize d.2.1.getD k []=x at hc' hq;obtain⟨fn,tmps,assign,body,hy,hQ⟩:=hY _ _ wr hq hJs;dsimp only[OD] at hy
    gi_wp2
    refine⟨rfl,hQ.mono ?_⟩;clear hQ hy;rintro e W2 (⟨rfl,hJ2⟩ |⟨rfl,hJx⟩)
    .gi_wp2
     go_roundw
     case rel=>exact⟨k+1,pG,by simp,hJ2⟩
     case measure=>
      show n- (k+1)<n-k;omega
    .gi_wp2
     refine bodyPost_ret (results_none rfl _ _ _) rfl ?_;exact⟨⟨_,rfl⟩,.inr hJx⟩
   .obtain rfl:k=n:=by omega
    have s1:=r1 _ _ hJs;have s2:=r2 _ _ hJs;obtain⟨fn,tmps,assign,body,hy,hQ⟩:=hY _ _ wr ql hJs;dsimp only[OD] at hy
    gi_wp2
    refine⟨rfl,hQ.mono ?_⟩;clear hQ hy;rintro e W2 (⟨rfl,hJ2⟩ |⟨rfl,hJx⟩)
    .gi_wp2
     go_end0
     exact⟨⟨_,rfl⟩,.inl (by rw[qn];exact hJ2)⟩
    .gi_wp2
     go_end0
     exact⟨⟨_,rfl⟩,.inr hJx⟩
 .gi_wp2
  refine bodyPost_ret (results_none rfl _ _ _) rfl ?_;exact⟨⟨_,rfl⟩,.inr hJx⟩
theorem T5: ∀(s:pD) (c:UInt8),Lib.indexByte s c<s.length/\ -1<=Lib.indexByte s c
 |[],_=>by simp [Lib.indexByte]
 |b::l,c=>by
  have:=T5 l c;unfold Lib.indexByte;split
  .simp
  .split
   .simp;omega
   .simp only[aLY];omega
theorem aGR (l:pD) (m n:Nat):(⟨l.toArray⟩:ByteArray).extract m n=⟨((l.drop m).take (n-m)).toArray⟩:=by
 apply ByteArray.ext;apply aMV.1;simp
end
end Go.Proofs.YtkpflnijijccpaaGreatDoor
namespace Go.Proofs.YtkpflnijijccpaaGreatDoor
open Vc Go.RowKit
def FA (g:Gh) (k n:Nat) (v:pS):Gh:={g with cur:=fun i m=>if i=k then(if m=n then some v else none) else g.cur i m}
theorem CB (g:Gh) (k n:Nat) (v:pS):(FA g k n v).cur k n=some v:=by simp [FA]
theorem YN (g:Gh) (k n:Nat) (v:pS) {m:Nat}(h:n<m):(FA g k n v).cur k m=none:=by
 simp only[FA,aNo];rw[aLU pG]
theorem aGS {g:Gh}{w w':pR}{e:TypeId}{l l':pE}{n m b cap:Nat}{cur':Array pS}{side:List Prop}
  (hH:sG g w (qM 0 [.row e .str l n])) (hcur:g.cur 0 n=some (.slice (some ⟨b,0,none⟩) n cap))
  (hcm:cap<=maxLen) (hmc:m<=cap) (hl':l'.length=m)
  (hnew:w'.heap[b]? =some (.cells cur' e (0,0))) (hcs':cur'.size=cap) (htk:cur'.toList.take m=l'.map Go.Proofs.encStr) (hgr:w.grownBy w' (some b)):
  ∃g',D1 g w [.row e .str l n] ⟨side,[(.own 1 m,none)],[.dead,.row e .str l' m]⟩ g' w' (.slice (some ⟨b,0,none⟩) m cap):=by
 have hg0:qD (qM 0 [q9.row e .str l n]) 0=some (.row e .str l n):=rfl;obtain⟨hl,v,xs,hc2,hown,hF,hnone,hseal⟩:=hH.blk 0 _ hg0;rw[hcur] at hc2;obtain rfl:=aLS hc2;have hb0: ∀o,xQ g (qM 0 [q9.row e .str l n]) b o:=fun o=>⟨0,_,hg0,_,hcur,rfl⟩;have hNG:NG<=b:=hH.tab.2 0 _ b 0 hg0 ⟨_,hcur,rfl⟩;have hS: ∀b' o,g.S b' o->b'≠b:=fun b' o h e1=>hseal b rfl o (e1▸h);have hcell: ∀b' o,g.S b' o->w'.cell? ⟨b',o,none⟩=w.cell? ⟨b',o,none⟩:=fun b' o h=>aMe (a:=⟨b',o,none⟩) (hgr.block b' (hH.sl b' o h) (fun e1=>hS b' o h (aLS e1)));refine⟨FA g 1 m (.slice (some ⟨b,0,none⟩) m cap),fun b' o h=>⟨h,hcell b' o h⟩,⟨fun i blk h=> ?_,fun i j bi bj b' o hij hi hj ho hp=> ?_,fun b' o h=>aMu (hH.sl b' o h) hgr.size,HW hH.tab.1 hgr.size fun b' h=>hgr.block b' (aMu h hH.tab.1.1) (fun e1=>by have:=aLS e1;omega),fun i blk b' o h ho=> ?_⟩,⟨⟨CB ..,.inr ⟨b,cap,rfl,hmc⟩⟩,trivial⟩,⟨hgr.os,hgr.tape,hgr.output,hgr.size,fun b' hb hn=>hgr.block b' hb fun e1=>hn 0 (by rw[aLS e1];exact hb0 0),fun b' o hb hn=> ?_,fun b' o h=> .inl h,fun b' s h=> ?_⟩,fun i blk b' o h ho=> ?_,fun _ _ _ _ _=>rfl,fun i t x ts u y us h=> ?_,fun i p hi h=>h,fun i q u hi h=> ?_⟩
 .match i,h with
  |0,h=>cases h;trivial
  |1,h=>
   cases h;refine⟨hl',_,l'.map Go.Proofs.encStr,CB ..,⟨by simp [hl',Ty.cells],.inr ⟨b,cap,cur',rfl,aMR _,hnew,hmc,hcm,by simpa[Ty.cells] using hcs',by simpa[Ty.cells] using htk⟩⟩,T2 _,fun q hq=>YN g 1 m _ hq,fun b' hb o hs=> ?_⟩;cases hb;exact hseal b rfl o hs
  |i+2,h=>simp [qM,qD] at h
 .match i,j,hi,hj with
  |0,_,hi,_=>cases hi;exact ho
  |_,0,_,hj=>cases hj;exact hp
  |1,1,_,_=>exact hij rfl
  |i+2,_,hi,_=>simp [qM,qD] at hi
  |1,j+2,_,hj=>simp [qM,qD] at hj
 .match i,h with
  |0,h=>cases h;exact ho.elim
  |1,h=>
   cases h;obtain⟨v,h1,h2⟩:=ho;rw[CB] at h1;obtain rfl:=aLS h1;cases h2;exact hNG
  |i+2,h=>simp [qM,qD] at h
 .have hne:b'≠b:=fun e1=>hn (e1▸hb0 o);have:=hgr.block b' hb (fun e1=>hne (aLS e1));exact⟨aMe (a:=⟨b',o,none⟩) this,aME (a:=⟨b',o,none⟩) this⟩
 .by_cases e1:b'=b
  .exact .inr fun o=>e1▸hb0 o
  .exact .inl ((BM (hgr.block b' (BL h) (fun e2=>e1 (aLS e2)))).trans h)
 .match i,h with
  |0,h=>cases h;exact ho.elim
  |1,h=>
   cases h;obtain⟨v,h1,h2⟩:=ho;rw[CB] at h1;obtain rfl:=aLS h1;cases h2;exact .inr (hb0 o)
  |i+2,h=>simp at h
 .match i,h with
  |0,h=>cases h
  |i+1,h=>simp at h
 .match i,hi with
  |0,_=>simpa[FA] using h
theorem aGT {g:Gh}{w:pR}{e:TypeId}{l:pE}{side:List Prop}
  (hH:sG g w (qM 0 [.row e .str l 0])) {v:pS}(hcur:g.cur 0 0=some v):
  ∃g',D1 g w [.row e .str l 0] ⟨side,[(.own 1 0,none)],[.dead,.row e .str [] 0]⟩ g' w v:=by
 have hg0:qD (qM 0 [q9.row e .str l 0]) 0=some (.row e .str l 0):=rfl;obtain⟨hl,v',xs,hc2,hown,hF,hnone,hseal⟩:=hH.blk 0 _ hg0;rw[hcur] at hc2;obtain rfl:=aLS hc2;have hb0: ∀b o,v.ownBlock=some b->xQ g (qM 0 [q9.row e .str l 0]) b o:=fun b o h=>⟨0,_,hg0,_,hcur,h⟩;have hv:(v= .slice none 0 0/\0=0)\/∃b cap,v= .slice (some ⟨b,0,none⟩) 0 cap/\0<=cap:=by
  rcases hown.2 with⟨h1,h2⟩ |⟨b,cap,cur,h1,_,_,h2,_⟩
  .exact .inl ⟨h1,rfl⟩
  .exact .inr ⟨b,cap,h1,h2⟩
 refine⟨FA g 1 0 v,fun b' o h=>⟨h,rfl⟩,⟨fun i blk h=> ?_,fun i j bi bj b' o hij hi hj ho hp=> ?_,hH.sl,hH.tab.1,fun i blk b' o h ho=> ?_⟩,⟨⟨CB ..,hv⟩,trivial⟩,Fr.refl _ _ _,fun i blk b' o h ho=> ?_,fun _ _ _ _ _=>rfl,fun i t x ts u y us h=> ?_,fun i p hi h=>h,fun i q u hi h=> ?_⟩
 .match i,h with
  |0,h=>cases h;trivial
  |1,h=>
   cases h;have hx:xs=[]:=by
    have:=hown.1;simpa using this
   subst hx;exact⟨rfl,v,[],CB ..,hown,rfl,fun q hq=>YN g 1 0 _ hq,hseal⟩
  |i+2,h=>simp [qM,qD] at h
 .match i,j,hi,hj with
  |0,_,hi,_=>cases hi;exact ho
  |_,0,_,hj=>cases hj;exact hp
  |1,1,_,_=>exact hij rfl
  |i+2,_,hi,_=>simp [qM,qD] at hi
  |1,j+2,_,hj=>simp [qM,qD] at hj
 .match i,h with
  |0,h=>cases h;exact ho.elim
  |1,h=>
   cases h;obtain⟨v',h1,h2⟩:=ho;rw[CB] at h1;obtain rfl:=aLS h1;exact hH.tab.2 0 _ b' o hg0 ⟨_,hcur,h2⟩
  |i+2,h=>simp [qM,qD] at h
 .match i,h with
  |0,h=>cases h;exact ho.elim
  |1,h=>
   cases h;obtain⟨v',h1,h2⟩:=ho;rw[CB] at h1;obtain rfl:=aLS h1;exact .inr (hb0 b' o h2)
  |i+2,h=>simp at h
 .match i,h with
  |0,h=>cases h
  |i+1,h=>simp at h
 .match i,hi with
  |0,_=>simpa[FA] using h
theorem a9c {g:Gh}{w w':pR}{e:TypeId}{l:pE}{n b:Nat}{side:List Prop}
  (hH:sG g w (qM 0 [])) (hb:Below w.heap.size w w') (hbb:w.heap.size<=b) (hl:l.length=n) (hnm:n<=maxLen)
  (hnew:w'.heap[b]? =some (.cells (l.map Go.Proofs.encStr).toArray e (0,0))):
  ∃g',D1 g w [] ⟨side,[(.own 0 n,none)],[.row e .str l n]⟩ g' w' (.slice (some ⟨b,0,none⟩) n n):=by
 have hlt: ∀b' o,g.S b' o->b'≠b:=fun b' o h e1=>by have:=hH.sl b' o h;omega
 refine⟨FA g 0 n (.slice (some ⟨b,0,none⟩) n n),fun b' o h=>⟨h,aMe (a:=⟨b',o,none⟩) (hb.block b' (hH.sl b' o h))⟩,⟨fun i blk h=> ?_,fun i j bi bj b' o hij hi hj ho hp=> ?_,fun b' o h=>aMu (hH.sl b' o h) hb.size,HW hH.tab.1 hb.size fun b' h=>hb.block b' (aMu h hH.tab.1.1),fun i blk b' o h ho=> ?_⟩,⟨⟨CB ..,.inr ⟨b,n,rfl,aMc _⟩⟩,trivial⟩,⟨hb.os,hb.tape,hb.output,hb.size,fun b' hb' _=>hb.block b' hb',fun b' o hb' _=>⟨aMe (a:=⟨b',o,none⟩) (hb.block b' hb'),aME (a:=⟨b',o,none⟩) (hb.block b' hb')⟩,fun b' o h=> .inl h,fun b' s h=> .inl ((BM (hb.block b' (BL h))).trans h)⟩,fun i blk b' o h ho=> ?_,fun _ _ _ _ h=>(by cases h),fun i t x ts u y us h=>(by cases h),fun i p hi h=>h,fun i q u hi h=>(by simp at hi)⟩
 .match i,h with
  |0,h=>
   cases h;refine⟨hl,_,l.map Go.Proofs.encStr,CB ..,⟨by simp [hl,Ty.cells],.inr ⟨b,n,_,rfl,aMR _,hnew,aMc _,hnm,by simp [hl,Ty.cells],?_⟩⟩,T2 _,fun q hq=>YN g 0 n _ hq,fun b' hb' o hs=> ?_⟩
   .exact List.take_of_length_le (by simp [hl,Ty.cells])
   .cases hb';exact hlt b o hs rfl
  |i+1,h=>simp [qM,qD] at h
 .match i,j,hi,hj with
  |0,0,_,_=>exact hij rfl
  |i+1,_,hi,_=>simp [qM,qD] at hi
  |0,j+1,_,hj=>simp [qM,qD] at hj
 .match i,h with
  |0,h=>
   cases h;obtain⟨v',h1,h2⟩:=ho;rw[CB] at h1;obtain rfl:=aLS h1;cases h2;exact aMN hH.tab.1.1 hbb
  |i+1,h=>simp [qM,qD] at h
 .match i,h with
  |0,h=>
   cases h;obtain⟨v',h1,h2⟩:=ho;rw[CB] at h1;obtain rfl:=aLS h1;cases h2;exact .inl hbb
  |i+1,h=>simp at h
end Go.Proofs.YtkpflnijijccpaaGreatDoor
namespace Go.Proofs
open Go.RowKit Go.Lib
def Tryz.lays160_ren:Go.Shelf.Ren:=⟨fun|160=>85|232=>118|231=>117|227=>119|234=>121|233=>120|236=>123|235=>122|228=>160|271=>163|151=>162|197=>161|120=>196|152=>195|260=>194|137=>108|119=>219|224=>187|225=>186|217=>149|266=>185|n=>n,fun|9=>9|4=>4|3=>3|5=>5|117=>162|116=>161|0=>0|124=>165|21=>21|105=>191|46=>175|119=>182|139=>230|138=>229|n=>n,fun|3=>3|4=>4|n=>n⟩
theorem Tryz.lays160:Go.Proofs.Lays.n160 Tryz.prog Tryz.lays160_ren:={
 mixed:=by kernel_rfl
 f119:=Tryz.func219.trans (aL9 some pU)
 f120:=Tryz.func196.trans (aL9 some pU)
 f137:=Tryz.func108.trans (aL9 some pU)
 f151:=Tryz.func162.trans (aL9 some pU)
 f152:=Tryz.func195.trans (aL9 some pU)
 f160:=Tryz.func85.trans (aL9 some pU)
 f197:=Tryz.func161.trans (aL9 some pU)
 f217:=Tryz.func149.trans (aL9 some pU)
 f224:=Tryz.func187.trans (aL9 some pU)
 f225:=Tryz.func186.trans (aL9 some pU)
 f227:=Tryz.func119.trans (aL9 some pU)
 f228:=Tryz.func160.trans (aL9 some pU)
 f231:=Tryz.func117.trans (aL9 some pU)
 f232:=Tryz.func118.trans (aL9 some pU)
 f233:=Tryz.func120.trans (aL9 some pU)
 f234:=Tryz.func121.trans (aL9 some pU)
 f235:=Tryz.func122.trans (aL9 some pU)
 f236:=Tryz.func123.trans (aL9 some pU)
 f260:=Tryz.func194.trans (aL9 some pU)
 f266:=Tryz.func185.trans (aL9 some pU)
 f271:=Tryz.func163.trans (aL9 some pU)
 t0:=Tryz.underlying0
 a0:=Tryz.isAgg0
 z0:=Tryz.sizeOf0
 v0:=Tryz.zeroValue0
 t3:=Tryz.underlying3
 a3:=Tryz.isAgg3
 z3:=Tryz.sizeOf3
 v3:=Tryz.zeroValue3
 t4:=Tryz.underlying4
 a4:=Tryz.isAgg4
 z4:=Tryz.sizeOf4
 v4:=Tryz.zeroValue4
 t5:=Tryz.underlying5
 a5:=Tryz.isAgg5
 z5:=Tryz.sizeOf5
 v5:=Tryz.zeroValue5
 t9:=Tryz.underlying9
 a9:=Tryz.isAgg9
 z9:=Tryz.sizeOf9
 v9:=Tryz.zeroValue9
 t21:=Tryz.underlying21
 a21:=Tryz.isAgg21
 z21:=Tryz.sizeOf21
 v21:=Tryz.zeroValue21
 t46:=Tryz.underlying175
 a46:=Tryz.isAgg175
 z46:=Tryz.sizeOf175
 v46:=Tryz.zeroValue175
 t105:=Tryz.underlying191
 a105:=Tryz.isAgg191
 z105:=Tryz.sizeOf191
 v105:=Tryz.zeroValue191
 t116:=Tryz.underlying161
 a116:=Tryz.isAgg161
 z116:=Tryz.sizeOf161
 t117:=Tryz.underlying162
 a117:=Tryz.isAgg162
 z117:=Tryz.sizeOf162
 v117:=Tryz.zeroValue162
 t119:=Tryz.underlying182
 a119:=Tryz.isAgg182
 z119:=Tryz.sizeOf182
 t124:=Tryz.underlying165
 a124:=Tryz.isAgg165
 z124:=Tryz.sizeOf165
 v124:=Tryz.zeroValue165
 t138:=Tryz.underlying229
 a138:=Tryz.isAgg229
 z138:=Tryz.sizeOf229
 v138:=Tryz.zeroValue229
 t139:=Tryz.underlying230
 a139:=Tryz.isAgg230
 z139:=Tryz.sizeOf230
 v139:=Tryz.zeroValue230
 g3:=by kernel_rfl
 g4:=by kernel_rfl}
def Tryz.lays146_ren:Go.Shelf.Ren:=⟨fun|146=>131|221=>167|268=>199|138=>200|143=>110|195=>220|197=>161|218=>221|219=>151|260=>194|217=>149|225=>186|224=>187|267=>188|266=>185|314=>211|n=>n,fun|9=>9|31=>24|3=>3|4=>4|0=>0|105=>191|21=>21|5=>5|46=>175|119=>182|139=>230|138=>229|146=>233|51=>205|n=>n,fun|1=>1|3=>3|4=>4|n=>n⟩
theorem Tryz.lays146:Go.Proofs.Lays.n146 Tryz.prog Tryz.lays146_ren:={
 mixed:=by kernel_rfl
 f138:=Tryz.func200.trans (aL9 some pU)
 f143:=Tryz.func110.trans (aL9 some pU)
 f146:=Tryz.func131.trans (aL9 some pU)
 f195:=Tryz.func220.trans (aL9 some pU)
 f197:=Tryz.func161.trans (aL9 some pU)
 f217:=Tryz.func149.trans (aL9 some pU)
 f218:=Tryz.func221.trans (aL9 some pU)
 f219:=Tryz.func151.trans (aL9 some pU)
 f221:=Tryz.func167.trans (aL9 some pU)
 f224:=Tryz.func187.trans (aL9 some pU)
 f225:=Tryz.func186.trans (aL9 some pU)
 f260:=Tryz.func194.trans (aL9 some pU)
 f266:=Tryz.func185.trans (aL9 some pU)
 f267:=Tryz.func188.trans (aL9 some pU)
 f268:=Tryz.func199.trans (aL9 some pU)
 f314:=Tryz.func211.trans (aL9 some pU)
 t0:=Tryz.underlying0
 a0:=Tryz.isAgg0
 z0:=Tryz.sizeOf0
 v0:=Tryz.zeroValue0
 t3:=Tryz.underlying3
 a3:=Tryz.isAgg3
 z3:=Tryz.sizeOf3
 v3:=Tryz.zeroValue3
 t4:=Tryz.underlying4
 a4:=Tryz.isAgg4
 z4:=Tryz.sizeOf4
 v4:=Tryz.zeroValue4
 t5:=Tryz.underlying5
 a5:=Tryz.isAgg5
 z5:=Tryz.sizeOf5
 v5:=Tryz.zeroValue5
 t9:=Tryz.underlying9
 a9:=Tryz.isAgg9
 z9:=Tryz.sizeOf9
 v9:=Tryz.zeroValue9
 t21:=Tryz.underlying21
 a21:=Tryz.isAgg21
 z21:=Tryz.sizeOf21
 v21:=Tryz.zeroValue21
 t31:=Tryz.underlying24
 a31:=Tryz.isAgg24
 z31:=Tryz.sizeOf24
 v31:=Tryz.zeroValue24
 t46:=Tryz.underlying175
 a46:=Tryz.isAgg175
 z46:=Tryz.sizeOf175
 v46:=Tryz.zeroValue175
 t51:=Tryz.underlying205
 a51:=Tryz.isAgg205
 z51:=Tryz.sizeOf205
 v51:=Tryz.zeroValue205
 t105:=Tryz.underlying191
 a105:=Tryz.isAgg191
 z105:=Tryz.sizeOf191
 v105:=Tryz.zeroValue191
 t119:=Tryz.underlying182
 a119:=Tryz.isAgg182
 z119:=Tryz.sizeOf182
 t138:=Tryz.underlying229
 a138:=Tryz.isAgg229
 z138:=Tryz.sizeOf229
 v138:=Tryz.zeroValue229
 t139:=Tryz.underlying230
 a139:=Tryz.isAgg230
 z139:=Tryz.sizeOf230
 v139:=Tryz.zeroValue230
 t146:=Tryz.underlying233
 a146:=Tryz.isAgg233
 z146:=Tryz.sizeOf233
 v146:=Tryz.zeroValue233
 g1:=by kernel_rfl
 g3:=by kernel_rfl
 g4:=by kernel_rfl}
def Tryz.lays157_ren:Go.Shelf.Ren:=⟨fun|157=>113|229=>152|199=>153|261=>189|311=>212|312=>213|n=>n,fun|9=>9|31=>24|3=>3|5=>5|4=>4|119=>182|0=>0|40=>184|152=>211|21=>21|154=>213|51=>205|141=>215|196=>238|193=>235|198=>241|49=>239|194=>236|201=>244|226=>254|46=>175|227=>255|n=>n,fun|0=>0|6=>2|n=>n⟩
theorem Tryz.lays157:Go.Proofs.Lays.n157 Tryz.prog Tryz.lays157_ren:={
 mixed:=by kernel_rfl
 f157:=Tryz.func113.trans (aL9 some pU)
 f199:=Tryz.func153.trans (aL9 some pU)
 f229:=Tryz.func152.trans (aL9 some pU)
 f261:=Tryz.func189.trans (aL9 some pU)
 f311:=Tryz.func212.trans (aL9 some pU)
 f312:=Tryz.func213.trans (aL9 some pU)
 t0:=Tryz.underlying0
 a0:=Tryz.isAgg0
 z0:=Tryz.sizeOf0
 v0:=Tryz.zeroValue0
 t3:=Tryz.underlying3
 a3:=Tryz.isAgg3
 z3:=Tryz.sizeOf3
 v3:=Tryz.zeroValue3
 t4:=Tryz.underlying4
 a4:=Tryz.isAgg4
 z4:=Tryz.sizeOf4
 v4:=Tryz.zeroValue4
 t5:=Tryz.underlying5
 a5:=Tryz.isAgg5
 z5:=Tryz.sizeOf5
 v5:=Tryz.zeroValue5
 t9:=Tryz.underlying9
 a9:=Tryz.isAgg9
 z9:=Tryz.sizeOf9
 v9:=Tryz.zeroValue9
 t21:=Tryz.underlying21
 a21:=Tryz.isAgg21
 z21:=Tryz.sizeOf21
 v21:=Tryz.zeroValue21
 t31:=Tryz.underlying24
 a31:=Tryz.isAgg24
 z31:=Tryz.sizeOf24
 v31:=Tryz.zeroValue24
 t40:=Tryz.underlying184
 a40:=Tryz.isAgg184
 z40:=Tryz.sizeOf184
 v40:=Tryz.zeroValue184
 t46:=Tryz.underlying175
 a46:=Tryz.isAgg175
 z46:=Tryz.sizeOf175
 v46:=Tryz.zeroValue175
 t49:=Tryz.underlying239
 a49:=Tryz.isAgg239
 z49:=Tryz.sizeOf239
 v49:=Tryz.zeroValue239
 t51:=Tryz.underlying205
 a51:=Tryz.isAgg205
 z51:=Tryz.sizeOf205
 v51:=Tryz.zeroValue205
 t119:=Tryz.underlying182
 a119:=Tryz.isAgg182
 z119:=Tryz.sizeOf182
 t141:=Tryz.underlying215
 a141:=Tryz.isAgg215
 z141:=Tryz.sizeOf215
 v141:=Tryz.zeroValue215
 t152:=Tryz.underlying211
 a152:=Tryz.isAgg211
 z152:=Tryz.sizeOf211
 v152:=Tryz.zeroValue211
 t154:=Tryz.underlying213
 a154:=Tryz.isAgg213
 z154:=Tryz.sizeOf213
 v154:=Tryz.zeroValue213
 t193:=Tryz.underlying235
 a193:=Tryz.isAgg235
 z193:=Tryz.sizeOf235
 v193:=Tryz.zeroValue235
 t194:=Tryz.underlying236
 a194:=Tryz.isAgg236
 z194:=Tryz.sizeOf236
 v194:=Tryz.zeroValue236
 t196:=Tryz.underlying238
 a196:=Tryz.isAgg238
 z196:=Tryz.sizeOf238
 v196:=Tryz.zeroValue238
 t198:=Tryz.underlying241
 a198:=Tryz.isAgg241
 z198:=Tryz.sizeOf241
 v198:=Tryz.zeroValue241
 t201:=Tryz.underlying244
 a201:=Tryz.isAgg244
 z201:=Tryz.sizeOf244
 v201:=Tryz.zeroValue244
 t226:=Tryz.underlying254
 a226:=Tryz.isAgg254
 z226:=Tryz.sizeOf254
 v226:=Tryz.zeroValue254
 t227:=Tryz.underlying255
 a227:=Tryz.isAgg255
 z227:=Tryz.sizeOf255
 v227:=Tryz.zeroValue255
 g0:=by kernel_rfl
 g6:=by kernel_rfl}
def Tryz.lays194_ren:Go.Shelf.Ren:=⟨fun|194=>91|n=>n,fun|31=>24|9=>9|3=>3|4=>4|0=>0|n=>n,fun|n=>n⟩
theorem Tryz.lays194:Go.Proofs.Lays.n194 Tryz.prog Tryz.lays194_ren:={
 mixed:=by kernel_rfl
 f194:=Tryz.func91.trans (aL9 some pU)
 t0:=Tryz.underlying0
 a0:=Tryz.isAgg0
 z0:=Tryz.sizeOf0
 v0:=Tryz.zeroValue0
 t3:=Tryz.underlying3
 a3:=Tryz.isAgg3
 z3:=Tryz.sizeOf3
 v3:=Tryz.zeroValue3
 t4:=Tryz.underlying4
 a4:=Tryz.isAgg4
 z4:=Tryz.sizeOf4
 v4:=Tryz.zeroValue4
 t9:=Tryz.underlying9
 a9:=Tryz.isAgg9
 z9:=Tryz.sizeOf9
 v9:=Tryz.zeroValue9
 t31:=Tryz.underlying24
 a31:=Tryz.isAgg24
 z31:=Tryz.sizeOf24
 v31:=Tryz.zeroValue24}
def Tryz.laysDf_ren:Go.Shelf.Ren:=⟨fun|10=>130|6=>137|n=>n,fun|22=>24|23=>9|25=>58|3=>3|4=>4|0=>0|n=>n,fun|n=>n⟩
theorem Tryz.laysDf:Go.Proofs.SlLaysH.n10 Tryz.prog Tryz.laysDf_ren:={
 mixed:=by kernel_rfl
 f6:=⟨Tryz.f137.name,pH,Tryz.func137.trans (aL9 some pU)⟩
 f10:=⟨Tryz.f130.name,pH,Tryz.func130.trans (aL9 some pU)⟩
 t0:=Tryz.underlying0
 a0:=Tryz.isAgg0
 z0:=Tryz.sizeOf0
 v0:=Tryz.zeroValue0
 t3:=Tryz.underlying3
 a3:=Tryz.isAgg3
 z3:=Tryz.sizeOf3
 v3:=Tryz.zeroValue3
 t4:=Tryz.underlying4
 a4:=Tryz.isAgg4
 z4:=Tryz.sizeOf4
 v4:=Tryz.zeroValue4
 t22:=Tryz.underlying24
 a22:=Tryz.isAgg24
 z22:=Tryz.sizeOf24
 v22:=Tryz.zeroValue24
 a23:=Tryz.isAgg9
 z23:=Tryz.sizeOf9
 t25:=Tryz.underlying58
 a25:=Tryz.isAgg58
 z25:=Tryz.sizeOf58
 v25:=Tryz.zeroValue58}
def Tryz.lays219_ren:Go.Shelf.Ren:=⟨fun|219=>151|217=>149|225=>186|224=>187|267=>188|266=>185|314=>211|n=>n,fun|9=>9|3=>3|4=>4|5=>5|46=>175|146=>233|51=>205|n=>n,fun|1=>1|n=>n⟩
theorem Tryz.lays219:Go.Proofs.Lays.n219 Tryz.prog Tryz.lays219_ren:={
 mixed:=by kernel_rfl
 f217:=Tryz.func149.trans (aL9 some pU)
 f219:=Tryz.func151.trans (aL9 some pU)
 f224:=Tryz.func187.trans (aL9 some pU)
 f225:=Tryz.func186.trans (aL9 some pU)
 f266:=Tryz.func185.trans (aL9 some pU)
 f267:=Tryz.func188.trans (aL9 some pU)
 f314:=Tryz.func211.trans (aL9 some pU)
 t3:=Tryz.underlying3
 a3:=Tryz.isAgg3
 z3:=Tryz.sizeOf3
 v3:=Tryz.zeroValue3
 t4:=Tryz.underlying4
 a4:=Tryz.isAgg4
 z4:=Tryz.sizeOf4
 v4:=Tryz.zeroValue4
 t5:=Tryz.underlying5
 a5:=Tryz.isAgg5
 z5:=Tryz.sizeOf5
 v5:=Tryz.zeroValue5
 t9:=Tryz.underlying9
 a9:=Tryz.isAgg9
 z9:=Tryz.sizeOf9
 v9:=Tryz.zeroValue9
 t46:=Tryz.underlying175
 a46:=Tryz.isAgg175
 z46:=Tryz.sizeOf175
 v46:=Tryz.zeroValue175
 t51:=Tryz.underlying205
 a51:=Tryz.isAgg205
 z51:=Tryz.sizeOf205
 v51:=Tryz.zeroValue205
 t146:=Tryz.underlying233
 a146:=Tryz.isAgg233
 z146:=Tryz.sizeOf233
 v146:=Tryz.zeroValue233
 g1:=by kernel_rfl}
end Go.Proofs
namespace Go.Proofs.YtkpflnijijccpaaGreatDoor
open Vc Go.RowKit
theorem a9d {g:Gh}{w:pR}{e:TypeId}{l:pE}{n:Nat}{v:pS}(hH:sG g w (qM 0 [.row e .str l n])) (hv:rJ g w (.own 0 n,none) v):
  l.length=n/\g.cur 0 n=some v/\((v= .slice none 0 0/\n=0)\/∃b cap cur,v= .slice (some ⟨b,0,none⟩) n cap/\w.heap[b]? =some (.cells cur e (0,0))/\n<=cap/\cap<=maxLen/\cur.size=cap/\Go.Sort.Holds Go.Proofs.encStr w b 0 l.toArray/\b<w.heap.size):=by
 have hg0:qD (qM 0 [q9.row e .str l n]) 0=some (.row e .str l n):=rfl;obtain⟨hl,v',xs,hcur,hown,hF,hnone,hseal⟩:=hH.blk 0 _ hg0;have hva:v=v':=by
  have:=hv.1.1;rw[hcur] at this;exact(aLS this).symm
 subst hva;subst hl;refine⟨rfl,hcur,?_⟩;obtain⟨hx,⟨rfl,h0⟩ |⟨b,cap,cur,rfl,hb0,hbk,hnc,hcm,hcs,htk⟩⟩:=hown
 .exact .inl ⟨rfl,h0⟩
 .have hxs:=Y9 hF;subst hxs;have hc1:(Ty.str).cells=1:=rfl;rw[hc1,aNC] at hcs htk;refine .inr ⟨b,cap,cur,rfl,hbk,hnc,hcm,hcs,?_,?_⟩
  .intro j hj;have hj':j<l.length:=by simpa using hj
   refine⟨?_,Lib.frozen_of_heap hbk _⟩;rw[Lib.cell_of_heap hbk,aMs];have h2:(cur.toList.take l.length)[j]? =(l.map Go.Proofs.encStr)[j]? :=by rw[htk]
   rw[aMW hj',aMT] at h2;rw[h2];simp [hj']
  .rcases aMY b w.heap.size with h|h
   .exact h
   .rw[Array.getElem?_eq_none h] at hbk;cases hbk
theorem a9e {g:Gh}{w:pR}{e:TypeId}{l l':pE}{n q b cap:Nat}{cur:Array pS}{side:List Prop}{pad:pE}
  (hH:sG g w (qM 0 [.row e .str l n])) (hcur:g.cur 0 n=some (.slice (some ⟨b,0,none⟩) n cap)) (hbk:w.heap[b]? =some (.cells cur e (0,0))) (hcs:cur.size=cap)
  (hcm:cap<=maxLen) (hp:l'.length+pad.length<=cap):
  ∃g',D1 g w [.row e .str l n] ⟨side,[(.own 1 l'.length,none)],[.dead,.row e .str l' l'.length]⟩ g' (Go.Sort.putRow Go.Proofs.encStr (Go.Sort.ahead w q) b 0 (l'++pad).toArray) (.slice (some ⟨b,0,none⟩) l'.length cap):=by
 refine aGS (cur':=Go.Sort.putCells Go.Proofs.encStr 0 (l'++pad).toArray cur) hH hcur hcm pG rfl ?_ (by simpa[Go.Sort.putCells] using hcs) ?_ ⟨rfl,rfl,rfl,by simp,fun k hk hne=> ?_⟩
 .simp [Go.Sort.putRow,Go.Sort.mapBlock,aM0,hbk,Go.Sort.onCells]
 .have h1:=a8W (l'++pad) cur (by rw[aLT];omega);have h2:=aL9 (List.take l'.length) h1;rw[List.take_take,aLT,Nat.min_eq_left (Nat.le_add_right _ _),List.map_append,aMJ pI] at h2;exact h2.trans (List.take_of_length_le pI)
 .have hkb:b≠k:=fun h=>hne (by rw[h]);simp [Go.Sort.putRow,Go.Sort.mapBlock,aM0,hkb]
@[go_sem] def OE:List qC->List q9->Option qI
 |[(.own 0 n,none)],[.row 9 .str l n2]=>some ⟨[n=n2,n2<=9223372036854775807],[(.own 1 (List.length (Lib.compact l)),none)],[.dead,.row 9 .str (Lib.compact l) (List.length (Lib.compact l))]⟩
 |_,_=>none
theorem YO:xR Tryz.prog 91 OE:=by
 refine⟨fun _ _=>rfl,fun g w args vals L r hH ha hC hs=> ?_⟩;unfold OE at hC;split at hC
 .rename_i n l n2;cases hC;obtain rfl:n=n2:=hs _ pI;have hn:=hs (n<=9223372036854775807) pI;clear hs;obtain⟨va,_,rfl,ra,hv⟩:=ha;cases hv;obtain⟨hl,hcur,⟨rfl,rfl⟩ |⟨b,cap,cur,rfl,hbk,hnc,hcm,hcs,hho,hb⟩⟩:=a9d hH ra
  .obtain rfl:l=[]:=aNg.1 hl;refine(Any.slices_Compact_string_empty Tryz.lays194 none 0 w).mono ?_;rintro en w' ⟨rfl,rfl⟩;obtain⟨g',hg⟩:=aGT (side:=[]) hH hcur;exact⟨_,g',rfl,hg.shut,hg.heap,hg.ret,hg.fr,hg.perm,hg.J,hg.ty,hg.Jt,hg.cur⟩
  .subst hl;refine(Any.slices_Compact_string Tryz.lays194 b 0 cap l w hho hn hnc).mono ?_;rintro en w' ⟨rfl,q,rfl⟩;obtain⟨g',hg⟩:=a9e (side:=[]) (q:=q) (l':=Lib.compact l) (pad:=List.replicate (l.length- (Lib.compact l).length) []) hH hcur hbk hcs hcm (by have:=Lib.compact_length_le l;simp;omega);exact⟨_,g',rfl,hg.shut,hg.heap,hg.ret,hg.fr,hg.perm,hg.J,hg.ty,hg.Jt,hg.cur⟩
 .cases hC
def tZ (l:pE):pE:=l.filter fun x=> !decide (x=[])
@[go_sem] def OF:List qC->List q9->Option qI
 |[(.own 0 n,none),(.val .clo (some (132,[])),none)],[.row 9 .str l n2]=>some ⟨[n=n2,0<n2/\n2<=9223372036854775807],[(.own 1 (List.length (tZ l)),none)],[.dead,.row 9 .str (tZ l) (List.length (tZ l))]⟩
 |_,_=>none
theorem a9f (x:pD) (W:pR):FnGives Tryz.prog 132 #[] #[Go.Proofs.encStr x] (.bool (decide (x=[]))) W:=by
 show Calls Tryz.prog 132 #[.string ⟨x.toArray⟩] W _
 go_enter Tryz.func132,Tryz.ntmps132
 go_wp2
 all_goals (go_ret;refine⟨?_,0,rfl⟩;cases x<;>simp_all)
theorem YP:xR Tryz.prog 130 OF:=by
 refine⟨fun _ _=>rfl,fun g w args vals L r hH ha hC hs=> ?_⟩;unfold OF at hC;split at hC
 .rename_i n l n2;cases hC;obtain rfl:n=n2:=hs _ pI;obtain⟨hn0,hn⟩:=hs (0<n/\n<=9223372036854775807) pI;clear hs;obtain⟨va,_,rfl,ra,vb,_,rfl,rb,hv⟩:=ha;cases hv;obtain rfl:vb= .func (.func 132) #[] #[]:=by
   rcases rb.1 with⟨h1,_⟩ |⟨_,vs,h2,h3⟩
   .cases h1
   .rw[show vs=[] from h2] at h3;simpa using h3
  obtain⟨hl,hcur,⟨rfl,rfl⟩ |⟨b,cap,cur,rfl,hbk,hnc,hcm,hcs,hho,hb⟩⟩:=a9d hH ra
  .omega
  .subst hl;refine(AnyE.slices_DeleteFunc Tryz.laysDf Go.Proofs.encStr (fun _=>rfl) (fun x=>decide (x=[])) 132 #[] (fun _ _=>rfl) [] Tryz.zeroValue9 b 0 cap l.toArray w (fun W x _=>a9f x W) (fun n os dk x _=>a9f x _) hho (by simpa using hn) (by simpa using hnc)).mono ?_;rintro en w' ⟨rfl,q,rfl⟩;obtain⟨g',hg⟩:=a9e (side:=[]) (q:=q) (l':=tZ l) (pad:=List.replicate (l.length- (tZ l).length) []) hH hcur hbk hcs hcm (by have:(tZ l).length<=l.length:=List.length_filter_le _ _;simp;omega);exact⟨_,g',rfl,hg.shut,hg.heap,hg.ret,hg.fr,hg.perm,hg.J,hg.ty,hg.Jt,hg.cur⟩
 .cases hC
theorem aGU {w:pR}(h:CP w):Lib.TabIs Tryz.prog w "strings.asciiSpace" .u8 Lib.asciiSpaceTab:=by
 obtain⟨_,e,fz,h1⟩:=h.2.2.2 _ aL7;unfold Lib.TabIs World.var?;rw[show Tryz.prog.globalNamed "strings.asciiSpace" =some 0 from by kernel_rfl]
 simp only[aLP];rw[h1]
@[go_sem] def OG:List qC->List q9->Option qI
 |[(.val .str O,none),(.val .str Z,none)],[]=>some ⟨[(List.all Z fun b=>decide (b.toNat<128))=true/\List.length Z<4294967281,List.length O<=9223372036854775807],[(.val .str (Lib.trimS O Z),none)],[]⟩
 |_,_=>none
theorem YQ:xR Tryz.prog 85 OG:=by
 refine O5 (fun _ _=>rfl) fun g w args vals L r hT ha hC hs=> ?_;unfold OG at hC;split at hC
 .rename_i s c;cases hC;obtain⟨h1,h2⟩:=hs _ aL7;have h3:=hs (List.length s<=9223372036854775807) pI;obtain⟨va,_,rfl,ra,vb,_,rfl,rb,hv⟩:=ha;obtain rfl:=wG ra.1;obtain rfl:=wG rb.1;cases hv;exact⟨rfl,rfl,(Any.strings_Trim_laid Tryz.lays160 pU ⟨List.toArray s⟩ ⟨List.toArray c⟩ w h3 h2 (ascii_of_all h1)).mono fun e w' ⟨he,hb⟩=>⟨_,he,hb,DY _ _ _,trivial⟩⟩
 .cases hC
@[go_sem] def OH:List qC->List q9->Option qI
 |[(.val .str s,none)],[]=>some ⟨[(List.all s fun b=>decide (b.toNat<128))=true/\List.length s<4294967281],[(.own 0 (List.length (Lib.fields s)),none)],[.row 9 .str (Lib.fields s) (List.length (Lib.fields s))]⟩
 |_,_=>none
theorem a9g: ∀(ws:Bool) (s:pD),Lib.cntF ws s<=s.length
 |_,[]=>aMc _
 |ws,b::l=>by
  have:=a9g (Lib.isSp b) l;simp only[Lib.cntF,aLY];split<;>omega
theorem YR:xR Tryz.prog 113 OH:=by
 refine⟨fun _ _=>rfl,fun g w args vals L r hH ha hC hs=> ?_⟩;unfold OH at hC;split at hC
 .rename_i s;cases hC;obtain⟨h1,h2⟩:=hs _ aL7;obtain⟨va,_,rfl,ra,hv⟩:=ha;obtain rfl:=wG ra.1;cases hv;refine(Any.strings_Fields Tryz.lays157 pU pU ⟨List.toArray s⟩ w h2 (ascii_of_all h1) (aGU hH.tab.1)).mono fun e w' ⟨he,hw⟩=> ?_;subst hw;obtain⟨g',hg⟩:=a9c (side:=[]) (w':=w.alloc (.cells ((Lib.fields s).map fun l=>Value.string ⟨l.toArray⟩).toArray 9)) (e:=9) (l:=Lib.fields s) (b:=w.heap.size) hH ((Below.refl _ _).alloc (aMc _) _) (aMc _) rfl (by rw[Lib.fields_length];have:=a9g true s;have:maxLen=9223372036854775807:=rfl;omega) (World.alloc_heap_new _ _);exact⟨_,g',he,hg.shut,hg.heap,hg.ret,hg.fr,hg.perm,hg.J,hg.ty,hg.Jt,hg.cur⟩
 .cases hC
def tM (s c:pD):pE:=(Lib.splitB ⟨List.toArray c⟩ 0 (Lib.countB ⟨List.toArray s⟩ ⟨List.toArray c⟩) ⟨List.toArray s⟩).map (·.data.toList)
@[go_sem] def OI:List qC->List q9->Option qI
 |[(.val .str s,none),(.val .str c,none)],[]=>some ⟨[0<List.length c/\List.length s<4294967281],[(.own 0 (List.length (tM s c)),none)],[.row 9 .str (tM s c) (List.length (tM s c))]⟩
 |_,_=>none
theorem YS:xR Tryz.prog 131 OI:=by
 refine⟨fun _ _=>rfl,fun g w args vals L r hH ha hC hs=> ?_⟩;unfold OI at hC;split at hC
 .rename_i s c;cases hC;obtain⟨h1,h2⟩:=hs _ aL7;obtain⟨va,_,rfl,ra,vb,_,rfl,rb,hv⟩:=ha;obtain rfl:=wG ra.1;obtain rfl:=wG rb.1;cases hv;obtain⟨m,hm⟩:=hH.tab.1.2.2.1;refine(Any.strings_Split Tryz.lays146 pU ⟨List.toArray s⟩ ⟨List.toArray c⟩ m w h2 hm h1).mono fun e w' ⟨he,hw⟩=> ?_;subst hw;have hlen:=Lib.splitB_all ⟨List.toArray c⟩ h1 0 _ ⟨List.toArray s⟩ rfl;have hle:=Lib.countB_le ⟨List.toArray c⟩ h1 (List.length s) ⟨List.toArray s⟩ (aMc _);have hls:(tM s c).length=Lib.countB ⟨List.toArray s⟩ ⟨List.toArray c⟩+1:=by unfold tM;rw[aMM,hlen]
  obtain⟨g',hg⟩:=a9c (side:=[]) (w':=w.alloc (.cells ((Lib.splitB ⟨List.toArray c⟩ 0 (Lib.countB ⟨List.toArray s⟩ ⟨List.toArray c⟩) ⟨List.toArray s⟩).map Value.string).toArray 9)) (e:=9) (l:=tM s c) (b:=w.heap.size) hH ((Below.refl _ _).alloc (aMc _) _) (aMc _) rfl (by rw[hls];have:(⟨List.toArray s⟩:ByteArray).size=List.length s:=rfl;have:maxLen=9223372036854775807:=rfl;omega) (by
   rw[World.alloc_heap_new];unfold tM;rw[List.map_map];rfl)
  exact⟨_,g',he,hg.shut,hg.heap,by rw[<-hls];exact hg.ret,hg.fr,hg.perm,hg.J,hg.ty,hg.Jt,hg.cur⟩
 .cases hC
@[go_sem] def OJ:List qC->List q9->Option qI
 |[(.val .str O,none),(.val .str Z,none)],[]=>some ⟨[List.length O<4294967281],[(.val (.int .i64) (xS O Z),none)],[]⟩
 |_,_=>none
theorem YT:xR Tryz.prog 151 OJ:=by
 refine O5 (fun _ _=>rfl) fun g w args vals L r hT ha hC hs=> ?_;unfold OJ at hC;split at hC
 .rename_i s c;cases hC;have h1:=hs _ aL7;obtain⟨va,_,rfl,ra,vb,_,rfl,rb,hv⟩:=ha;obtain rfl:=wG ra.1;obtain rfl:=wG rb.1;cases hv;obtain⟨m,hm⟩:=hT.2.2.1;exact⟨rfl,rfl,(a8V (Any.stringslite_Index Tryz.lays219 ⟨List.toArray s⟩ ⟨List.toArray c⟩ m w h1 hm)).mono fun e w' ⟨he,hb⟩=>⟨_,he,hb,vX _ _ _ _,trivial⟩⟩
 .cases hC
@[go_sem] abbrev YU:Nat×TI:=(3,⟨(.int .i64),0,0,true,[]⟩)
theorem aGV:tW Tryz.prog YU.1 YU.2:=⟨pU,(show Tryz.prog.underlying _=_ from by kernel_rfl)⟩
end Go.Proofs.YtkpflnijijccpaaGreatDoor
namespace Go.Proofs.YtkpflnijijccpaaGreatDoor
open Vc
namespace Gf
noncomputable section
@[go_sem] abbrev tC:Ty:=(.pair .str (.pair .str (.pair .str (.pair (.list .str) (.pair (.list .str) (.pair (.int .i64) (.pair (.list (.pair .str (.pair .str .unit))) .unit)))))))
@[go_sem] abbrev FB:Ty:=(.pair .str (.pair (.list .str) (.pair (.list (.pair .str (.pair .str .unit))) (.pair (.list tC) .unit))))
@[go_sem] abbrev zM:Ty:=(.pair .str (.pair (.list .str) (.pair .str .unit)))
@[go_sem] abbrev wC:Ty:=(.pair .mref (.pair (.list (.int .u8)) .unit))
abbrev qZ:Type:=(pD×(pD×Unit))
abbrev rW:Type:=(pD×(pD×(pD×(pE×(pE×(Int×((List qZ)×Unit)))))))
abbrev yH:Type:=(pD×(pE×(pD×Unit)))
abbrev sQ:Type:=(pD×(pE×((List qZ)×((List rW)×Unit))))
@[go_sem] abbrev sN:Ty:=(.pair (.int .i64) (.pair .str (.pair (.int .i64) .unit)))
@[go_sem] abbrev sY:Nat×TI:=(9,⟨.str,0,0,false,[]⟩)
theorem tE:tW Tryz.prog sY.1 sY.2:=⟨pU,(show Tryz.prog.underlying _=_ from by kernel_rfl)⟩
@[go_sem] abbrev zN:Nat×TI:=(94,⟨sN,0,1,false,[]⟩)
theorem E5:tW Tryz.prog zN.1 zN.2:=⟨pU,(show ((_/\∃_,_/\_)\/_)/\_ from⟨.inl ⟨rfl,_,Tryz.underlying94,(show _/\_/\_/\_ from⟨rfl,pU,pU,(show _/\_/\_/\_ from⟨rfl,pU,pU,(show _/\_/\_/\_ from⟨rfl,pU,pU,trivial⟩)⟩)⟩)⟩,(fun _=>⟨pU,1,pH,(.struct rfl Tryz.underlying94 pU (.cons pH rfl pU pU (.int Tryz.underlying3) (.cons pH rfl pU pU (.str Tryz.underlying9) (.cons pH rfl pU pU (.int Tryz.underlying3) .nil))))⟩)⟩)⟩
theorem rP:Tryz.prog.follows .mixedOrders=true:=by kernel_rfl
@[go_sem] abbrev FC:Nat×r6:=(108,⟨[.v,.v],O6,[],[],none⟩)
theorem L4:r9 Tryz.prog FC:=⟨Y6,fun _ h=>by cases h⟩
@[go_sem] abbrev L5:Nat×r6:=(127,⟨[.v,.v],O7,[],[],none⟩)
theorem YV:r9 Tryz.prog L5:=⟨Y7,fun _ h=>by cases h⟩
@[go_sem] abbrev IU:Nat×r6:=(85,⟨[.v,.v],OG,[],[],none⟩)
theorem T6:r9 Tryz.prog IU:=⟨YQ,fun _ h=>by cases h⟩
@[go_sem] abbrev L6:Nat×r6:=(179,⟨[.v],O8,[],[],none⟩)
theorem YW:r9 Tryz.prog L6:=⟨Y8,fun _ h=>by cases h⟩
@[go_sem] abbrev GX:Nat×r6:=(58,⟨[.p wC [1]],O9,[],[],none⟩)
theorem OK:r9 Tryz.prog GX:=⟨YB,fun _ h=>by cases h⟩
@[go_sem] abbrev GY:Nat×r6:=(31,⟨[.p wC [1]],OA,[],[],none⟩)
theorem OL:r9 Tryz.prog GY:=⟨YE,fun _ h=>by cases h⟩
@[go_sem] abbrev IV:Nat×r6:=(113,⟨[.v],OH,[],[],none⟩)
theorem T7:r9 Tryz.prog IV:=⟨YR,fun _ h=>by cases h⟩
@[go_sem] abbrev L7:Nat×r6:=(131,⟨[.v,.v],OI,[],[],none⟩)
theorem YX:r9 Tryz.prog L7:=⟨YS,fun _ h=>by cases h⟩
@[go_sem] abbrev IW:Nat×r6:=(91,⟨[.r],OE,[],[],none⟩)
theorem T8:r9 Tryz.prog IW:=⟨YO,fun _ h=>by cases h⟩
@[go_sem] abbrev L8:Nat×r6:=(130,⟨[.r,.v],OF,[],[],none⟩)
theorem YY:r9 Tryz.prog L8:=⟨YP,fun _ h=>by cases h⟩
@[go_sem] abbrev L9:Nat×r6:=(159,⟨[.r,.v,.v],OB,[],[],none⟩)
theorem YZ:r9 Tryz.prog L9:=⟨YF,fun _ h=>by cases h⟩
@[go_sem] abbrev IX:Nat×r6:=(151,⟨[.v,.v],OJ,[],[],none⟩)
theorem T9:r9 Tryz.prog IX:=⟨YT,fun _ h=>by cases h⟩
@[go_sem] abbrev IY:Nat×r6:=(88,⟨[.v],T0,[],[],some T1⟩)
theorem TA:r9 Tryz.prog IY:=YA
end
end Gf
namespace Gf
noncomputable section
def elements_closing_step1 (O:pD):(Bool×Int)→Option ((Bool×Int)⊕(Unit⊕Int)):=fun(Z,aA)=>
 if (decide (aA<(List.length O:Int)))=true then
  if 0≤aA∧aA<(List.length O:Int) then
   if (decide ((tU O aA)=(34:Int)))=true then
    if qE (aA+(1:Int)) then
     some (.inl ((!Z),(aA+(1:Int))))
    else none
   else
    if 0≤aA∧aA<(List.length O:Int) then
     if ((decide ((tU O aA)=(62:Int)))&&(!Z))=true then
      some (.inr (.inr (aA)))
     else
      if qE (aA+(1:Int)) then
       some (.inl (Z,(aA+(1:Int))))
      else none
    else none
  else none
 else
  some (.inr (.inl ()))
def elements_closing (O:pD):Option Int:=
 uT (rX (elements_closing_step1 O) (false,(0:Int))) fun _=>
 some ((-1:Int))
section
variable (O:pD)
abbrev Z0:List qC:=[(.val .str O,none)]
abbrev Z1:List q9:=[]
@[go_sem] def Z2:qI:=⟨[((elements_closing O)).isSome=true],[(.val (.int .i64) (val (elements_closing O)),none)],[]⟩
def a9h:List qC→List q9→Option qI:=rU (V:=pD) (fun x=>Z0 x) (fun x=>Z1) fun x=>Z2 x
@[go_sem] theorem aKq:a9h (no_index (Z0 O)) (no_index Z1)=some (Z2 O):=rY (fun a0 b0 h1 h2=>by cases h1;cases h2;rfl) O
end
@[go_sem] abbrev a9i:Nat×r6:=(111,⟨[.v],a9h,[],[],none⟩)
theorem BP:rN Tryz.prog [sY] (rO []):=⟨⟨tE,trivial⟩,rR,rP⟩
theorem aGW:r9 Tryz.prog a9i:=by
 refine rZ BP Tryz.func111 (c:=_) rfl (N:=28) pU (ts:=[(2,none)]) rfl (fun _ _=>rfl) ?_;intro O hs hrow;dsimp only[Z0,Z1,Z2,rQ,qM,r5,rF,rT,Nat.reduceAdd] at hs hrow|-;have hz:=hs;obtain⟨z0,hC0⟩:=aLR.1 hz
 try rw[sC hC0]
 clear hz hs;unfold elements_closing at hC0;refine qB BP ?_;refine qB BP ?_;refine qT ?_;refine qB BP ?_;refine s9 ?_;obtain⟨y1,hy1,hC0⟩:=wB hC0;refine v6 0 (fun s=> ∃v,y1= .inl v∧s=(fun _=>⟨[],[],0,28,0⟩) v) ?_ ?_
 .refine uS hy1 (fun x=>⟨[(0,(.val .str O,none)),(3,(.val .bool x.1,none)),(6,(.val (.int .i64) (List.length O:Int),none)),(7,(.val (.int .i64) x.2,none))],[],0,28,0⟩) ⟨[0,3,6,7],[]⟩ pV ?_;intro x1 w1 n1 hC1 hN1;obtain⟨Z,aA⟩:=x1;unfold elements_closing_step1 at hC1;dsimp only at hC1|-;refine qB BP ?_;refine qT ?_;refine qY hC1 (fun hC1 hc1=> ?_) (fun hC1 hc1=> ?_)
  .refine rG (qQ (qT (s9 ?_)));refine qB BP ?_;refine s9 ?_;obtain⟨hg1,hC1⟩:=qJ hC1;refine qB BP ?_ (hp:=by exact hg1);refine qY hC1 (fun hC1 hc2=> ?_) (fun hC1 hc2=> ?_)
   .refine rL BP ?_;refine rV (rV (qQ ?_));obtain⟨hg2,hC1⟩:=qJ hC1;refine rL BP ?_ (hp:=by exact hg2);cases hC1;exact tQ ⟨⟨[0,3,6,7],[]⟩,_,by rfl,hN1⟩
   .obtain⟨hg3,hC1⟩:=qJ hC1;refine qB BP ?_ (hp:=by exact⟨hg3,fun hh=>hh,(fun hh=>sZ hh)⟩);refine qY hC1 (fun hC1 hc3=> ?_) (fun hC1 hc3=> ?_)
    .refine qB BP ?_;refine qV (sE (sE (s8 (wA (wH (sE (s8 ?_)))))));cases hC1;cases hN1;dsimp only at hC0;cases hC0;exact pF []
    .refine rG (rV (rV (qQ ?_)));obtain⟨hg4,hC1⟩:=qJ hC1;refine rL BP ?_ (hp:=by exact hg4);cases hC1;exact tQ ⟨⟨[0,3,6,7],[]⟩,_,by rfl,hN1⟩
  .refine uO (uN (uQ ?_));cases hC1;cases hN1;exact uP ⟨⟨[],[]⟩,_,rfl,by rfl⟩
 .rintro _ ⟨v,rfl,rfl⟩;dsimp only at hC0|-;refine uY (qQ ?_);refine qB BP ?_;refine qV ?_;cases hC0;exact pF []
attribute [irreducible] elements_closing
def strings_Index (O:pD) (Z:pD):Option Unit:=
 if List.length O<4294967281 then
  some (())
 else none
section
variable (O:pD) (Z:pD)
abbrev Z3:List qC:=[(.val .str O,none),(.val .str Z,none)]
abbrev Z4:List q9:=[]
@[go_sem] def Z5:qI:=⟨[((strings_Index O Z)).isSome=true],[(.val (.int .i64) (xS O Z),none)],[]⟩
def a9j:List qC→List q9→Option qI:=rU (V:=(pD×pD)) (fun x=>Z3 x.1 x.2) (fun x=>Z4) fun x=>Z5 x.1 x.2
@[go_sem] theorem aKr:a9j (no_index (Z3 O Z)) (no_index Z4)=some (Z5 O Z):=rY (fun⟨a0,a1⟩ ⟨b0,b1⟩ h1 h2=>by cases h1;cases h2;rfl) (O,Z)
end
@[go_sem] abbrev a9k:Nat×r6:=(110,⟨[.v,.v],a9j,[],[],none⟩)
theorem Z6:rN Tryz.prog [] (rO [IX]):=⟨trivial,qO T9 rR,rP⟩
theorem aGX:r9 Tryz.prog a9k:=by
 refine rZ Z6 Tryz.func110 (c:=_) rfl (N:=8) pU (ts:=[(4,none)]) rfl (fun _ _=>rfl) ?_;intro⟨O,Z⟩ hs hrow;dsimp only[Z3,Z4,Z5,rQ,qM,r5,rF,rT,Nat.reduceAdd] at hs hrow|-;have hz:=hs;obtain⟨z0,hC0⟩:=aLR.1 hz
 try rw[sC hC0]
 clear hz hs;unfold strings_Index at hC0;refine qB Z6 ?_;obtain⟨hg1,hC0⟩:=qJ hC0;refine qB Z6 ?_ (hp:=by exact hg1);refine qV ?_;cases hC0;exact pF []
attribute [irreducible] strings_Index
def internal_stringslite_HasPrefix (O:pD) (Z:pD):Option Unit:=
 if (((decide ((List.length Z:Int)≤(List.length O:Int)))==true)=true→0≤(0:Int)∧(0:Int)≤(List.length Z:Int)∧(List.length Z:Int)≤(List.length O:Int)) then
  some (())
 else none
section
variable (O:pD) (Z:pD)
abbrev IZ:List qC:=[(.val .str O,none),(.val .str Z,none)]
abbrev J0:List q9:=[]
@[go_sem] def J1:qI:=⟨[((internal_stringslite_HasPrefix O Z)).isSome=true],[(.val .bool ((decide ((List.length Z:Int)≤(List.length O:Int)))&&(decide ((sD O (0:Int) (List.length Z:Int))=Z))),none)],[]⟩
def OM:List qC→List q9→Option qI:=rU (V:=(pD×pD)) (fun x=>IZ x.1 x.2) (fun x=>J0) fun x=>J1 x.1 x.2
@[go_sem] theorem aGY:OM (no_index (IZ O Z)) (no_index J0)=some (J1 O Z):=rY (fun⟨a0,a1⟩ ⟨b0,b1⟩ h1 h2=>by cases h1;cases h2;rfl) (O,Z)
end
@[go_sem] abbrev ON:Nat×r6:=(150,⟨[.v,.v],OM,[],[],none⟩)
theorem J2:rN Tryz.prog [sY] (rO []):=⟨⟨tE,trivial⟩,rR,rP⟩
theorem Z7:r9 Tryz.prog ON:=by
 refine rZ J2 Tryz.func150 (c:=_) rfl (N:=18) pU (ts:=[(4,none)]) rfl (fun _ _=>rfl) ?_;intro⟨O,Z⟩ hs hrow;dsimp only[IZ,J0,J1,rQ,qM,r5,rF,rT,Nat.reduceAdd] at hs hrow|-;have hz:=hs;obtain⟨z0,hC0⟩:=aLR.1 hz
 try rw[sC hC0]
 clear hz hs;unfold internal_stringslite_HasPrefix at hC0;refine qB J2 ?_;obtain⟨hg1,hC0⟩:=qJ hC0;refine qB J2 ?_ (hp:=by exact⟨fun hh=>hh,fun hh=>hh,fun hh=>hh,hg1,fun hh=>hh,fun hh=>hh,(fun hh=>sZ hh)⟩);refine qV ?_;cases hC0;exact pF []
attribute [irreducible] internal_stringslite_HasPrefix
def strings_HasPrefix (O:pD) (Z:pD):Option Unit:=
 (internal_stringslite_HasPrefix O Z).bind fun aA=>
 some (())
section
variable (O:pD) (Z:pD)
abbrev Z8:List qC:=[(.val .str O,none),(.val .str Z,none)]
abbrev Z9:List q9:=[]
@[go_sem] def ZA:qI:=⟨[((strings_HasPrefix O Z)).isSome=true],[(.val .bool ((decide ((List.length Z:Int)≤(List.length O:Int)))&&(decide ((sD O (0:Int) (List.length Z:Int))=Z))),none)],[]⟩
def a9l:List qC→List q9→Option qI:=rU (V:=(pD×pD)) (fun x=>Z8 x.1 x.2) (fun x=>Z9) fun x=>ZA x.1 x.2
@[go_sem] theorem aKs:a9l (no_index (Z8 O Z)) (no_index Z9)=some (ZA O Z):=rY (fun⟨a0,a1⟩ ⟨b0,b1⟩ h1 h2=>by cases h1;cases h2;rfl) (O,Z)
end
@[go_sem] abbrev a9m:Nat×r6:=(109,⟨[.v,.v],a9l,[],[],none⟩)
theorem ZB:rN Tryz.prog [] (rO [ON]):=⟨trivial,qO Z7 rR,rP⟩
theorem aGZ:r9 Tryz.prog a9m:=by
 refine rZ ZB Tryz.func109 (c:=_) rfl (N:=8) pU (ts:=[(4,none)]) rfl (fun _ _=>rfl) ?_;intro⟨O,Z⟩ hs hrow;dsimp only[Z8,Z9,ZA,rQ,qM,r5,rF,rT,Nat.reduceAdd] at hs hrow|-;have hz:=hs;obtain⟨z0,hC0⟩:=aLR.1 hz
 try rw[sC hC0]
 clear hz hs;unfold strings_HasPrefix at hC0;refine qB ZB ?_;obtain⟨aA,hv1,hw1,hC0⟩:=qS hC0
 try simp only[go_sem] at hw1
 refine qB ZB ?_ (hp:=by exact(qR hv1)) (h:=by simp only[go_sem,hw1];rfl);refine qV ?_;cases hC0;exact pF []
attribute [irreducible] strings_HasPrefix
def elements_first (O:pD) (Z:Int):Option (Int×pD):=
 t8 (σ:=(Int×Int)) (
   (strings_HasPrefix O ([60,33,45,45]:pD)).bind fun aA=>
   if ((decide ((List.length ([60,33,45,45]:pD):Int)≤(List.length O:Int)))&&(decide ((sD O (0:Int) (List.length ([60,33,45,45]:pD):Int))=([60,33,45,45]:pD))))=true then
    if 0≤(4:Int)∧(4:Int)≤(List.length O:Int)∧(List.length O:Int)≤(List.length O:Int) then
     (strings_Index (sD O (4:Int) (List.length O:Int)) ([45,45,62]:pD)).bind fun aB=>
     if (decide ((0:Int)≤(xS (sD O (4:Int) (List.length O:Int)) ([45,45,62]:pD))))=true then
      if qE ((xS (sD O (4:Int) (List.length O:Int)) ([45,45,62]:pD))+(7:Int)) then
       some (((1:Int),((xS (sD O (4:Int) (List.length O:Int)) ([45,45,62]:pD))+(7:Int))))
      else none
     else
      some (((1:Int),(xS (sD O (4:Int) (List.length O:Int)) ([45,45,62]:pD))))
    else none
   else
    if 0≤(0:Int)∧(0:Int)<(List.length O:Int) then
     if (decide ((tU O (0:Int))=(60:Int)))=true then
      (elements_closing O).bind fun aC=>
      if qE (aC+(1:Int)) then
       if (decide ((aC+(1:Int))=(0:Int)))=true then
        some (((2:Int),(-1:Int)))
       else
        some (((2:Int),(aC+(1:Int))))
      else none
     else
      if (decide ((uU O (60:Int))<(0:Int)))=true then
       some (((3:Int),(List.length O:Int)))
      else
       some (((3:Int),(uU O (60:Int))))
    else none
  ) fun(aD,aE)=>
 if (decide (aE<(0:Int)))=true then
  some (((0:Int),([]:pD)))
 else
  if 0≤(0:Int)∧(0:Int)≤aE∧aE≤(List.length O:Int) then
   some ((aD,(sD O (0:Int) aE)))
  else none
section
variable (O:pD) (Z:Int)
abbrev ZC:List qC:=[(.val .str O,none),(.val (.int .i64) Z,none)]
abbrev ZD:List q9:=[]
@[go_sem] def elements_firstR:qI:=⟨[((elements_first O Z)).isSome=true],[(.val sN ((val (elements_first O Z)).1,((val (elements_first O Z)).2,(Z,()))),none)],[]⟩
def a9n:List qC→List q9→Option qI:=rU (V:=(pD×Int)) (fun x=>ZC x.1 x.2) (fun x=>ZD) fun x=>elements_firstR x.1 x.2
@[go_sem] theorem elements_firstC_eq:a9n (no_index (ZC O Z)) (no_index ZD)=some (elements_firstR O Z):=rY (fun⟨a0,a1⟩ ⟨b0,b1⟩ h1 h2=>by cases h1;cases h2;rfl) (O,Z)
end
@[go_sem] abbrev aG0:Nat×r6:=(79,⟨[.v,.v],a9n,[],[],none⟩)
theorem zO:rN Tryz.prog [sY,zN] (rO [FC,a9m,a9k,a9i]):=⟨⟨tE,⟨E5,trivial⟩⟩,qO L4 (qO aGZ (qO aGX (qO aGW rR))),rP⟩
theorem elements_first_con:r9 Tryz.prog aG0:=by
 refine rZ zO Tryz.func79 (c:=_) rfl (N:=43) pU (ts:=[(4,some 94)]) rfl (fun _ _=>rfl) ?_;intro⟨O,Z⟩ hs hrow;dsimp only[ZC,ZD,elements_firstR,rQ,qM,r5,rF,rT,Nat.reduceAdd] at hs hrow|-;have hz:=hs;obtain⟨z0,hC0⟩:=aLR.1 hz
 try rw[sC hC0]
 clear hz hs;unfold elements_first at hC0;refine qB zO ?_;refine qB zO ?_;refine qT ?_;obtain⟨y1,hC1,hC0⟩:=qK hC0;refine AO (fun s=>s=(fun x=>⟨[(0,(.val .str O,none)),(1,(.val (.int .i64) Z,none)),(4,(.val .ref (some (0,0)),none)),(5,(.val (.int .i64) x.1,none)),(6,(.val (.int .i64) x.2,none))],[(0,.cells sN ((0:Int),(([]:pD),((0:Int),()))) [])],1,43,0⟩) y1) ?_ ?_
 .refine s9 ?_;obtain⟨aA,hv1,hw1,hC1⟩:=qS hC1
  try simp only[go_sem] at hw1
  refine qB zO ?_ (hp:=by exact(qR hv1)) (h:=by simp only[go_sem,hw1];rfl);refine qY hC1 (fun hC1 hc1=> ?_) (fun hC1 hc1=> ?_)
  .obtain⟨hg2,hC1⟩:=qJ hC1;obtain⟨aB,hv3,hw3,hC1⟩:=qS hC1
   try simp only[go_sem] at hw3
   refine qB zO ?_ (hp:=by exact⟨hg2,(qR hv3)⟩) (h:=by simp only[go_sem,hw3];rfl);refine qB zO ?_;refine qY hC1 (fun hC1 hc2=> ?_) (fun hC1 hc2=> ?_)
   .obtain⟨hg4,hC1⟩:=qJ hC1;refine rL zO ?_ (hp:=by exact hg4);refine rV ?_;cases hC1;exact v7 ⟨⟨[0,1,4,5,6],[(0,0)]⟩,by rfl⟩
   .refine rG (rV ?_);cases hC1;exact v7 ⟨⟨[0,1,4,5,6],[(0,0)]⟩,by rfl⟩
  .obtain⟨hg5,hC1⟩:=qJ hC1;refine qB zO ?_ (hp:=by exact hg5);refine qY hC1 (fun hC1 hc3=> ?_) (fun hC1 hc3=> ?_)
   .obtain⟨aC,hv6,hw6,hC1⟩:=qS hC1
    try simp only[go_sem] at hw6
    obtain⟨hg7,hC1⟩:=qJ hC1;refine qB zO ?_ (hp:=by exact⟨qR hv6,hg7⟩) (h:=by simp only[go_sem,hw6];rfl);refine qB zO ?_;refine qY hC1 (fun hC1 hc4=> ?_) (fun hC1 hc4=> ?_)
    .refine rL zO ?_;refine rV ?_;cases hC1;exact v7 ⟨⟨[0,1,4,5,6],[(0,0)]⟩,by rfl⟩
    .refine rG (rV ?_);cases hC1;exact v7 ⟨⟨[0,1,4,5,6],[(0,0)]⟩,by rfl⟩
   .refine qB zO ?_;refine qY hC1 (fun hC1 hc5=> ?_) (fun hC1 hc5=> ?_)
    .refine rL zO ?_;refine rV ?_;cases hC1;exact v7 ⟨⟨[0,1,4,5,6],[(0,0)]⟩,by rfl⟩
    .refine rG (rV ?_);cases hC1;exact v7 ⟨⟨[0,1,4,5,6],[(0,0)]⟩,by rfl⟩
 .rintro _ rfl;obtain⟨aD,aE⟩:=y1;dsimp only at hC0|-;refine qQ (qT ?_);refine qB zO ?_;refine qY hC0 (fun hC0 hc6=> ?_) (fun hC0 hc6=> ?_)
  .refine qB zO ?_;refine qV (s8 ?_);cases hC0;exact pF []
  .refine rG (qQ ?_);obtain⟨hg8,hC0⟩:=qJ hC0;refine qB zO ?_ (hp:=by exact hg8);refine qV ?_;cases hC0;exact pF []
attribute [irreducible] elements_first
end
end Gf
end Go.Proofs.YtkpflnijijccpaaGreatDoor
section
end
namespace Go.Proofs.YtkpflnijijccpaaGreatDoor
open Go.RowKit Go.Shelf Vc
theorem aG1 {f:FuncId}{C:List qC→List q9→Option qI}{args:List qC}{vals:pN}{r:qI}{t:Ty}{x:t.den}{w:pR}(h:xR Tryz.prog f C) (hT:CP w)
    (ha: ∀g,uX g w args vals) (hC:C args []=some r) (hs: ∀p∈r.side,p) (hr:r.ret=[(.val t x,none)]):
    Calls Tryz.prog f vals.toArray w fun e w'=> ∃v,e= .returned v∧Below w.heap.size w w'∧∃g',tJ g' w' t x v:=by
  have hH:sG ⟨fun _ _=>False,fun _=>none,fun _ _=>none⟩ w (qM 0 []):=⟨fun _ _ h=>(by cases h),fun _ _ _ _ _ _ _ h=>(by cases h),fun _ _ h=>h.elim,⟨hT,fun _ _ _ _ h=>(by cases h)⟩⟩;refine(h.2 _ w args vals [] r hH (ha _) hC hs).mono ?_;rintro e w' ⟨v,g',he,ho⟩;refine⟨v,he,⟨ho.fr.os,ho.fr.tape,ho.fr.output,ho.fr.size,fun b hb=>ho.fr.blk b hb fun o ⟨i,blk,h1,_⟩=>(by cases h1)⟩,g',?_⟩;have:=ho.ret;rw[hr] at this;exact this.1
def clo:Bool→pD→pP
  |_,[]=>none
  |q,b::r=>if b=34 then(clo (!q) r).map (· +1) else if b=62∧q=false then some 0 else(clo q r).map (· +1)
def A8 (s:pD):Int:=match clo false s with
  |some k=>k
  |none=> -1
theorem TB: ∀{s:pD}{q:Bool}{k:Nat},clo q s=some k→k<s.length
  |[],_,_,h=>by cases h
  | b::r,q,k,h=>by
    unfold clo at h;split at h
    · obtain⟨j,h1,rfl⟩:=aLW.1 h
      have:=TB h1;simp only[aLY];omega
    · split at h
      .cases h;simp
      · obtain⟨j,h1,rfl⟩:=aLW.1 h
        have:=TB h1;simp only[aLY];omega
theorem TC {l:pD}{i:Nat}(h:i<l.length):tU l (i:Int)=(l[i].toNat:Int):=by
  unfold tU;rw[aMK,aMr,aLZ h];rfl
theorem ZE (b:UInt8) (n:Nat) (hn:n<256):decide ((b.toNat:Int)=(n:Int))=decide (b=n.toUInt8):=by
  rw[aNQ];constructor
  · intro h
    have:b.toNat=n:=by omega
    rw[←this];simp
  · rintro rfl
    simp only[Nat.toUInt8,UInt8.toNat_ofNat'];omega
theorem ZF (s:pD) (hs:s.length≤4294967281): ∀(n i:Nat) (q:Bool),i+n=s.length→rX (Gf.elements_closing_step1 s) (q,(i:Int))=some (match clo q (s.drop i) with
    |some k=> .inr ((i+k:Nat):Int)
    |none=> .inl ())
  | 0,i,q,hi=>by
    have:i=s.length:=by omega
    subst this;rw[aMU];refine vF ?_;unfold Gf.elements_closing_step1;dsimp only;rw[aLU pI];rfl
  | n+1,i,q,hi=>by
    have h:i<s.length:=by omega
    rw[aMw h];have h34:decide ((s[i].toNat:Int)=34)=decide (s[i]=34):=ZE s[i] 34 pH;have h62:decide ((s[i].toNat:Int)=62)=decide (s[i]=62):=ZE s[i] 62 pH;have hr:0≤(i:Int)∧(i:Int)<(s.length:Int):=⟨pG,pG⟩;have hi64:qE ((i:Int)+1):=by unfold qE;omega
    unfold clo;by_cases e34:s[i]=34
    · have hst:Gf.elements_closing_step1 s (q,(i:Int))=some (.inl (!q,((i+1:Nat):Int))):=by
        unfold Gf.elements_closing_step1;dsimp only;rw[aLQ (by simpa using h),aLQ hr,TC h,h34,aLQ (by simpa using e34),aLQ hi64];rfl
      rw[vN hst,ZF s hs n (i+1) (!q) pG,aLQ e34];cases clo (!q) (s.drop (i+1)) with
      |none=>rfl
      |some k=>simp only[Option.map_some];rw[show i+1+k=i+(k+1) by omega]
    · by_cases e62:s[i]=62∧q=false
      · obtain⟨e1,rfl⟩:=e62
        have hst:Gf.elements_closing_step1 s (false,(i:Int))=some (.inr (.inr (i:Int))):=by
          unfold Gf.elements_closing_step1;dsimp only;rw[aLQ (by simpa using h),aLQ hr,TC h,h34,aLU (by simpa using e34),aLQ hr,h62,aLQ (by simpa using e1)]
        rw[vF hst,aLU e34,aLQ ⟨e1,rfl⟩];rfl
      · have hst:Gf.elements_closing_step1 s (q,(i:Int))=some (.inl (q,((i+1:Nat):Int))):=by
          unfold Gf.elements_closing_step1;dsimp only;rw[aLQ (by simpa using h),aLQ hr,TC h,h34,aLU (by simpa using e34),aLQ hr,h62,aLU (by simpa using e62),aLQ hi64];rfl
        rw[vN hst,ZF s hs n (i+1) q pG,aLU e34,aLU e62];cases clo q (s.drop (i+1)) with
        |none=>rfl
        |some k=>simp only[Option.map_some];rw[show i+1+k=i+(k+1) by omega]
theorem aG2 (s:pD) (hs:s.length≤4294967281):Gf.elements_closing s=some (A8 s):=by
  have h:=ZF s hs s.length 0 false pG;rw[aNb] at h;have h':rX (Gf.elements_closing_step1 s) (false,(0:Int))=_:=h;unfold Gf.elements_closing A8;rw[h'];cases clo false s with
  |none=>rfl
  |some k=>simp only[aMs];rfl
theorem ZG (s:pD): -1≤A8 s∧A8 s<s.length:=by
  unfold A8;cases h:clo false s with
  |none=>exact⟨pH,by show (-1:Int)<_;omega⟩
  |some k=>have:=TB h;exact⟨by show (-1:Int)≤(k:Int);omega,by show (k:Int)<_;omega⟩
abbrev OO:pD:=[60,33,45,45]
def xG (s:pD):Bool:=decide (s.take 4=OO)
def vH (s:pD):Int×Int:=
  if xG s=true then(1,if 0≤Lib.index (s.drop 4) [45,45,62] then Lib.index (s.drop 4) [45,45,62]+7 else Lib.index (s.drop 4) [45,45,62])
  else if s.head? =some 60 then(2,if A8 s+1=0 then-1 else A8 s+1)
  else(3,if Lib.indexByte s 60<0 then s.length else Lib.indexByte s 60)
def rM (s:pD):Int×pD:=if (vH s).2<0 then(0,[]) else((vH s).1,s.take (vH s).2.toNat)
theorem ZH (s:pD) (hs:s≠[]):(vH s).2≤s.length∧((vH s).2<0∨0<(vH s).2):=by
  unfold vH;split
  · rename_i hn
    have h4:4≤s.length:=by
      have:=aL9 List.length (aMv hn);rw[aMd] at this;simp only[aLY,aMh] at this;omega
    dsimp only;split
    · rename_i h0
      have:=Lib.index_room (s.drop 4) [45,45,62] h0;rw[aL8] at this;simp only[aLY,aMh] at this;omega
    .omega
  · split
    · have:=ZG s
      dsimp only;split<;>omega
    · rename_i h60
      have:=T5 s 60;dsimp only;split
      · have:s.length≠0:=by simpa using hs
        omega
      · cases s with
        |nil=>exact absurd rfl hs
        | cons b r=>
          have hb:b≠60:=fun e=>h60 (by rw[e];rfl);rename_i h0
          have hne:Lib.indexByte (b::r) 60≠0:=by
            unfold Lib.indexByte;rw[aLU (by simpa using hb)];have h2:=T5 r 60;split
            .simp
            · rename_i h5
              have h6:Lib.indexByte r 60≠ -1:=by simpa using h5
              omega
          rcases Int.lt_or_gt_of_ne hne with h9|h9
          .exact absurd h9 h0
          .exact⟨pG,.inr h9⟩
theorem a9o {α:Type}(s:List α) (n:Int):sD s 0 n=s.take n.toNat:=by unfold sD;simp
theorem aG3 (s:pD) (hs:s≠[]) (hl:s.length<4294967281) (fr:Int):Gf.elements_first s fr=some (rM s):=by
  have hpos:0<s.length:=aMn.2 hs;have h0:tU s 0=(s[0].toNat:Int):=TC (i:=0) hpos;have hhd:s.head? =some s[0]:=by rw[List.head?_eq_getElem?,aLZ hpos]
  have h60:decide ((s[0].toNat:Int)=60)=decide (s[0]=60):=ZE s[0] 60 pH;have hle:=ZH s hs
  have hp:Gf.strings_HasPrefix s ([60,33,45,45]:pD)=some ():=by
    unfold Gf.strings_HasPrefix Gf.internal_stringslite_HasPrefix;rw[aLQ (fun h=>⟨aM5 _,pH,by simpa using h⟩)];rfl
  have hpre:((decide ((List.length ([60,33,45,45]:pD):Int)≤(List.length s:Int)))&&(decide ((sD s (0:Int) (List.length ([60,33,45,45]:pD):Int))=([60,33,45,45]:pD))))=xG s:=by
    rw[a9o];unfold xG;show (_&&decide (s.take 4=OO))=decide (s.take 4=OO);by_cases h:s.take 4=OO
    · have:=aL9 List.length h
      rw[aMd] at this;simp only[aLY,aMh] at this;simp [h];omega
    .simp [h]
  have hsi:uU s (60:Int)=Lib.indexByte s 60:=rfl
  have key:((Gf.strings_HasPrefix s ([60,33,45,45]:pD)).bind fun O=>
   if ((decide ((List.length ([60,33,45,45]:pD):Int)≤(List.length s:Int)))&&(decide ((sD s (0:Int) (List.length ([60,33,45,45]:pD):Int))=([60,33,45,45]:pD))))=true then
    if 0≤(4:Int)∧(4:Int)≤(List.length s:Int)∧(List.length s:Int)≤(List.length s:Int) then
     (Gf.strings_Index (sD s (4:Int) (List.length s:Int)) ([45,45,62]:pD)).bind fun Z=>
     if (decide ((0:Int)≤(xS (sD s (4:Int) (List.length s:Int)) ([45,45,62]:pD))))=true then
      if qE ((xS (sD s (4:Int) (List.length s:Int)) ([45,45,62]:pD))+(7:Int)) then
       some (((1:Int),((xS (sD s (4:Int) (List.length s:Int)) ([45,45,62]:pD))+(7:Int))))
      else none
     else
      some (((1:Int),(xS (sD s (4:Int) (List.length s:Int)) ([45,45,62]:pD))))
    else none
   else
    if 0≤(0:Int)∧(0:Int)<(List.length s:Int) then
     if (decide ((tU s (0:Int))=(60:Int)))=true then
      (Gf.elements_closing s).bind fun aA=>
      if qE (aA+(1:Int)) then
       if (decide ((aA+(1:Int))=(0:Int)))=true then
        some (((2:Int),(-1:Int)))
       else
        some (((2:Int),(aA+(1:Int))))
      else none
     else
      if (decide ((uU s (60:Int))<(0:Int)))=true then
       some (((3:Int),(List.length s:Int)))
      else
       some (((3:Int),(uU s (60:Int))))
    else none)=some (vH s):=by
    rw[hp,aLP,hpre]
    have hcut:sD s (4:Int) (List.length s:Int)=s.drop 4:=by
      unfold sD;rw[aMK,show (4:Int).toNat=4 from rfl];exact List.take_of_length_le (by rw[aL8];omega)
    by_cases hn:xG s=true
    · have h4:4≤s.length:=by
        have:=aL9 List.length (aMv hn);rw[aMd] at this;simp only[aLY,aMh] at this;omega
      rw[aLQ hn,aLQ ⟨pH,pG,aM5 _⟩,hcut]
      have hix:Gf.strings_Index (s.drop 4) ([45,45,62]:pD)=some ():=by
        unfold Gf.strings_Index;rw[aLQ (by rw[aL8];omega)]
      have hge:=Lib.index_ge (s.drop 4) [45,45,62];have hrm:=Lib.index_room (s.drop 4) [45,45,62];rw[aL8] at hrm;rw[hix,aLP];unfold vH xS;rw[aLQ hn];by_cases hq:0≤Lib.index (s.drop 4) [45,45,62]
      .rw[aLQ (aMg hq),aLQ (by have:=hrm hq;simp only[aLY,aMh] at this;unfold qE;omega),aLQ hq]
      .rw[aLU (by simpa using hq),aLU hq]
    · unfold vH
      rw[aLU hn,aLU hn,aLQ ⟨aM5 _,pG⟩,h0,h60,hhd];by_cases h6:s[0]=60
      · have hc:=ZG s
        have h6':some s[0]=some (60:UInt8):=by rw[h6]
        rw[aLQ (aMg h6),aG2 s pG,aLP,aLQ (by unfold qE;omega),aLQ h6'];by_cases hz:A8 s+1=0
        .rw[aLQ (aMg hz),aLQ hz]
        .rw[aLU (by simpa using hz),aLU hz]
      · rw[aLU (by simpa using h6),aLU (fun h=>h6 (aLS h)),hsi]
        by_cases hz:Lib.indexByte s 60<0
        .rw[aLQ (aMg hz),aLQ hz]
        .rw[aLU (by simpa using hz),aLU hz]
  unfold Gf.elements_first;rw[key];unfold t8 rM;rw[aLP];clear key;generalize vH s=N at hle;obtain⟨k,n⟩:=N;dsimp only at hle|-;by_cases hz:n<0
  .rw[aLQ hz,aLQ (aMg hz)]
  .rw[aLU hz,aLU (by simpa using hz),aLQ ⟨aM5 _,pG,hle.1⟩,a9o]
abbrev LA:=Int×pD×Int×Unit
def wD (s:pD):Nat→Nat→List LA
  |0,_=>[]
  | n +1,i=>if i<s.length then
      ((rM (s.drop i)).1,(rM (s.drop i)).2,(i:Int),())::(if (rM (s.drop i)).1=0 then[] else wD s n (i+(rM (s.drop i)).2.length))
    else[(4,[],(s.length:Int),())]
def vI (s:Ty.str.den):List LA:=wD s (List.length s+1) 0
def TD (it:LA):pN:=[.agg #[.int .i64 it.1,.string ⟨it.2.1.toArray⟩,.int .i64 it.2.2.1]]
@[go_sem] def a9p (it:LA):List qC:=[(.val (.pair (.int .i64) (.pair .str (.pair (.int .i64) .unit))) it,none)]
theorem aG4 (it:LA) (g:Gh) (w:pR):uX g w (a9p it) (TD it):=
  ⟨_,_,rfl,⟨.inl ⟨rfl,[_,_,_],rfl,[_],[_,_],rfl,rfl,[_],[_],rfl,rfl,[_],[],rfl,rfl,rfl⟩,trivial⟩,rfl⟩
theorem aG5 {g:Gh}{w:pR}{it:LA}{v:pS}(h:tJ g w (.pair (.int .i64) (.pair .str (.pair (.int .i64) .unit))) it v):v= .agg #[.int .i64 it.1,.string ⟨it.2.1.toArray⟩,.int .i64 it.2.2.1]:=by
  rcases h with⟨_,cs,rfl,c1,c2,rfl,h1,c3,c4,rfl,h2,c5,c6,rfl,h3,h4⟩ |⟨h,_⟩
  .rw[show c1=[.int .i64 it.1] from h1,show c3=[.string ⟨it.2.1.toArray⟩] from h2,show c5=[.int .i64 it.2.2.1] from h3,show c6=[] from h4];rfl
  .cases h
theorem aG6 (s:pD) (hs:s≠[]) (hl:s.length<4294967281) (i:Int) (w:pR) (hT:CP w):
    Calls Tryz.prog 79 #[.string ⟨s.toArray⟩,.int .i64 i] w fun e w'=>e= .returned (.agg #[.int .i64 (rM s).1,.string ⟨(rM s).2.toArray⟩,.int .i64 i])∧Below w.heap.size w w':=by
  have he:=aG3 s hs hl i;refine(aG1 (args:=[(.val .str s,none),(.val (.int .i64) i,none)]) (vals:=[.string ⟨s.toArray⟩,.int .i64 i]) (t:= .pair (.int .i64) (.pair .str (.pair (.int .i64) .unit))) (x:=((rM s).1,(rM s).2,i,())) Gf.elements_first_con.1 hT (fun g=>⟨_,_,rfl,⟨DY _ _ _,trivial⟩,_,_,rfl,⟨vX _ _ _ _,trivial⟩,rfl⟩) (Gf.elements_firstC_eq s i) ?_ ?_).mono ?_
  · intro p hp
    rcases aL3.1 hp with rfl|hp
    .rw[he];rfl
    .cases hp
  · unfold Gf.elements_firstR
    rw[sC he]
  · rintro e w' ⟨v,rfl,hb,g',hv⟩
    exact⟨by rw[aG5 hv],hb⟩
section
attribute [local go_sem] Oper.semAt_some
theorem aG7:OC Tryz.prog 78 .str (fun s=>List.length s<4294967281) vI TD:=by
  refine⟨fun _ _=>rfl,?_⟩;intro l b o (d:pD) cs g W0 J Jx hpre hR hrd hJd hJxd hJt hY W h0;rw[show cs=[.string ⟨d.toArray⟩] from hR] at hrd;have hl4:d.length<4294967281:=hpre;have r0: ∀i W,J i W→W.cell? ⟨b,o,none⟩=some (.string ⟨d.toArray⟩):=fun i W h=>by simpa using(hrd i W h).1 0 _ rfl
  refine(callsIn_wide (n:=0)).1 (callsIn_of_wp Tryz.func78 rfl trivial ?_);simp only[Tryz.ntmps78,aMF,aLY,aMh,Nat.reduceAdd,Nat.reduceSub,Array.replicate_succ,Array.replicate_zero,List.push_toArray,List.append_toArray,List.nil_append,List.cons_append]
  gi_wp2
  gi_loopw [3] (fun p wr=> ∃i k n:Nat,i≤d.length∧p= .int .i64 i∧d.length<n+i∧(vI d).drop k=wD d n i∧k≤(vI d).length∧J k wr) (fun p _=>d.length- (RowKit.intOf p).toNat)
  case atStart=>exact⟨0,0,d.length+1,aMR _,rfl,pG,rfl,aMR _,h0⟩
  case round=>
    obtain⟨i,k,n,hi,rfl,hn,hdrop,hk,hJs⟩:=hrel;have s1:=r0 _ _ hJs;obtain⟨n',rfl⟩: ∃n',n=n'+1:=⟨n-1,pG⟩;by_cases hlt:i<d.length
    · have hu:wD d (n'+1) i=((rM (d.drop i)).1,(rM (d.drop i)).2,(i:Int),())::(if (rM (d.drop i)).1=0 then[] else wD d n' (i+(rM (d.drop i)).2.length)):=by rw[wD,aLQ hlt]
      rw[hu] at hdrop
      have hq:(vI d)[k]? =some ((rM (d.drop i)).1,(rM (d.drop i)).2,(i:Int),()):=by
        have:=aL9 (·[0]?) hdrop;simpa using this
      have hd2:(vI d).drop (k+1)=(if (rM (d.drop i)).1=0 then[] else wD d n' (i+(rM (d.drop i)).2.length)):=by
        have:=aL9 (List.drop 1) hdrop;simpa[aNN,Nat.add_comm] using this
      have hk2:k+1≤(vI d).length:=(aL1.1 hq).1
      have hne:d.drop i≠[]:=by
        intro e;have:=aL9 List.length e;rw[aL8,aMh] at this;omega
      have hcall:=aG6 (d.drop i) hne (by rw[aL8];omega) (i:Int);have hle:=ZH (d.drop i) hne;rw[aL8] at hle
      have hlen:(rM (d.drop i)).2.length≤d.length-i∧((rM (d.drop i)).1≠0→0<(rM (d.drop i)).2.length):=by
        unfold rM;split
        .exact⟨by simp,fun h=>absurd rfl h⟩
        · rw[aMd,aL8]
          exact⟨pG,fun _=>by omega⟩
      generalize rM (d.drop i)=T at hcall hlen hq hd2;obtain⟨kd,tx⟩:=T
      have hext:((⟨d.toArray⟩:ByteArray).extract i d.length)=⟨(d.drop i).toArray⟩:=by
        rw[aGR];congr 2;exact List.take_of_length_le pI
      clear hu hdrop hle
      gi_wp2
      refine⟨trivial,rfl,(callsIn_wide.2 (hcall wr (hJt _ _ hJs))).mono ?_⟩;rintro e w' ⟨rfl,hbl⟩;have hJ1:=hJd _ _ _ hJs hbl;have s2:=r0 _ _ hJ1;have hb2:Below w'.heap.size w' (w'.alloc (.cells #[.int .i64 kd,.string ⟨tx.toArray⟩,.int .i64 i] 94)):=(Below.refl _ _).alloc (aMc _) _;obtain⟨fn,tmps,assign,body,hy,hQ⟩:=hY _ _ _ _ hq hJ1 hb2;dsimp only[TD] at hy
      gi_wp2
      refine⟨rfl,hQ.mono ?_⟩;clear hQ hy;rintro e W2 ⟨h12,hkeep⟩;have hblk:=(hkeep w'.heap.size (aMc _) pI).trans (World.alloc_heap_new w' _);have hc1:W2.cell? ⟨w'.heap.size,0,none⟩=some (.int .i64 kd):=Lib.cell_of_heap hblk 0;have hc2:W2.cell? ⟨w'.heap.size,1,none⟩=some (.string ⟨tx.toArray⟩):=Lib.cell_of_heap hblk 1;clear hkeep hblk hb2 hcall;rcases h12 with⟨rfl,hJ2⟩ |⟨rfl,hJx⟩
      · by_cases hk0:kd=0
        · subst hk0
          rw[aLQ rfl] at hd2
          have hkk:k+1=(vI d).length:=by
            have h1:=aL9 List.length hd2;rw[aL8,aMh] at h1;omega
          gi_wp2
          refine bodyPost_ret (results_none rfl _ _ _) rfl ?_;exact⟨⟨_,rfl⟩,.inl (hkk▸hJ2)⟩
        · rw[aLU hk0] at hd2
          have hpos:=hlen.2 hk0;have hle:=hlen.1;have hkd:decide (kd=0)=false:=decide_eq_false hk0
          gi_wp2
          go_roundw
          case rel=>exact⟨i+tx.length,k+1,n',pG,by simp,pG,hd2,hk2,hJ2⟩
          case measure=>
            show d.length- (i+tx.length)<d.length-i;omega
      · gi_wp2
        refine bodyPost_ret (results_none rfl _ _ _) rfl ?_;exact⟨⟨_,rfl⟩,.inr hJx⟩
    · obtain rfl:i=d.length:=by omega
      have hu:wD d (n'+1) d.length=[(4,[],(d.length:Int),())]:=by rw[wD,aLU (aNp _)]
      rw[hu] at hdrop
      have hq:(vI d)[k]? =some (4,[],(d.length:Int),()):=by
        have:=aL9 (·[0]?) hdrop;simpa using this
      have hkk:k+1=(vI d).length:=by
        have h1:=aL9 List.length hdrop;rw[aL8] at h1;simp only[aLY,aMh] at h1;omega
      obtain⟨fn,tmps,assign,body,hy,hQ⟩:=hY _ _ _ _ hq hJs (Below.refl _ _);dsimp only[TD] at hy
      gi_wp2
      refine⟨rfl,hQ.mono ?_⟩;clear hQ hy;rintro e W2 ⟨⟨rfl,hJ2⟩ |⟨rfl,hJx⟩,-⟩
      · gi_wp2
        go_end0
        exact⟨⟨_,rfl⟩,.inl (hkk▸hJ2)⟩
      · gi_wp2
        go_end0
        exact⟨⟨_,rfl⟩,.inr hJx⟩
end
end Go.Proofs.YtkpflnijijccpaaGreatDoor
namespace Go.Proofs.YtkpflnijijccpaaGreatDoor
open Vc
namespace Gs
noncomputable section
@[go_sem] abbrev tC:Ty:=(.pair .str (.pair .str (.pair .str (.pair (.list .str) (.pair (.list .str) (.pair (.int .i64) (.pair (.list (.pair .str (.pair .str .unit))) .unit)))))))
@[go_sem] abbrev FB:Ty:=(.pair .str (.pair (.list .str) (.pair (.list (.pair .str (.pair .str .unit))) (.pair (.list tC) .unit))))
@[go_sem] abbrev zM:Ty:=(.pair .str (.pair (.list .str) (.pair .str .unit)))
@[go_sem] abbrev wC:Ty:=(.pair .mref (.pair (.list (.int .u8)) .unit))
abbrev qZ:Type:=(pD×(pD×Unit))
abbrev rW:Type:=(pD×(pD×(pD×(pE×(pE×(Int×((List qZ)×Unit)))))))
abbrev yH:Type:=(pD×(pE×(pD×Unit)))
abbrev sQ:Type:=(pD×(pE×((List qZ)×((List rW)×Unit))))
abbrev s7:Type:=(Int×(pD×(Int×Unit)))
@[go_sem] abbrev sN:Ty:=(.pair (.int .i64) (.pair .str (.pair (.int .i64) .unit)))
@[go_sem] abbrev BQ:Nat×TI:=(61,⟨(.list sN),94,32,false,[]⟩)
theorem FD:tW Tryz.prog BQ.1 BQ.2:=⟨pU,(show _/\_/\_ from⟨pU,pU,pU⟩)⟩
@[go_sem] abbrev zN:Nat×TI:=(94,⟨sN,0,1,false,[]⟩)
theorem E5:tW Tryz.prog zN.1 zN.2:=⟨pU,(show ((_/\∃_,_/\_)\/_)/\_ from⟨.inl ⟨rfl,_,Tryz.underlying94,(show _/\_/\_/\_ from⟨rfl,pU,pU,(show _/\_/\_/\_ from⟨rfl,pU,pU,(show _/\_/\_/\_ from⟨rfl,pU,pU,trivial⟩)⟩)⟩)⟩,(fun _=>⟨pU,1,pH,(.struct rfl Tryz.underlying94 pU (.cons pH rfl pU pU (.int Tryz.underlying3) (.cons pH rfl pU pU (.str Tryz.underlying9) (.cons pH rfl pU pU (.int Tryz.underlying3) .nil))))⟩)⟩)⟩
theorem rP:Tryz.prog.follows .mixedOrders=true:=by kernel_rfl
@[go_sem] abbrev FC:Nat×r6:=(108,⟨[.v,.v],O6,[],[],none⟩)
theorem L4:r9 Tryz.prog FC:=⟨Y6,fun _ h=>by cases h⟩
@[go_sem] abbrev L5:Nat×r6:=(127,⟨[.v,.v],O7,[],[],none⟩)
theorem YV:r9 Tryz.prog L5:=⟨Y7,fun _ h=>by cases h⟩
@[go_sem] abbrev IU:Nat×r6:=(85,⟨[.v,.v],OG,[],[],none⟩)
theorem T6:r9 Tryz.prog IU:=⟨YQ,fun _ h=>by cases h⟩
@[go_sem] abbrev L6:Nat×r6:=(179,⟨[.v],O8,[],[],none⟩)
theorem YW:r9 Tryz.prog L6:=⟨Y8,fun _ h=>by cases h⟩
@[go_sem] abbrev GX:Nat×r6:=(58,⟨[.p wC [1]],O9,[],[],none⟩)
theorem OK:r9 Tryz.prog GX:=⟨YB,fun _ h=>by cases h⟩
@[go_sem] abbrev GY:Nat×r6:=(31,⟨[.p wC [1]],OA,[],[],none⟩)
theorem OL:r9 Tryz.prog GY:=⟨YE,fun _ h=>by cases h⟩
@[go_sem] abbrev IV:Nat×r6:=(113,⟨[.v],OH,[],[],none⟩)
theorem T7:r9 Tryz.prog IV:=⟨YR,fun _ h=>by cases h⟩
@[go_sem] abbrev L7:Nat×r6:=(131,⟨[.v,.v],OI,[],[],none⟩)
theorem YX:r9 Tryz.prog L7:=⟨YS,fun _ h=>by cases h⟩
@[go_sem] abbrev IW:Nat×r6:=(91,⟨[.r],OE,[],[],none⟩)
theorem T8:r9 Tryz.prog IW:=⟨YO,fun _ h=>by cases h⟩
@[go_sem] abbrev L8:Nat×r6:=(130,⟨[.r,.v],OF,[],[],none⟩)
theorem YY:r9 Tryz.prog L8:=⟨YP,fun _ h=>by cases h⟩
@[go_sem] abbrev L9:Nat×r6:=(159,⟨[.r,.v,.v],OB,[],[],none⟩)
theorem YZ:r9 Tryz.prog L9:=⟨YF,fun _ h=>by cases h⟩
@[go_sem] abbrev IX:Nat×r6:=(151,⟨[.v,.v],OJ,[],[],none⟩)
theorem T9:r9 Tryz.prog IX:=⟨YT,fun _ h=>by cases h⟩
@[go_sem] abbrev IY:Nat×r6:=(88,⟨[.v],T0,[],[],some T1⟩)
theorem TA:r9 Tryz.prog IY:=YA
end
end Gs
namespace Gs
noncomputable section
def slices_AppendSeq_elements_token_elements_tokensF1_step1:(Int×pD×Int×Unit)→(List s7)→Option ((List s7)⊕(List s7)):=fun O Z=>
 if (List.length Z+List.length ([O]:List s7))*32≤140737488355328 then
  some (.inl (Z++([O]:List s7)))
 else none
def slices_AppendSeq_elements_token_elements_tokensF1 (O:pD):Option (List s7):=
 if List.length O<4294967281 then
  uT (xF (slices_AppendSeq_elements_token_elements_tokensF1_step1) (vI O) ([]:List s7)) fun Z=>
  some (Z)
 else none
section
variable (O:pD)
abbrev ZI:List qC:=[(.nilS,none),(.val .clo (some (78,[(0,0)])),none)]
abbrev ZJ:List q9:=[.cells .str O []]
@[go_sem] def ZK:qI:=⟨[((slices_AppendSeq_elements_token_elements_tokensF1 O)).isSome=true],[(.val (.list sN) (val (slices_AppendSeq_elements_token_elements_tokensF1 O)),none)],[.cells .str O []]⟩
def a9q:List qC→List q9→Option qI:=rU (V:=pD) (fun x=>ZI) (fun x=>ZJ x) fun x=>ZK x
@[go_sem] theorem aKt:a9q (no_index ZI) (no_index (ZJ O))=some (ZK O):=rY (fun a0 b0 h1 h2=>by cases h1;cases h2;rfl) O
end
@[go_sem] abbrev ZL:Nat×r6:=(77,⟨[.v,.f [(.str,[])]],a9q,[],[0],none⟩)
theorem LB:rN Tryz.prog [BQ,zN] (rO []):=⟨⟨FD,⟨E5,trivial⟩⟩,rR,rP⟩
theorem a9r:r9 Tryz.prog ZL:=by
 refine rZ LB Tryz.func77 (c:=_) rfl (N:=13) pU (ts:=[(4,none)]) rfl (fun _ _=>rfl) ?_;intro O hs hrow;dsimp only[ZI,ZJ,ZK,rQ,qM,r5,rF,rT,Nat.reduceAdd] at hs hrow|-;have hz:=hs;obtain⟨z0,hC0⟩:=aLR.1 hz
 try rw[sC hC0]
 clear hz hs;unfold slices_AppendSeq_elements_token_elements_tokensF1 at hC0;refine qB LB ?_;refine qT ?_;refine qB LB ?_;refine s9 ?_;obtain⟨hgF2,hC0⟩:=qJ hC0;obtain⟨y1,hy1,hC0⟩:=wB hC0;refine aGP aG7 aG4 pV pV hgF2 hy1 [(2,(.val .ref (some (1,0)),none))] (fun Z=>[(2,(.val .ref (some (1,0)),none)),(5,(.val .ref (some (3,0)),none))]) (fun x=>[.cells .str O [],.cells (.list sN) x [(0,2)],.grow 94 3 (List.length x)]) (fun Z x=>[.cells .str O [],.cells (.list sN) x [(0,2)],.grow 94 3 (List.length x),.cells sN Z []]) 2 ⟨[2],[(0,0),(1,1),(2,2)]⟩ pV pV (aMS pV) (fun _=>by rfl) pV (aMS pV) (fun _=>aMS rfl) (fun _=>by rfl) (fun _ _=>by rfl) (fun _ _=>aMS rfl) (fun _=>rfl) pV ?_ ?_
 .intro Z aA w1 hC1 hN1;refine⟨?_,?_⟩
  .dsimp only[F9,a9p,u7,qM,r5,Nat.reduceAdd,List.toList_toArray];refine rL LB ?_;exact YH ⟨[2,5],[(0,0),(1,1),(2,2),(3,3)]⟩ pV
  .unfold slices_AppendSeq_elements_token_elements_tokensF1_step1 at hC1;dsimp only[qM,r5,Nat.reduceAdd] at hC1|-;refine s9 ?_;obtain⟨hg1,hC1⟩:=qJ hC1;refine rL LB ?_ (hp:=by exact⟨pT,hg1⟩)
   refine rV ?_;cases hC1;exact YI ⟨[],[(0,0),(1,1),(2,2)]⟩ _ rfl pV
 .rintro aA rfl;dsimp only[qM,r5,Nat.reduceAdd] at hC0|-;refine rV (qQ ?_);refine qB LB ?_;refine qV ?_;cases hC0;exact pF [(0,0)]
attribute [irreducible] slices_AppendSeq_elements_token_elements_tokensF1
def slices_Collect_elements_token_elements_tokensF1 (O:pD):Option (List s7):=
 (slices_AppendSeq_elements_token_elements_tokensF1 O).bind fun Z=>
 some (Z)
section
variable (O:pD)
abbrev ZM:List qC:=[(.val .clo (some (78,[(0,0)])),none)]
abbrev ZN:List q9:=[.cells .str O []]
@[go_sem] def ZO:qI:=⟨[((slices_Collect_elements_token_elements_tokensF1 O)).isSome=true],[(.val (.list sN) (val (slices_Collect_elements_token_elements_tokensF1 O)),none)],[.cells .str O []]⟩
def a9s:List qC→List q9→Option qI:=rU (V:=pD) (fun x=>ZM) (fun x=>ZN x) fun x=>ZO x
@[go_sem] theorem aKu:a9s (no_index ZM) (no_index (ZN O))=some (ZO O):=rY (fun a0 b0 h1 h2=>by cases h1;cases h2;rfl) O
end
@[go_sem] abbrev slices_Collect_elements_token_elements_tokensF1E:Nat×r6:=(49,⟨[.f [(.str,[])]],a9s,[],[0],none⟩)
theorem a9t:rN Tryz.prog [BQ] (rO [ZL]):=⟨⟨FD,trivial⟩,qO a9r rR,rP⟩
theorem aG8:rN Tryz.prog [] (rO [ZL]):=⟨trivial,qO a9r rR,rP⟩
theorem slices_Collect_elements_token_elements_tokensF1_con:r9 Tryz.prog slices_Collect_elements_token_elements_tokensF1E:=by
 refine rZ a9t Tryz.func49 (c:=_) rfl (N:=5) pU (ts:=[(2,none)]) rfl (fun _ _=>rfl) ?_;intro O hs hrow;dsimp only[ZM,ZN,ZO,rQ,qM,r5,rF,rT,Nat.reduceAdd] at hs hrow|-;have hz:=hs;obtain⟨z0,hC0⟩:=aLR.1 hz
 try rw[sC hC0]
 clear hz hs;unfold slices_Collect_elements_token_elements_tokensF1 at hC0;refine qB a9t ?_;obtain⟨Z,hv1,hw1,hC0⟩:=qS hC0
 try simp only[go_sem] at hw1
 refine qB aG8 ?_ (hp:=by exact⟨pT,(qR hv1)⟩) (h:=by simp only[go_sem,hw1];rfl)
 refine qV ?_;cases hC0;exact pF [(0,0)]
attribute [irreducible] slices_Collect_elements_token_elements_tokensF1
end
end Gs
end Go.Proofs.YtkpflnijijccpaaGreatDoor
section
end
namespace Go.Proofs.YtkpflnijijccpaaGreatDoor
open Vc
@[reducible,go_sem] noncomputable def ZP:Nat×r6:=Gs.slices_Collect_elements_token_elements_tokensF1E
theorem aG9:r9 Tryz.prog ZP:=Gs.slices_Collect_elements_token_elements_tokensF1_con
theorem aHa:r9 Tryz.prog ZP:=aG9
noncomputable section
@[go_sem] abbrev tC:Ty:=(.pair .str (.pair .str (.pair .str (.pair (.list .str) (.pair (.list .str) (.pair (.int .i64) (.pair (.list (.pair .str (.pair .str .unit))) .unit)))))))
@[go_sem] abbrev FB:Ty:=(.pair .str (.pair (.list .str) (.pair (.list (.pair .str (.pair .str .unit))) (.pair (.list tC) .unit))))
@[go_sem] abbrev zM:Ty:=(.pair .str (.pair (.list .str) (.pair .str .unit)))
@[go_sem] abbrev wC:Ty:=(.pair .mref (.pair (.list (.int .u8)) .unit))
abbrev qZ:Type:=(pD×(pD×Unit))
abbrev rW:Type:=(pD×(pD×(pD×(pE×(pE×(Int×((List qZ)×Unit)))))))
abbrev yH:Type:=(pD×(pE×(pD×Unit)))
abbrev sQ:Type:=(pD×(pE×((List qZ)×((List rW)×Unit))))
abbrev s7:Type:=(Int×(pD×(Int×Unit)))
@[go_sem] abbrev sN:Ty:=(.pair (.int .i64) (.pair .str (.pair (.int .i64) .unit)))
@[go_sem] abbrev sO:Ty:=(.pair (.list sN) (.pair (.int .i64) (.pair (.int .i64) (.pair FB (.pair .mp (.pair (.list (.int .i64)) .unit))))))
@[go_sem] abbrev wE:Ty:=(.pair (.int .i64) (.pair .str (.pair (.list (.pair .str (.pair .str .unit))) (.pair .bool .unit))))
@[go_sem] abbrev ZQ:Ty:=(.pair .str (.pair (.rl 9 .str) (.pair .str .unit)))
abbrev xT:Type:=(Int×(pD×((List qZ)×(Bool×Unit))))
@[go_sem] abbrev E6:Nat×TI:=(26,⟨zM,0,0,false,[(1,9,1)]⟩)
theorem GZ:tW Tryz.prog E6.1 E6.2:=⟨pU,(show ((_/\∃_,_/\_)\/_)/\_ from⟨.inl ⟨rfl,_,Tryz.underlying26,(show _/\_/\_/\_ from⟨rfl,pU,pU,(show _/\_/\_/\_ from⟨rfl,pU,pU,(show _/\_/\_/\_ from⟨rfl,pU,pU,trivial⟩)⟩)⟩)⟩,(fun h=>absurd h pH)⟩)⟩
@[go_sem] abbrev sY:Nat×TI:=(9,⟨.str,0,0,false,[]⟩)
theorem tE:tW Tryz.prog sY.1 sY.2:=⟨pU,(show Tryz.prog.underlying _=_ from by kernel_rfl)⟩
@[go_sem] abbrev FE:Nat×TI:=(22,⟨(.list (.int .u8)),5,1,false,[]⟩)
theorem J3:tW Tryz.prog FE.1 FE.2:=⟨pU,(show _/\_/\_ from⟨pU,pU,pU⟩)⟩
@[go_sem] abbrev H0:Nat×TI:=(73,⟨wC,0,0,false,[(1,5,1)]⟩)
theorem LC:tW Tryz.prog H0.1 H0.2:=⟨pU,(show ((_/\∃_,_/\_)\/_)/\_ from⟨.inl ⟨rfl,_,Tryz.underlying73,(show _/\_/\_/\_ from⟨rfl,pU,pU,(show _/\_/\_/\_ from⟨rfl,pU,pU,trivial⟩)⟩)⟩,(fun h=>absurd h pH)⟩)⟩
@[go_sem] abbrev wO:Nat×TI:=(3,⟨(.int .i64),0,0,false,[]⟩)
theorem xH:tW Tryz.prog wO.1 wO.2:=⟨pU,(show Tryz.prog.underlying _=_ from by kernel_rfl)⟩
@[go_sem] abbrev BR:Nat×TI:=(27,⟨(.int .i64),0,0,false,[]⟩)
theorem D5:tW Tryz.prog BR.1 BR.2:=⟨pU,(show Tryz.prog.underlying _=_ from by kernel_rfl)⟩
@[go_sem] abbrev BQ:Nat×TI:=(61,⟨(.list sN),94,32,false,[]⟩)
theorem FD:tW Tryz.prog BQ.1 BQ.2:=⟨pU,(show _/\_/\_ from⟨pU,pU,pU⟩)⟩
@[go_sem] abbrev AQ:Nat×TI:=(65,⟨sO,0,0,false,[(0,94,3),(4,9,1),(5,111,2),(6,53,7),(8,3,1)]⟩)
theorem CC:tW Tryz.prog AQ.1 AQ.2:=⟨pU,(show ((_/\∃_,_/\_)\/_)/\_ from⟨.inl ⟨rfl,_,Tryz.underlying65,(show _/\_/\_/\_ from⟨rfl,pU,pU,(show _/\_/\_/\_ from⟨rfl,pU,pU,(show _/\_/\_/\_ from⟨rfl,pU,pU,(show _/\_/\_/\_ from⟨rfl,pU,pU,(show _/\_/\_/\_ from⟨rfl,pU,pU,(show _/\_/\_/\_ from⟨rfl,pU,pU,trivial⟩)⟩)⟩)⟩)⟩)⟩)⟩,(fun h=>absurd h pH)⟩)⟩
@[go_sem] abbrev zN:Nat×TI:=(94,⟨sN,0,1,false,[]⟩)
theorem E5:tW Tryz.prog zN.1 zN.2:=⟨pU,(show ((_/\∃_,_/\_)\/_)/\_ from⟨.inl ⟨rfl,_,Tryz.underlying94,(show _/\_/\_/\_ from⟨rfl,pU,pU,(show _/\_/\_/\_ from⟨rfl,pU,pU,(show _/\_/\_/\_ from⟨rfl,pU,pU,trivial⟩)⟩)⟩)⟩,(fun _=>⟨pU,1,pH,(.struct rfl Tryz.underlying94 pU (.cons pH rfl pU pU (.int Tryz.underlying3) (.cons pH rfl pU pU (.str Tryz.underlying9) (.cons pH rfl pU pU (.int Tryz.underlying3) .nil))))⟩)⟩)⟩
@[go_sem] abbrev xU:Nat×TI:=(24,⟨(.list .str),9,16,false,[]⟩)
theorem yI:tW Tryz.prog xU.1 xU.2:=⟨pU,(show _/\_/\_ from⟨pU,pU,pU⟩)⟩
@[go_sem] abbrev CD:Nat×TI:=(33,⟨(.list (.pair .str (.pair .str .unit))),111,32,false,[]⟩)
theorem E7:tW Tryz.prog CD.1 CD.2:=⟨pU,(show _/\_/\_ from⟨pU,pU,pU⟩)⟩
@[go_sem] abbrev FF:Nat×TI:=(111,⟨(.pair .str (.pair .str .unit)),0,1,false,[]⟩)
theorem J4:tW Tryz.prog FF.1 FF.2:=⟨pU,(show ((_/\∃_,_/\_)\/_)/\_ from⟨.inl ⟨rfl,_,Tryz.underlying111,(show _/\_/\_/\_ from⟨rfl,pU,pU,(show _/\_/\_/\_ from⟨rfl,pU,pU,trivial⟩)⟩)⟩,(fun _=>⟨pU,1,pH,(.struct rfl Tryz.underlying111 pU (.cons pH rfl pU pU (.str Tryz.underlying9) (.cons pH rfl pU pU (.str Tryz.underlying9) .nil)))⟩)⟩)⟩
@[go_sem] abbrev A9:Nat×TI:=(53,⟨tC,0,0,false,[(3,9,1),(4,9,1),(6,111,2)]⟩)
theorem BS:tW Tryz.prog A9.1 A9.2:=⟨pU,(show ((_/\∃_,_/\_)\/_)/\_ from⟨.inl ⟨rfl,_,Tryz.underlying53,(show _/\_/\_/\_ from⟨rfl,pU,pU,(show _/\_/\_/\_ from⟨rfl,pU,pU,(show _/\_/\_/\_ from⟨rfl,pU,pU,(show _/\_/\_/\_ from⟨rfl,pU,pU,(show _/\_/\_/\_ from⟨rfl,pU,pU,(show _/\_/\_/\_ from⟨rfl,pU,pU,(show _/\_/\_/\_ from⟨rfl,pU,pU,trivial⟩)⟩)⟩)⟩)⟩)⟩)⟩)⟩,(fun h=>absurd h pH)⟩)⟩
@[go_sem] abbrev AR:Nat×TI:=(127,⟨(.pair .str (.pair .str .unit)),0,1,false,[]⟩)
theorem CE:tW Tryz.prog AR.1 AR.2:=⟨pU,(show ((_/\∃_,_/\_)\/_)/\_ from⟨.inl ⟨rfl,_,Tryz.underlying127,(show _/\_/\_/\_ from⟨rfl,pU,pU,(show _/\_/\_/\_ from⟨rfl,pU,pU,trivial⟩)⟩)⟩,(fun _=>⟨pU,1,pH,(.struct rfl Tryz.underlying127 pU (.cons pH rfl pU pU (.str Tryz.underlying9) (.cons pH rfl pU pU (.str Tryz.underlying9) .nil)))⟩)⟩)⟩
@[go_sem] abbrev J5:Nat×TI:=(5,⟨(.int .u8),0,0,false,[]⟩)
theorem OP:tW Tryz.prog J5.1 J5.2:=⟨pU,(show Tryz.prog.underlying _=_ from by kernel_rfl)⟩
@[go_sem] abbrev OQ:Nat×TI:=(21,⟨(.int .i32),0,0,false,[]⟩)
theorem ZR:tW Tryz.prog OQ.1 OQ.2:=⟨pU,(show Tryz.prog.underlying _=_ from by kernel_rfl)⟩
@[go_sem] abbrev TF:Nat×TI:=(205,⟨(.int .u32),0,0,false,[]⟩)
theorem a9u:tW Tryz.prog TF.1 TF.2:=⟨pU,(show Tryz.prog.underlying _=_ from by kernel_rfl)⟩
@[go_sem] abbrev TG:Nat×TI:=(33,⟨(.list (.pair .str (.pair .str .unit))),111,32,true,[]⟩)
theorem a9v:tW Tryz.prog TG.1 TG.2:=⟨pU,(show _/\_/\_ from⟨pU,pU,pU⟩)⟩
@[go_sem] abbrev BT:Nat×TI:=(98,⟨(.list (.pair .str (.pair .str .unit))),127,32,false,[]⟩)
theorem D6:tW Tryz.prog BT.1 BT.2:=⟨pU,(show _/\_/\_ from⟨pU,pU,pU⟩)⟩
@[go_sem] abbrev TH:Nat×TI:=(24,⟨(.list .str),9,16,true,[]⟩)
theorem a9w:tW Tryz.prog TH.1 TH.2:=⟨pU,(show _/\_/\_ from⟨pU,pU,pU⟩)⟩
@[go_sem] abbrev y6:Nat×TI:=(100,⟨wE,0,0,false,[(2,127,2)]⟩)
theorem z7:tW Tryz.prog y6.1 y6.2:=⟨pU,(show ((_/\∃_,_/\_)\/_)/\_ from⟨.inl ⟨rfl,_,Tryz.underlying100,(show _/\_/\_/\_ from⟨rfl,pU,pU,(show _/\_/\_/\_ from⟨rfl,pU,pU,(show _/\_/\_/\_ from⟨rfl,pU,pU,(show _/\_/\_/\_ from⟨rfl,pU,pU,trivial⟩)⟩)⟩)⟩)⟩,(fun h=>absurd h pH)⟩)⟩
@[go_sem] abbrev E8:Nat×TI:=(123,⟨.mp,9,9,false,[]⟩)
theorem H4:tW Tryz.prog E8.1 E8.2:=⟨pU,(show Tryz.prog.underlying _=_ from by kernel_rfl)⟩
@[go_sem] abbrev AA:Nat×TI:=(4,⟨.bool,0,0,false,[]⟩)
theorem BU:tW Tryz.prog AA.1 AA.2:=⟨pU,(show Tryz.prog.underlying _=_ from by kernel_rfl)⟩
@[go_sem] abbrev D7:Nat×TI:=(36,⟨FB,0,0,false,[(1,9,1),(2,111,2),(3,53,7)]⟩)
theorem FG:tW Tryz.prog D7.1 D7.2:=⟨pU,(show ((_/\∃_,_/\_)\/_)/\_ from⟨.inl ⟨rfl,_,Tryz.underlying36,(show _/\_/\_/\_ from⟨rfl,pU,pU,(show _/\_/\_/\_ from⟨rfl,pU,pU,(show _/\_/\_/\_ from⟨rfl,pU,pU,(show _/\_/\_/\_ from⟨rfl,pU,pU,trivial⟩)⟩)⟩)⟩)⟩,(fun h=>absurd h pH)⟩)⟩
@[go_sem] abbrev J6:Nat×TI:=(34,⟨(.list tC),53,128,false,[]⟩)
theorem OR:tW Tryz.prog J6.1 J6.2:=⟨pU,(show _/\_/\_ from⟨pU,pU,pU⟩)⟩
@[go_sem] abbrev FH:Nat×TI:=(63,⟨(.list (.int .i64)),3,8,false,[]⟩)
theorem J7:tW Tryz.prog FH.1 FH.2:=⟨pU,(show _/\_/\_ from⟨pU,pU,pU⟩)⟩
@[go_sem] abbrev J8:Nat×TI:=(62,⟨.mp,9,4,false,[]⟩)
theorem OS:tW Tryz.prog J8.1 J8.2:=⟨pU,(show Tryz.prog.underlying _=_ from by kernel_rfl)⟩
theorem rP:Tryz.prog.follows .mixedOrders=true:=by kernel_rfl
@[go_sem] abbrev FC:Nat×r6:=(108,⟨[.v,.v],O6,[],[],none⟩)
theorem L4:r9 Tryz.prog FC:=⟨Y6,fun _ h=>by cases h⟩
@[go_sem] abbrev L5:Nat×r6:=(127,⟨[.v,.v],O7,[],[],none⟩)
theorem YV:r9 Tryz.prog L5:=⟨Y7,fun _ h=>by cases h⟩
@[go_sem] abbrev IU:Nat×r6:=(85,⟨[.v,.v],OG,[],[],none⟩)
theorem T6:r9 Tryz.prog IU:=⟨YQ,fun _ h=>by cases h⟩
@[go_sem] abbrev L6:Nat×r6:=(179,⟨[.v],O8,[],[],none⟩)
theorem YW:r9 Tryz.prog L6:=⟨Y8,fun _ h=>by cases h⟩
@[go_sem] abbrev GX:Nat×r6:=(58,⟨[.p wC [1]],O9,[],[],none⟩)
theorem OK:r9 Tryz.prog GX:=⟨YB,fun _ h=>by cases h⟩
@[go_sem] abbrev GY:Nat×r6:=(31,⟨[.p wC [1]],OA,[],[],none⟩)
theorem OL:r9 Tryz.prog GY:=⟨YE,fun _ h=>by cases h⟩
@[go_sem] abbrev IV:Nat×r6:=(113,⟨[.v],OH,[],[],none⟩)
theorem T7:r9 Tryz.prog IV:=⟨YR,fun _ h=>by cases h⟩
@[go_sem] abbrev L7:Nat×r6:=(131,⟨[.v,.v],OI,[],[],none⟩)
theorem YX:r9 Tryz.prog L7:=⟨YS,fun _ h=>by cases h⟩
@[go_sem] abbrev IW:Nat×r6:=(91,⟨[.r],OE,[],[],none⟩)
theorem T8:r9 Tryz.prog IW:=⟨YO,fun _ h=>by cases h⟩
@[go_sem] abbrev L8:Nat×r6:=(130,⟨[.r,.v],OF,[],[],none⟩)
theorem YY:r9 Tryz.prog L8:=⟨YP,fun _ h=>by cases h⟩
@[go_sem] abbrev L9:Nat×r6:=(159,⟨[.r,.v,.v],OB,[],[],none⟩)
theorem YZ:r9 Tryz.prog L9:=⟨YF,fun _ h=>by cases h⟩
@[go_sem] abbrev IX:Nat×r6:=(151,⟨[.v,.v],OJ,[],[],none⟩)
theorem T9:r9 Tryz.prog IX:=⟨YT,fun _ h=>by cases h⟩
@[go_sem] abbrev IY:Nat×r6:=(88,⟨[.v],T0,[],[],some T1⟩)
theorem TA:r9 Tryz.prog IY:=YA
end
noncomputable section
def a9x (O:yH):Unit:=()
section
variable (O:yH)
abbrev ZS:List qC:=[(.val zM O,none)]
abbrev ZT:List q9:=[]
@[go_sem] def ZU:qI:=⟨[],[(.val .clo (some (57,[(0,0)])),none)],[.cells zM O []]⟩
def a9y:List qC→List q9→Option qI:=rU (V:=yH) (ZS) (fun x=>ZT) fun x=>ZU x
@[go_sem] def aKv:a9y (no_index (ZS O)) (no_index ZT)=some (ZU O):=rY (fun a0 b0 h1 h2=>by cases h1;cases h2;rfl) O
end
@[go_sem] abbrev ZV:Nat×r6:=(27,⟨[.v],a9y,[],[],none⟩)
def ZW:rN Tryz.prog [E6] (rO []):=⟨⟨GZ,trivial⟩,rR,rP⟩
def a9z:r9 Tryz.prog ZV:=by
 refine rZ ZW Tryz.func27 (c:=_) rfl (N:=4) pU (ts:=[(2,none)]) rfl (fun _ _=>rfl) ?_;intro O hs hrow;dsimp only[ZS,ZT,ZU,rQ,qM,r5,rF,rT,Nat.reduceAdd] at hs hrow|-;obtain⟨z0,d⟩: ∃z,(a9x O)=z:=⟨_,rfl⟩
 try rw[d]
 unfold a9x at d;refine qB ZW ?_;refine qB ZW ?_;refine qV ?_;cases d;exact pF [(0,0)]
def FI (O:(pM×Unit)) (Z:pD):Option Unit:=if List.length O.1+Z.length≤140737488355328 then some (()) else none
section
variable (O:pD) (Z:(pM×Unit)) (aA:Nat)
abbrev ZX:List qC:=[(.val .ref (some (0,0)),none),(.val .str O,none)]
abbrev ZY:List q9:=[.cells wC ((some (0,0)),Z) [(1,1)],.grow 5 1 aA]
@[go_sem] def ZZ:qI:=⟨[aA=(Z.1.length),((FI Z O)).isSome=true],[(.val (.int .i64) (O.length:Int),none),(.any,none)],[.cells wC ((some (0,0)),((Z.1++uW O),())) [(1,1)],.grow 5 1 ((Z.1++uW O).length)]⟩
def a9A:List qC→List q9→Option qI:=rU (V:=(pD×(pM×Unit)×Nat)) (fun x=>ZX x.1) (fun x=>ZY x.2.1 x.2.2) fun x=>ZZ x.1 x.2.1 x.2.2
@[go_sem] def aKw:a9A (no_index (ZX O)) (no_index (ZY Z aA))=some (ZZ O Z aA):=rY (fun⟨a0,a1,a2⟩ ⟨b0,b1,b2⟩ h1 h2=>by cases h1;cases h2;rfl) (O,Z,aA)
end
@[go_sem] abbrev a0a:Nat×r6:=(30,⟨[.p wC [1],.v],a9A,[],[],none⟩)
def OT:rN Tryz.prog [sY,FE,H0] (rO [GX]):=⟨⟨tE,⟨J3,⟨LC,trivial⟩⟩⟩,qO OK rR,rP⟩
def a9B:r9 Tryz.prog a0a:=by
 refine rZ OT Tryz.func30 (c:=_) rfl (N:=19) pU (ts:=[(4,none),(5,none)]) rfl (fun _ _=>rfl) ?_;intro⟨O,Z,aA⟩ hs hrow;dsimp only[ZX,ZY,ZZ,rQ,qM,r5,rF,rT,Nat.reduceAdd] at hs hrow|-;obtain⟨rfl,hz⟩:=hs;obtain⟨z0,d⟩:=aLR.1 hz
 try rw[sC d]
 clear hz;unfold FI at d;refine qB OT ?_;refine qB OT ?_ (hp:=by first|rfl|trivial)
 obtain⟨hg1,d⟩:=qJ d;refine qB OT ?_ (hp:=by exact⟨pT,hg1⟩)
 refine qB OT ?_;refine qV ?_;cases d;exact pF [(0,0),(1,1)]
def a9C (O:pD):Unit:=()
section
variable (O:pD)
abbrev a0b:List qC:=[(.val .str O,none)]
abbrev a0c:List q9:=[]
@[go_sem] def a0d:qI:=⟨[],[(.val .clo (some (78,[(0,0)])),none)],[.cells .str O []]⟩
def a9D:List qC→List q9→Option qI:=rU (V:=pD) (a0b) (fun x=>a0c) fun x=>a0d x
@[go_sem] def aKx:a9D (no_index (a0b O)) (no_index a0c)=some (a0d O):=rY (fun a0 b0 h1 h2=>by cases h1;cases h2;rfl) O
end
@[go_sem] abbrev a9E:Nat×r6:=(50,⟨[.v],a9D,[],[],none⟩)
def a0e:rN Tryz.prog [sY] (rO []):=⟨⟨tE,trivial⟩,rR,rP⟩
def aHb:r9 Tryz.prog a9E:=by
 refine rZ a0e Tryz.func50 (c:=_) rfl (N:=4) pU (ts:=[(2,none)]) rfl (fun _ _=>rfl) ?_;intro O hs hrow;dsimp only[a0b,a0c,a0d,rQ,qM,r5,rF,rT,Nat.reduceAdd] at hs hrow|-;obtain⟨z0,d⟩: ∃z,(a9C O)=z:=⟨_,rfl⟩
 try rw[d]
 unfold a9C at d;refine qB a0e ?_;refine qB a0e ?_;refine qV ?_;cases d;exact pF [(0,0)]
def yJ (O:(List s7)) (Z:Int) (aA:Int) (aB:sQ) (aC:(pM×Unit)) (aD:Int) (aE:pK):Option (Int×Int):=if (decide (aA=(0:Int)))=true then if 0≤(0:Int)∧(0:Int)<(O.length:Int) then some (((qW sN O (0:Int)).2.2.1,aD)) else none else some ((Z,aA))
section
variable (O:Int) (Z:(List s7)) (aA:Int) (aB:Int) (aC:sQ) (aD:(pM×Unit)) (aE:Nat) (aF:Nat) (aG:pK)
abbrev a0f:List qC:=[(.val .ref (some (0,0)),none),(.val (.int .i64) O,none)]
abbrev a0g:List q9:=[.cells sO (Z,(aA,(aB,(aC,((some 3),aD))))) [(6,1),(8,2)],.grow 53 7 aE,.grow 3 1 aF,.map .str .bool aG]
@[go_sem] def a0h:qI:=⟨[aE=(aC.2.2.2.1.length),aF=(aD.1.length),((yJ Z aA aB aC aD O aG)).isSome=true],[],[.cells sO (Z,((val (yJ Z aA aB aC aD O aG)).1,((val (yJ Z aA aB aC aD O aG)).2,((aC.1,(aC.2.1,(aC.2.2.1,(aC.2.2.2.1,())))),((some 3),(aD.1,())))))) [(6,1),(8,2)],.grow 53 7 (aC.2.2.2.1.length),.grow 3 1 (aD.1.length),.map .str .bool aG]⟩
def a9F:List qC→List q9→Option qI:=rU (V:=(Int×(List s7)×Int×Int×sQ×(pM×Unit)×Nat×Nat×pK)) (fun x=>a0f x.1) (fun x=>a0g x.2.1 x.2.2.1 x.2.2.2.1 x.2.2.2.2.1 x.2.2.2.2.2.1 x.2.2.2.2.2.2.1 x.2.2.2.2.2.2.2.1 x.2.2.2.2.2.2.2.2) fun x=>a0h x.1 x.2.1 x.2.2.1 x.2.2.2.1 x.2.2.2.2.1 x.2.2.2.2.2.1 x.2.2.2.2.2.2.1 x.2.2.2.2.2.2.2.1 x.2.2.2.2.2.2.2.2
@[go_sem] def aKy:a9F (no_index (a0f O)) (no_index (a0g Z aA aB aC aD aE aF aG))=some (a0h O Z aA aB aC aD aE aF aG):=rY (fun⟨a0,a1,a2,a3,a4,a5,a6,a7,a8⟩ ⟨b0,b1,b2,b3,b4,b5,b6,b7,b8⟩ h1 h2=>by cases h1;cases h2;rfl) (O,Z,aA,aB,aC,aD,aE,aF,aG)
end
@[go_sem] abbrev J9:Nat×r6:=(56,⟨[.p sO [6,8],.v],a9F,[(0,7,.m)],[1,2,3],none⟩)
def a0i:rN Tryz.prog [wO,BR,BQ,AQ,zN] (rO []):=⟨⟨xH,⟨D5,⟨FD,⟨CC,⟨E5,trivial⟩⟩⟩⟩⟩,rR,rP⟩
def LD:r9 Tryz.prog J9:=by
 refine rZ a0i Tryz.func56 (c:=_) rfl (N:=23) pU (ts:=[]) rfl (fun _ _=>rfl) ?_;intro⟨O,Z,aA,aB,aC,aD,aE,aF,aG⟩ hs hrow;dsimp only[a0f,a0g,a0h,rQ,qM,r5,rF,rT,Nat.reduceAdd] at hs hrow|-;obtain⟨rfl,rfl,hz⟩:=hs;obtain⟨z0,d⟩:=aLR.1 hz
 try rw[sC d]
 clear hz;unfold yJ at d;refine qB a0i ?_;refine qY d (fun d hc1=> ?_) (fun d hc1=> ?_)
 .obtain⟨hg1,d⟩:=qJ d;refine rL a0i ?_ (hp:=by exact hg1);cases d;exact pF [(0,0),(1,1),(2,2),(3,3)]
 .refine rG ?_;cases d;exact pF [(0,0),(1,1),(2,2),(3,3)]
def TJ (O:pE) (Z:pE):Int→Option (Int⊕(Unit⊕Bool)):=fun aA=>if (decide (aA<(O.length:Int)))=true then if 0≤aA∧aA<(O.length:Int) then if 0≤aA∧aA<(Z.length:Int) then if (!decide ((qW .str O aA)=(qW .str Z aA)))=true then some (.inr (.inr (false))) else if qE (aA+(1:Int)) then some (.inl (aA+(1:Int))) else none else none else none else some (.inr (.inl ()))
def wI (O:pE) (Z:pE):Option Bool:=if (!decide ((O.length:Int)=(Z.length:Int)))=true then some (false) else uT (rX (TJ O Z) (0:Int)) fun _=>some (true)
section
variable (O:pE) (Z:pE)
abbrev a0j:List qC:=[(.val (.list .str) O,none),(.val (.list .str) Z,none)]
abbrev a0k:List q9:=[]
@[go_sem] def a0l:qI:=⟨[((wI O Z)).isSome=true],[(.val .bool (val (wI O Z)),none)],[]⟩
def a9G:List qC→List q9→Option qI:=rU (V:=(pE×pE)) (fun x=>a0j x.1 x.2) (fun x=>a0k) fun x=>a0l x.1 x.2
@[go_sem] def aKz:a9G (no_index (a0j O Z)) (no_index a0k)=some (a0l O Z):=rY (fun⟨a0,a1⟩ ⟨b0,b1⟩ h1 h2=>by cases h1;cases h2;rfl) (O,Z)
end
@[go_sem] abbrev a0m:Nat×r6:=(59,⟨[.v,.v],a9G,[],[],none⟩)
def E9:rN Tryz.prog [sY,xU] (rO []):=⟨⟨tE,⟨yI,trivial⟩⟩,rR,rP⟩
def a9H:r9 Tryz.prog a0m:=by
 refine rZ E9 Tryz.func59 (c:=_) rfl (N:=26) pU (ts:=[(4,none)]) rfl (fun _ _=>rfl) ?_;intro⟨O,Z⟩ hs hrow;dsimp only[a0j,a0k,a0l,rQ,qM,r5,rF,rT,Nat.reduceAdd] at hs hrow|-;have hz:=hs;obtain⟨z0,d⟩:=aLR.1 hz
 try rw[sC d]
 clear hz hs;unfold wI at d;refine qB E9 ?_;refine qT ?_;refine qB E9 ?_;refine qY d (fun d hc1=> ?_) (fun d hc1=> ?_)
 .refine qB E9 ?_;refine qV (s8 ?_);cases d;exact pF []
 .refine rG (qQ (qT ?_));refine qB E9 ?_;refine s9 ?_;obtain⟨y1,hy1,d⟩:=wB d;refine v6 0 (fun s=> ∃v,y1= .inl v∧s=(fun _=>⟨[],[],0,26,0⟩) v) ?_ ?_
  .refine uS hy1 (fun x=>⟨[(0,(.val (.list .str) O,none)),(1,(.val (.list .str) Z,none)),(5,(.val (.int .i64) x,none))],[],0,26,0⟩) ⟨[0,1,5],[]⟩ pV ?_;intro aA w1 n1 f g;unfold TJ at f;dsimp only at f|-;refine qT ?_;refine qB E9 ?_;refine qY f (fun f hc2=> ?_) (fun f hc2=> ?_)
   .refine rG (qQ (qT (s9 ?_)));obtain⟨hg1,f⟩:=qJ f;obtain⟨hg2,f⟩:=qJ f;refine vZ E9 ?_ (hp:=by exact⟨hg1,hg2⟩);refine qY f (fun f hc3=> ?_) (fun f hc3=> ?_)
    .refine qB E9 ?_;refine qV (sE (s8 (wA (wH (sE (s8 ?_))))));cases f;cases g;dsimp only at d;cases d;exact pF []
    .refine rG (rV (qQ ?_));obtain⟨hg3,f⟩:=qJ f;refine rL E9 ?_ (hp:=by exact hg3);cases f;exact tQ ⟨⟨[0,1,5],[]⟩,_,by rfl,g⟩
   .refine uO (uN (uQ ?_));cases f;cases g;exact uP ⟨⟨[],[]⟩,_,rfl,by rfl⟩
  .rintro _ ⟨v,rfl,rfl⟩;dsimp only at d|-;refine uY (qQ ?_);refine qB E9 ?_;refine qV ?_;cases d;exact pF []
def TK (O:(List qZ)) (Z:(List qZ)):Int→Option (Int⊕(Unit⊕Bool)):=fun aA=>if (decide (aA<(O.length:Int)))=true then if 0≤aA∧aA<(O.length:Int) then if 0≤aA∧aA<(Z.length:Int) then if (!((decide ((qW (.pair .str (.pair .str .unit)) O aA).1=(qW (.pair .str (.pair .str .unit)) Z aA).1))&&(decide ((qW (.pair .str (.pair .str .unit)) O aA).2.1=(qW (.pair .str (.pair .str .unit)) Z aA).2.1))))=true then some (.inr (.inr (false))) else if qE (aA+(1:Int)) then some (.inl (aA+(1:Int))) else none else none else none else some (.inr (.inl ()))
def z8 (O:(List qZ)) (Z:(List qZ)):Option Bool:=if (!decide ((O.length:Int)=(Z.length:Int)))=true then some (false) else uT (rX (TK O Z) (0:Int)) fun _=>some (true)
section
variable (O:(List qZ)) (Z:(List qZ))
abbrev a0n:List qC:=[(.val (.list (.pair .str (.pair .str .unit))) O,none),(.val (.list (.pair .str (.pair .str .unit))) Z,none)]
abbrev a0o:List q9:=[]
@[go_sem] def a0p:qI:=⟨[((z8 O Z)).isSome=true],[(.val .bool (val (z8 O Z)),none)],[]⟩
def a9I:List qC→List q9→Option qI:=rU (V:=((List qZ)×(List qZ))) (fun x=>a0n x.1 x.2) (fun x=>a0o) fun x=>a0p x.1 x.2
@[go_sem] def aKA:a9I (no_index (a0n O Z)) (no_index a0o)=some (a0p O Z):=rY (fun⟨a0,a1⟩ ⟨b0,b1⟩ h1 h2=>by cases h1;cases h2;rfl) (O,Z)
end
@[go_sem] abbrev a0q:Nat×r6:=(60,⟨[.v,.v],a9I,[],[],none⟩)
def EA:rN Tryz.prog [CD,FF] (rO []):=⟨⟨E7,⟨J4,trivial⟩⟩,rR,rP⟩
def a9J:r9 Tryz.prog a0q:=by
 refine rZ EA Tryz.func60 (c:=_) rfl (N:=26) pU (ts:=[(4,none)]) rfl (fun _ _=>rfl) ?_;intro⟨O,Z⟩ hs hrow;dsimp only[a0n,a0o,a0p,rQ,qM,r5,rF,rT,Nat.reduceAdd] at hs hrow|-;have hz:=hs;obtain⟨z0,d⟩:=aLR.1 hz
 try rw[sC d]
 clear hz hs;unfold z8 at d;refine qB EA ?_;refine qT ?_;refine qB EA ?_;refine qY d (fun d hc1=> ?_) (fun d hc1=> ?_)
 .refine qB EA ?_;refine qV (s8 ?_);cases d;exact pF []
 .refine rG (qQ (qT ?_));refine qB EA ?_;refine s9 ?_;obtain⟨y1,hy1,d⟩:=wB d;refine v6 0 (fun s=> ∃v,y1= .inl v∧s=(fun _=>⟨[],[],0,26,0⟩) v) ?_ ?_
  .refine uS hy1 (fun x=>⟨[(0,(.val (.list (.pair .str (.pair .str .unit))) O,none)),(1,(.val (.list (.pair .str (.pair .str .unit))) Z,none)),(5,(.val (.int .i64) x,none))],[],0,26,0⟩) ⟨[0,1,5],[]⟩ pV ?_;intro aA w1 n1 f g;unfold TK at f;dsimp only at f|-;refine qT ?_;refine qB EA ?_;refine qY f (fun f hc2=> ?_) (fun f hc2=> ?_)
   .refine rG (qQ (qT (s9 ?_)));obtain⟨hg1,f⟩:=qJ f;obtain⟨hg2,f⟩:=qJ f;refine vZ EA ?_ (hp:=by exact⟨hg1,hg2⟩);refine qY f (fun f hc3=> ?_) (fun f hc3=> ?_)
    .refine qB EA ?_;refine qV (sE (s8 (wA (wH (sE (s8 ?_))))));cases f;cases g;dsimp only at d;cases d;exact pF []
    .refine rG (rV (qQ ?_));obtain⟨hg3,f⟩:=qJ f;refine rL EA ?_ (hp:=by exact hg3);cases f;exact tQ ⟨⟨[0,1,5],[]⟩,_,by rfl,g⟩
   .refine uO (uN (uQ ?_));cases f;cases g;exact uP ⟨⟨[],[]⟩,_,rfl,by rfl⟩
  .rintro _ ⟨v,rfl,rfl⟩;dsimp only at d|-;refine uY (qQ ?_);refine qB EA ?_;refine qV ?_;cases d;exact pF []
def LE (O:rW) (Z:rW):Option Unit:=if ((((((decide (O.1=Z.1))&&(decide (O.2.1=Z.2.1)))&&(decide (O.2.2.1=Z.2.2.1)))&&(decide (O.2.2.2.2.2.1=Z.2.2.2.2.2.1)))==true)=true→((wI O.2.2.2.1 Z.2.2.2.1)).isSome=true) then if (((((((decide (O.1=Z.1))&&(decide (O.2.1=Z.2.1)))&&(decide (O.2.2.1=Z.2.2.1)))&&(decide (O.2.2.2.2.2.1=Z.2.2.2.2.2.1)))&&(val (wI O.2.2.2.1 Z.2.2.2.1)))==true)=true→((wI O.2.2.2.2.1 Z.2.2.2.2.1)).isSome=true) then if ((((((((decide (O.1=Z.1))&&(decide (O.2.1=Z.2.1)))&&(decide (O.2.2.1=Z.2.2.1)))&&(decide (O.2.2.2.2.2.1=Z.2.2.2.2.2.1)))&&(val (wI O.2.2.2.1 Z.2.2.2.1)))&&(val (wI O.2.2.2.2.1 Z.2.2.2.2.1)))==true)=true→((z8 O.2.2.2.2.2.2.1 Z.2.2.2.2.2.2.1)).isSome=true) then some (()) else none else none else none
section
variable (O:rW) (Z:rW)
abbrev a0r:List qC:=[(.val tC O,none),(.val tC Z,none)]
abbrev a0s:List q9:=[]
@[go_sem] def a0t:qI:=⟨[((LE O Z)).isSome=true],[(.val .bool (((((((decide (O.1=Z.1))&&(decide (O.2.1=Z.2.1)))&&(decide (O.2.2.1=Z.2.2.1)))&&(decide (O.2.2.2.2.2.1=Z.2.2.2.2.2.1)))&&(val (wI O.2.2.2.1 Z.2.2.2.1)))&&(val (wI O.2.2.2.2.1 Z.2.2.2.2.1)))&&(val (z8 O.2.2.2.2.2.2.1 Z.2.2.2.2.2.2.1))),none)],[]⟩
def a9K:List qC→List q9→Option qI:=rU (V:=(rW×rW)) (fun x=>a0r x.1 x.2) (fun x=>a0s) fun x=>a0t x.1 x.2
@[go_sem] def aKB:a9K (no_index (a0r O Z)) (no_index a0s)=some (a0t O Z):=rY (fun⟨a0,a1⟩ ⟨b0,b1⟩ h1 h2=>by cases h1;cases h2;rfl) (O,Z)
end
@[go_sem] abbrev a9L:Nat×r6:=(61,⟨[.v,.v],a9K,[],[],none⟩)
def a0u:rN Tryz.prog [wO,sY,xU,CD,A9] (rO [a0m,a0q]):=⟨⟨xH,⟨tE,⟨yI,⟨E7,⟨BS,trivial⟩⟩⟩⟩⟩,qO a9H (qO a9J rR),rP⟩
def aHc:r9 Tryz.prog a9L:=by
 refine rZ a0u Tryz.func61 (c:=_) rfl (N:=52) pU (ts:=[(4,none)]) rfl (fun _ _=>rfl) ?_;intro⟨O,Z⟩ hs hrow;dsimp only[a0r,a0s,a0t,rQ,qM,r5,rF,rT,Nat.reduceAdd] at hs hrow|-;have hz:=hs;obtain⟨z0,d⟩:=aLR.1 hz
 try rw[sC d]
 clear hz hs;unfold LE at d;refine qB a0u ?_;obtain⟨hg1,d⟩:=qJ d;obtain⟨hg2,d⟩:=qJ d;obtain⟨hg3,d⟩:=qJ d;refine qB a0u ?_ (hp:=by exact⟨id,id,id,id,sZ,id,id,id,id,sZ,id,id,id,id,sZ,id,id,id,id,hg1,sZ,id,id,id,id,hg2,sZ,id,id,id,id,hg3,sZ⟩);refine qV ?_;cases d;exact pF []
def a9M (O:qZ) (Z:qZ):Unit:=()
section
variable (O:qZ) (Z:qZ)
abbrev a0v:List qC:=[(.val (.pair .str (.pair .str .unit)) O,none),(.val .ref (some (0,0)),none)]
abbrev a0w:List q9:=[.cells (.pair .str (.pair .str .unit)) Z []]
@[go_sem] def a0x:qI:=⟨[],[(.val .bool (decide (O.1=Z.1)),none)],[.cells (.pair .str (.pair .str .unit)) Z []]⟩
def a9N:List qC→List q9→Option qI:=rU (V:=(qZ×qZ)) (fun x=>a0v x.1) (fun x=>a0w x.2) fun x=>a0x x.1 x.2
@[go_sem] def aKC:a9N (no_index (a0v O)) (no_index (a0w Z))=some (a0x O Z):=rY (fun⟨a0,a1⟩ ⟨b0,b1⟩ h1 h2=>by cases h1;cases h2;rfl) (O,Z)
end
@[go_sem] abbrev a9O:Nat×r6:=(129,⟨[.v,.p (.pair .str (.pair .str .unit)) []],a9N,[],[0],none⟩)
def a0y:rN Tryz.prog [sY,AR] (rO []):=⟨⟨tE,⟨CE,trivial⟩⟩,rR,rP⟩
def aHd:r9 Tryz.prog a9O:=by
 refine rZ a0y Tryz.func129 (c:=_) rfl (N:=9) pU (ts:=[(3,none)]) rfl (fun _ _=>rfl) ?_;intro⟨O,Z⟩ hs hrow;dsimp only[a0v,a0w,a0x,rQ,qM,r5,rF,rT,Nat.reduceAdd] at hs hrow|-;obtain⟨z0,d⟩: ∃z,(a9M O Z)=z:=⟨_,rfl⟩
 try rw[d]
 unfold a9M at d;refine qB a0y ?_;refine qB a0y ?_;refine qV ?_;cases d;exact pF [(0,0)]
attribute [irreducible] FI yJ wI z8 LE
end
noncomputable section
def OU (O:pD):Nat→Option (Nat⊕(Unit⊕Bool)):=fun Z=>if (decide (Z<O.length))=true then if (decide (Z<O.length))=true then if (((((decide ((wT O Z)<(97:Int)))||(decide ((122:Int)<(wT O Z))))&&((decide ((wT O Z)<(65:Int)))||(decide ((90:Int)<(wT O Z)))))&&((decide ((wT O Z)<(48:Int)))||(decide ((57:Int)<(wT O Z)))))&&(!decide ((wT O Z)=(45:Int))))=true then some (.inr (.inr (false))) else some (.inl (A2 O Z)) else none else some (.inr (.inl ()))
def EB (O:pD):Option Bool:=uT (rX (OU O) 0) fun _=>some (((decide ((1:Int)≤(O.length:Int)))&&(decide ((O.length:Int)≤(40:Int)))))
section
variable (O:pD)
abbrev a0z:List qC:=[(.val .str O,none)]
abbrev a0A:List q9:=[]
@[go_sem] def a0B:qI:=⟨[((EB O)).isSome=true],[(.val .bool (val (EB O)),none)],[]⟩
def a9P:List qC→List q9→Option qI:=rU (V:=pD) (a0z) (fun x=>a0A) fun x=>a0B x
@[go_sem] def aKD:a9P (no_index (a0z O)) (no_index a0A)=some (a0B O):=rY (fun a0 b0 h1 h2=>by cases h1;cases h2;rfl) O
end
@[go_sem] abbrev a0C:Nat×r6:=(63,⟨[.v],a9P,[],[],none⟩)
def H5:rN Tryz.prog [sY] (rO []):=⟨⟨tE,trivial⟩,rR,rP⟩
def a9Q:r9 Tryz.prog a0C:=by
 refine rZ H5 Tryz.func63 (c:=_) rfl (N:=44) pU (ts:=[(2,none)]) rfl (fun _ _=>rfl) ?_;intro O hs hrow;dsimp only[a0z,a0A,a0B,rQ,qM,r5,rF,rT,Nat.reduceAdd] at hs hrow|-;have hz:=hs;obtain⟨z0,e⟩:=aLR.1 hz
 try rw[sC e]
 clear hz hs;unfold EB at e;refine qB H5 ?_;refine qT ?_;refine qB H5 ?_;refine s9 ?_;obtain⟨y1,hy1,e⟩:=wB e;refine v6 0 (fun s=> ∃v,y1= .inl v∧s=(fun _=>⟨[(0,(.val .str O,none))],[],0,44,0⟩) v) ?_ ?_
 .refine uS hy1 (fun x=>⟨[(0,(.val .str O,none)),(6,(.val .ref (some (0,0)),none))],[(0,.iter O x)],1,44,0⟩) ⟨[0,6],[(0,64)]⟩ pV ?_;intro Z w1 n1 f g;unfold OU at f;dsimp only at f|-;refine qB H5 ?_;refine qT ?_;refine qY f (fun f hc1=> ?_) (fun f hc1=> ?_)
  .refine rG (qQ (s9 ?_));obtain⟨hg1,f⟩:=qJ f;refine qB H5 ?_ (hp:=by exact hg1);refine qB H5 ?_ (hp:=by exact⟨id,tK,id,id,id,id,fun hG d=>GU hG d,sZ,id,id,id,id,fun hG d=>GU hG d,sZ,id,sZ⟩);refine qY f (fun f hc2=> ?_) (fun f hc2=> ?_)
   .refine qB H5 ?_;refine qV (sE (wA (wH (sE (s8 ?_)))));cases f;cases g;dsimp only at e;cases e;exact pF []
   .refine rG (rV ?_);cases f;exact tQ ⟨⟨[0,6],[(0,0)]⟩,_,by rfl,g⟩
  .refine uO (uN (uQ ?_));cases f;cases g;exact uP ⟨⟨[0],[]⟩,_,rfl,by rfl⟩
 .rintro _ ⟨v,rfl,rfl⟩;dsimp only at e|-;refine uY (qQ ?_);refine qB H5 ?_ (hp:=by exact⟨id,id,sZ⟩);refine qV ?_;cases e;exact pF []
def wP (O:(List s7)) (Z:Int) (aA:Int) (aB:sQ) (aC:(pM×Unit)) (aD:Bool) (aE:Bool) (aF:Bool) (aG:pK):Option (Int×Int):=if aD=true then (yJ O Z aA aB aC (3:Int) aG).bind fun aH=>some ((aH.1,aH.2)) else if aE=true then (yJ O Z aA aB aC (9:Int) aG).bind fun aI=>some ((aI.1,aI.2)) else if aF=true then (yJ O Z aA aB aC (6:Int) aG).bind fun aJ=>some ((aJ.1,aJ.2)) else some ((Z,aA))
section
variable (O:Bool) (Z:Bool) (aA:Bool) (aB:(List s7)) (aC:Int) (aD:Int) (aE:sQ) (aF:(pM×Unit)) (aG:Nat) (aH:Nat) (aI:pK)
abbrev a0D:List qC:=[(.val .ref (some (0,0)),none),(.val .bool O,none),(.val .bool Z,none),(.val .bool aA,none)]
abbrev a0E:List q9:=[.cells sO (aB,(aC,(aD,(aE,((some 3),aF))))) [(6,1),(8,2)],.grow 53 7 aG,.grow 3 1 aH,.map .str .bool aI]
@[go_sem] def a0F:qI:=⟨[aG=(aE.2.2.2.1.length),aH=(aF.1.length),((wP aB aC aD aE aF O Z aA aI)).isSome=true],[],[.cells sO (aB,((val (wP aB aC aD aE aF O Z aA aI)).1,((val (wP aB aC aD aE aF O Z aA aI)).2,((aE.1,(aE.2.1,(aE.2.2.1,(aE.2.2.2.1,())))),((some 3),(aF.1,())))))) [(6,1),(8,2)],.grow 53 7 (aE.2.2.2.1.length),.grow 3 1 (aF.1.length),.map .str .bool aI]⟩
def a9R:List qC→List q9→Option qI:=rU (V:=(Bool×Bool×Bool×(List s7)×Int×Int×sQ×(pM×Unit)×Nat×Nat×pK)) (fun x=>a0D x.1 x.2.1 x.2.2.1) (fun x=>a0E x.2.2.2.1 x.2.2.2.2.1 x.2.2.2.2.2.1 x.2.2.2.2.2.2.1 x.2.2.2.2.2.2.2.1 x.2.2.2.2.2.2.2.2.1 x.2.2.2.2.2.2.2.2.2.1 x.2.2.2.2.2.2.2.2.2.2) fun x=>a0F x.1 x.2.1 x.2.2.1 x.2.2.2.1 x.2.2.2.2.1 x.2.2.2.2.2.1 x.2.2.2.2.2.2.1 x.2.2.2.2.2.2.2.1 x.2.2.2.2.2.2.2.2.1 x.2.2.2.2.2.2.2.2.2.1 x.2.2.2.2.2.2.2.2.2.2
@[go_sem] def aKE:a9R (no_index (a0D O Z aA)) (no_index (a0E aB aC aD aE aF aG aH aI))=some (a0F O Z aA aB aC aD aE aF aG aH aI):=rY (fun⟨a0,a1,a2,a3,a4,a5,a6,a7,a8,a9,a10⟩ ⟨b0,b1,b2,b3,b4,b5,b6,b7,b8,b9,b10⟩ h1 h2=>by cases h1;cases h2;rfl) (O,Z,aA,aB,aC,aD,aE,aF,aG,aH,aI)
end
@[go_sem] abbrev D8:Nat×r6:=(81,⟨[.p sO [6,8],.v,.v,.v],a9R,[(0,7,.m)],[1,2,3],none⟩)
def JA:rN Tryz.prog [] (rO [J9]):=⟨trivial,qO LD rR,rP⟩
def EC:r9 Tryz.prog D8:=by
 refine rZ JA Tryz.func81 (c:=_) rfl (N:=20) pU (ts:=[]) rfl (fun _ _=>rfl) ?_;intro⟨O,Z,aA,aB,aC,aD,aE,aF,aG,aH,aI⟩ hs hrow;dsimp only[a0D,a0E,a0F,rQ,qM,r5,rF,rT,Nat.reduceAdd] at hs hrow|-;obtain⟨rfl,rfl,hz⟩:=hs;obtain⟨z0,e⟩:=aLR.1 hz
 try rw[sC e]
 clear hz;unfold wP at e;refine s9 ?_;refine qB JA ?_;refine qY e (fun e hc1=> ?_) (fun e hc1=> ?_)
 .obtain⟨aJ,hv1,hw1,e⟩:=qS e
  try simp only[go_sem] at hw1
  refine rL JA ?_ (hp:=by exact⟨pT,pT,pT,pT,pT,(qR hv1)⟩) (h:=by simp only[go_sem,hw1];rfl)
  refine rV ?_;cases e;exact pF [(0,0),(1,1),(2,2),(3,3)]
 .refine qB JA ?_;refine qY e (fun e hc2=> ?_) (fun e hc2=> ?_)
  .obtain⟨aK,hv2,hw2,e⟩:=qS e
   try simp only[go_sem] at hw2
   refine rL JA ?_ (hp:=by exact⟨pT,pT,pT,pT,pT,(qR hv2)⟩) (h:=by simp only[go_sem,hw2];rfl)
   refine rV ?_;cases e;exact pF [(0,0),(1,1),(2,2),(3,3)]
  .refine qB JA ?_;refine qY e (fun e hc3=> ?_) (fun e hc3=> ?_)
   .obtain⟨aL,hv3,hw3,e⟩:=qS e
    try simp only[go_sem] at hw3
    refine rL JA ?_ (hp:=by exact⟨pT,pT,pT,pT,pT,(qR hv3)⟩) (h:=by simp only[go_sem,hw3];rfl)
    refine rV ?_;cases e;exact pF [(0,0),(1,1),(2,2),(3,3)]
   .refine rG (rV ?_);cases e;exact pF [(0,0),(1,1),(2,2),(3,3)]
def wX (O:(List s7)) (Z:Int) (aA:Int) (aB:sQ) (aC:(pM×Unit)) (aD:pK):Option (List s7):=if 0≤(0:Int)∧(0:Int)<(O.length:Int) then if 0≤(0:Int)∧(0:Int)<(O.length:Int) then if qE ((qW sN O (0:Int)).2.2.1+(((qW sN O (0:Int)).2.1).length:Int)) then if ((decide (aA=(0:Int)))&&(decide ((1:Int)<(O.length:Int))))=true then if 0≤(1:Int)∧(1:Int)≤(O.length:Int)∧(O.length:Int)≤(O.length:Int) then some ((sD O (1:Int) (O.length:Int))) else none else some (O) else none else none else none
section
variable (O:(List s7)) (Z:Int) (aA:Int) (aB:sQ) (aC:(pM×Unit)) (aD:Nat) (aE:Nat) (aF:pK)
abbrev a0G:List qC:=[(.val .ref (some (0,0)),none)]
abbrev a0H:List q9:=[.cells sO (O,(Z,(aA,(aB,((some 3),aC))))) [(6,1),(8,2)],.grow 53 7 aD,.grow 3 1 aE,.map .str .bool aF]
@[go_sem] def a0I:qI:=⟨[aD=(aB.2.2.2.1.length),aE=(aC.1.length),((wX O Z aA aB aC aF)).isSome=true],[(.val (.int .i64) ((qW sN O (0:Int)).2.2.1+(((qW sN O (0:Int)).2.1).length:Int)),none)],[.cells sO ((val (wX O Z aA aB aC aF)),(Z,(aA,((aB.1,(aB.2.1,(aB.2.2.1,(aB.2.2.2.1,())))),((some 3),(aC.1,())))))) [(6,1),(8,2)],.grow 53 7 (aB.2.2.2.1.length),.grow 3 1 (aC.1.length),.map .str .bool aF]⟩
def a9S:List qC→List q9→Option qI:=rU (V:=((List s7)×Int×Int×sQ×(pM×Unit)×Nat×Nat×pK)) (fun x=>a0G) (fun x=>a0H x.1 x.2.1 x.2.2.1 x.2.2.2.1 x.2.2.2.2.1 x.2.2.2.2.2.1 x.2.2.2.2.2.2.1 x.2.2.2.2.2.2.2) fun x=>a0I x.1 x.2.1 x.2.2.1 x.2.2.2.1 x.2.2.2.2.1 x.2.2.2.2.2.1 x.2.2.2.2.2.2.1 x.2.2.2.2.2.2.2
@[go_sem] def aKF:a9S (no_index a0G) (no_index (a0H O Z aA aB aC aD aE aF))=some (a0I O Z aA aB aC aD aE aF):=rY (fun⟨a0,a1,a2,a3,a4,a5,a6,a7⟩ ⟨b0,b1,b2,b3,b4,b5,b6,b7⟩ h1 h2=>by cases h1;cases h2;rfl) (O,Z,aA,aB,aC,aD,aE,aF)
end
@[go_sem] abbrev H6:Nat×r6:=(82,⟨[.p sO [6,8]],a9S,[(0,7,.m)],[1,2,3],none⟩)
def JB:rN Tryz.prog [wO,sY,BR,BQ,AQ,zN] (rO []):=⟨⟨xH,⟨tE,⟨D5,⟨FD,⟨CC,⟨E5,trivial⟩⟩⟩⟩⟩⟩,rR,rP⟩
def JC:r9 Tryz.prog H6:=by
 refine rZ JB Tryz.func82 (c:=_) rfl (N:=42) pU (ts:=[(2,none)]) rfl (fun _ _=>rfl) ?_;intro⟨O,Z,aA,aB,aC,aD,aE,aF⟩ hs hrow;dsimp only[a0G,a0H,a0I,rQ,qM,r5,rF,rT,Nat.reduceAdd] at hs hrow|-;obtain⟨rfl,rfl,hz⟩:=hs;obtain⟨z0,e⟩:=aLR.1 hz
 try rw[sC e]
 clear hz;unfold wX at e;refine qB JB ?_;obtain⟨hg1,e⟩:=qJ e;obtain⟨hg2,e⟩:=qJ e;obtain⟨hg3,e⟩:=qJ e;refine vZ JB ?_ (hp:=by exact⟨hg1,hg2,hg3⟩);refine qT ?_;refine qB JB ?_ (hp:=by exact⟨id,id,id,id,id,sZ⟩);refine qY e (fun e hc1=> ?_) (fun e hc1=> ?_)
 .obtain⟨hg4,e⟩:=qJ e;refine rL JB ?_ (hp:=by exact hg4);refine qQ ?_;refine qB JB ?_;refine qV ?_;cases e;exact pF [(0,0),(1,1),(2,2),(3,3)]
 .refine rG (qQ ?_);refine qB JB ?_;refine qV ?_;cases e;exact pF [(0,0),(1,1),(2,2),(3,3)]
def OV (O:pE) (Z:pD):Int→Option (Int⊕(Unit⊕Int)):=fun aA=>if (decide (aA<(O.length:Int)))=true then if 0≤aA∧aA<(O.length:Int) then if (decide (Z=(qW .str O aA)))=true then some (.inr (.inr (aA))) else if qE (aA+(1:Int)) then some (.inl (aA+(1:Int))) else none else none else some (.inr (.inl ()))
def AS (O:pE) (Z:pD):Option Int:=uT (rX (OV O Z) (0:Int)) fun _=>some ((-1:Int))
section
variable (O:pE) (Z:pD)
abbrev a0J:List qC:=[(.val (.list .str) O,none),(.val .str Z,none)]
abbrev a0K:List q9:=[]
@[go_sem] def a0L:qI:=⟨[((AS O Z)).isSome=true],[(.val (.int .i64) (val (AS O Z)),none)],[]⟩
def a9T:List qC→List q9→Option qI:=rU (V:=(pE×pD)) (fun x=>a0J x.1 x.2) (fun x=>a0K) fun x=>a0L x.1 x.2
@[go_sem] def aKG:a9T (no_index (a0J O Z)) (no_index a0K)=some (a0L O Z):=rY (fun⟨a0,a1⟩ ⟨b0,b1⟩ h1 h2=>by cases h1;cases h2;rfl) (O,Z)
end
@[go_sem] abbrev TL:Nat×r6:=(92,⟨[.v,.v],a9T,[],[],none⟩)
def FJ:rN Tryz.prog [sY,xU] (rO []):=⟨⟨tE,⟨yI,trivial⟩⟩,rR,rP⟩
def a0M:r9 Tryz.prog TL:=by
 refine rZ FJ Tryz.func92 (c:=_) rfl (N:=19) pU (ts:=[(4,none)]) rfl (fun _ _=>rfl) ?_;intro⟨O,Z⟩ hs hrow;dsimp only[a0J,a0K,a0L,rQ,qM,r5,rF,rT,Nat.reduceAdd] at hs hrow|-;have hz:=hs;obtain⟨z0,e⟩:=aLR.1 hz
 try rw[sC e]
 clear hz hs;unfold AS at e;refine qB FJ ?_;refine qT ?_;refine qB FJ ?_;refine s9 ?_;obtain⟨y1,hy1,e⟩:=wB e;refine v6 0 (fun s=> ∃v,y1= .inl v∧s=(fun _=>⟨[],[],0,19,0⟩) v) ?_ ?_
 .refine uS hy1 (fun x=>⟨[(0,(.val (.list .str) O,none)),(1,(.val .str Z,none)),(7,(.val (.int .i64) (O.length:Int),none)),(8,(.val (.int .i64) x,none))],[],0,19,0⟩) ⟨[0,1,7,8],[]⟩ pV ?_;intro aA w1 n1 f g;unfold OV at f;dsimp only at f|-;refine qB FJ ?_;refine qT ?_;refine qY f (fun f hc1=> ?_) (fun f hc1=> ?_)
  .refine rG (qQ (qT (s9 ?_)));refine qB FJ ?_;obtain⟨hg1,f⟩:=qJ f;refine qB FJ ?_ (hp:=by exact hg1);refine qY f (fun f hc2=> ?_) (fun f hc2=> ?_)
   .refine qB FJ ?_;refine qV (sE (s8 (wA (wH (sE (s8 ?_))))));cases f;cases g;dsimp only at e;cases e;exact pF []
   .refine rG (rV (qQ ?_));obtain⟨hg2,f⟩:=qJ f;refine rL FJ ?_ (hp:=by exact hg2);cases f;exact tQ ⟨⟨[0,1,7,8],[]⟩,_,by rfl,g⟩
  .refine uO (uN (uQ ?_));cases f;cases g;exact uP ⟨⟨[],[]⟩,_,rfl,by rfl⟩
 .rintro _ ⟨v,rfl,rfl⟩;dsimp only at e|-;refine uY (qQ ?_);refine qB FJ ?_;refine qV ?_;cases e;exact pF []
def LF (O:pD):Nat→Option (Nat⊕(Unit⊕Bool)):=fun Z=>if (decide (Z<O.length))=true then if (decide (Z<O.length))=true then if (decide (Z<O.length))=true then if ((decide ((97:Int)≤(wT O Z)))&&(decide ((wT O Z)≤(122:Int))))=true then some (.inl (A2 O Z)) else if ((decide ((0:Int)<((Z:Nat):Int)))&&(((((decide ((48:Int)≤(wT O Z)))&&(decide ((wT O Z)≤(57:Int))))||(decide ((wT O Z)=(45:Int))))||(decide ((wT O Z)=(95:Int))))||(decide ((wT O Z)=(46:Int)))))=true then some (.inl (A2 O Z)) else some (.inr (.inr (false))) else none else none else some (.inr (.inl ()))
def D9 (O:pD):Option Bool:=uT (rX (LF O) 0) fun _=>some (((decide ((1:Int)≤(O.length:Int)))&&(decide ((O.length:Int)≤(40:Int)))))
section
variable (O:pD)
abbrev a0N:List qC:=[(.val .str O,none)]
abbrev a0O:List q9:=[]
@[go_sem] def a0P:qI:=⟨[((D9 O)).isSome=true],[(.val .bool (val (D9 O)),none)],[]⟩
def a9U:List qC→List q9→Option qI:=rU (V:=pD) (a0N) (fun x=>a0O) fun x=>a0P x
@[go_sem] def aKH:a9U (no_index (a0N O)) (no_index a0O)=some (a0P O):=rY (fun a0 b0 h1 h2=>by cases h1;cases h2;rfl) O
end
@[go_sem] abbrev TM:Nat×r6:=(98,⟨[.v],a9U,[],[],none⟩)
def ED:rN Tryz.prog [sY] (rO []):=⟨⟨tE,trivial⟩,rR,rP⟩
def a0Q:r9 Tryz.prog TM:=by
 refine rZ ED Tryz.func98 (c:=_) rfl (N:=51) pU (ts:=[(2,none)]) rfl (fun _ _=>rfl) ?_;intro O hs hrow;dsimp only[a0N,a0O,a0P,rQ,qM,r5,rF,rT,Nat.reduceAdd] at hs hrow|-;have hz:=hs;obtain⟨z0,e⟩:=aLR.1 hz
 try rw[sC e]
 clear hz hs;unfold D9 at e;refine qB ED ?_;refine qT ?_;refine qB ED ?_;refine s9 ?_;obtain⟨y1,hy1,e⟩:=wB e;refine v6 0 (fun s=> ∃v,y1= .inl v∧s=(fun _=>⟨[(0,(.val .str O,none))],[],0,51,0⟩) v) ?_ ?_
 .refine uS hy1 (fun x=>⟨[(0,(.val .str O,none)),(7,(.val .ref (some (0,0)),none))],[(0,.iter O x)],1,51,0⟩) ⟨[0,7],[(0,64)]⟩ pV ?_;intro Z w1 n1 f g;unfold LF at f;dsimp only at f|-;refine qB ED ?_;refine qT ?_;refine qY f (fun f hc1=> ?_) (fun f hc1=> ?_)
  .refine rG (qQ (s9 ?_));obtain⟨hg1,f⟩:=qJ f;obtain⟨hg2,f⟩:=qJ f;refine qB ED ?_ (hp:=by exact⟨hg1,hg2⟩);refine qB ED ?_ (hp:=by exact⟨id,sZ⟩);refine s9 ?_;refine qB ED ?_;refine qY f (fun f hc2=> ?_) (fun f hc2=> ?_)
   .refine rG (rV (rV ?_));cases f;exact tQ ⟨⟨[0,7],[(0,0)]⟩,_,by rfl,g⟩
   .refine qB ED ?_ (hp:=by exact⟨id,id,id,id,fun hG d=>a8N hG d,id,id,id,fun hG d=>GU hG d,id,id,id,fun hG d=>GU hG d,id,id,id,fun hG d=>GU hG d,sZ⟩);refine qY f (fun f hc3=> ?_) (fun f hc3=> ?_)
    .refine rG (rV (rV ?_));cases f;exact tQ ⟨⟨[0,7],[(0,0)]⟩,_,by rfl,g⟩
    .refine qB ED ?_;refine qV (sE (sE (wA (wH (sE (s8 ?_))))));cases f;cases g;dsimp only at e;cases e;exact pF []
  .refine uO (uN (uQ ?_));cases f;cases g;exact uP ⟨⟨[0],[]⟩,_,rfl,by rfl⟩
 .rintro _ ⟨v,rfl,rfl⟩;dsimp only at e|-;refine uY (qQ ?_);refine qB ED ?_ (hp:=by exact⟨id,id,sZ⟩);refine qV ?_;cases e;exact pF []
attribute [irreducible] EB wP wX AS D9
end
noncomputable section
def DA (O:pE) (Z:pD):Option Bool:=(AS O Z).bind fun aA=>some ((decide ((0:Int)≤aA)))
section
variable (O:pE) (Z:pD)
abbrev a0R:List qC:=[(.val (.list .str) O,none),(.val .str Z,none)]
abbrev a0S:List q9:=[]
@[go_sem] def a0T:qI:=⟨[((DA O Z)).isSome=true],[(.val .bool (val (DA O Z)),none)],[]⟩
def a9V:List qC→List q9→Option qI:=rU (V:=(pE×pD)) (fun x=>a0R x.1 x.2) (fun x=>a0S) fun x=>a0T x.1 x.2
@[go_sem] def aKI:a9V (no_index (a0R O Z)) (no_index a0S)=some (a0T O Z):=rY (fun⟨a0,a1⟩ ⟨b0,b1⟩ h1 h2=>by cases h1;cases h2;rfl) (O,Z)
end
@[go_sem] abbrev TN:Nat×r6:=(112,⟨[.v,.v],a9V,[],[],none⟩)
def a0U:rN Tryz.prog [] (rO [TL]):=⟨trivial,qO a0M rR,rP⟩
def a0V:r9 Tryz.prog TN:=by
 refine rZ a0U Tryz.func112 (c:=_) rfl (N:=9) pU (ts:=[(4,none)]) rfl (fun _ _=>rfl) ?_;intro⟨O,Z⟩ hs hrow;dsimp only[a0R,a0S,a0T,rQ,qM,r5,rF,rT,Nat.reduceAdd] at hs hrow|-;have hz:=hs;obtain⟨z0,d⟩:=aLR.1 hz
 try rw[sC d]
 clear hz hs;unfold DA at d;refine qB a0U ?_;obtain⟨aA,hv1,hw1,d⟩:=qS d
 try simp only[go_sem] at hw1
 refine qB a0U ?_ (hp:=by exact(qR hv1)) (h:=by simp only[go_sem,hw1];rfl);refine qV ?_;cases d;exact pF []
def OW (O:pD):Int→Option (Int⊕Int):=fun Z=>if (((decide (Z<(O.length:Int)))==true)=true→0≤Z∧Z<(O.length:Int)) then if ((((decide (Z<(O.length:Int)))&&(decide ((97:Int)≤(tU O Z))))==true)=true→0≤Z∧Z<(O.length:Int)) then if (((decide (Z<(O.length:Int)))&&(decide ((97:Int)≤(tU O Z))))&&(decide ((tU O Z)≤(122:Int))))=true then if qE (Z+(1:Int)) then some (.inl (Z+(1:Int))) else none else some (.inr Z) else none else none
def DB (O:pD):Option (pD×pD):=t8 (rX (OW O) (0:Int)) fun Z=>if 0≤(0:Int)∧(0:Int)≤Z∧Z≤(O.length:Int) then if 0≤Z∧Z≤(O.length:Int)∧(O.length:Int)≤(O.length:Int) then some (((sD O (0:Int) Z),(sD O Z (O.length:Int)))) else none else none
section
variable (O:pD)
abbrev a0W:List qC:=[(.val .str O,none)]
abbrev a0X:List q9:=[]
@[go_sem] def a0Y:qI:=⟨[((DB O)).isSome=true],[(.val .str ((val (DB O)).1),none),(.val .str ((val (DB O)).2),none)],[]⟩
def a9W:List qC→List q9→Option qI:=rU (V:=pD) (a0W) (fun x=>a0X) fun x=>a0Y x
@[go_sem] def aKJ:a9W (no_index (a0W O)) (no_index a0X)=some (a0Y O):=rY (fun a0 b0 h1 h2=>by cases h1;cases h2;rfl) O
end
@[go_sem] abbrev a0Z:Nat×r6:=(125,⟨[.v],a9W,[],[],none⟩)
def LG:rN Tryz.prog [sY] (rO []):=⟨⟨tE,trivial⟩,rR,rP⟩
def a9X:r9 Tryz.prog a0Z:=by
 refine rZ LG Tryz.func125 (c:=_) rfl (N:=29) pU (ts:=[(2,none),(3,none)]) rfl (fun _ _=>rfl) ?_;intro O hs hrow;dsimp only[a0W,a0X,a0Y,rQ,qM,r5,rF,rT,Nat.reduceAdd] at hs hrow|-;have hz:=hs;obtain⟨z0,d⟩:=aLR.1 hz
 try rw[sC d]
 clear hz hs;unfold DB at d;refine qB LG ?_;refine qB LG ?_;refine qT (s9 ?_);obtain⟨Z,hy1,d⟩:=qK d;refine v6 0 (fun s=>s=(fun x=>⟨[(0,(.val .str O,none)),(4,(.val (.int .i64) x,none))],[],0,29,0⟩) Z) ?_ ?_
 .refine uS hy1 (fun x=>⟨[(0,(.val .str O,none)),(4,(.val (.int .i64) x,none))],[],0,29,0⟩) ⟨[0,4],[]⟩ pV ?_;intro aA w1 n1 f g;unfold OW at f;dsimp only at f|-;refine qT ?_;obtain⟨hg1,f⟩:=qJ f;obtain⟨hg2,f⟩:=qJ f;refine qB LG ?_ (hp:=by exact⟨id,id,hg1,id,sZ,id,id,hg2,id,sZ⟩);refine qY f (fun f hc1=> ?_) (fun f hc1=> ?_)
  .refine rG (qQ (s9 ?_));obtain⟨hg3,f⟩:=qJ f;refine rL LG ?_ (hp:=by exact hg3);refine rV ?_;cases f;exact tQ ⟨⟨[0,4],[]⟩,_,by rfl,g⟩
  .refine uO (uN (uQ ?_));cases f;cases g;exact uP ⟨⟨[0,4],[]⟩,by rfl⟩
 .rintro _ rfl;dsimp only at d|-;refine uY (qQ ?_);obtain⟨hg4,d⟩:=qJ d;obtain⟨hg5,d⟩:=qJ d;refine vZ LG ?_ (hp:=by exact⟨hg4,hg5⟩);refine qV ?_;cases d;exact pF []
def LH (O:pD):Option Bool:=(D9 O).bind fun Z=>some ((!Z))
section
variable (O:pD)
abbrev a00:List qC:=[(.val .str O,none)]
abbrev a01:List q9:=[]
@[go_sem] def a02:qI:=⟨[((LH O)).isSome=true],[(.val .bool (val (LH O)),none)],[]⟩
def a9Y:List qC→List q9→Option qI:=rU (V:=pD) (a00) (fun x=>a01) fun x=>a02 x
@[go_sem] def aKK:a9Y (no_index (a00 O)) (no_index a01)=some (a02 O):=rY (fun a0 b0 h1 h2=>by cases h1;cases h2;rfl) O
end
@[go_sem] abbrev a9Z:Nat×r6:=(133,⟨[.v],a9Y,[],[],none⟩)
def a03:rN Tryz.prog [] (rO [TM]):=⟨trivial,qO a0Q rR,rP⟩
def aHe:r9 Tryz.prog a9Z:=by
 refine rZ a03 Tryz.func133 (c:=_) rfl (N:=6) pU (ts:=[(2,none)]) rfl (fun _ _=>rfl) ?_;intro O hs hrow;dsimp only[a00,a01,a02,rQ,qM,r5,rF,rT,Nat.reduceAdd] at hs hrow|-;have hz:=hs;obtain⟨z0,d⟩:=aLR.1 hz
 try rw[sC d]
 clear hz hs;unfold LH at d;refine qB a03 ?_;obtain⟨Z,hv1,hw1,d⟩:=qS d
 try simp only[go_sem] at hw1
 refine qB a03 ?_ (hp:=by exact(qR hv1)) (h:=by simp only[go_sem,hw1];rfl);refine qV ?_;cases d;exact pF []
def OX (O:pD):Option Unit:=if List.length O≤9223372036854775807 then some (()) else none
section
variable (O:pD)
abbrev a04:List qC:=[(.val .str O,none)]
abbrev a05:List q9:=[]
@[go_sem] def a06:qI:=⟨[((OX O)).isSome=true],[(.val .bool (Lib.validD O),none)],[]⟩
def a90:List qC→List q9→Option qI:=rU (V:=pD) (a04) (fun x=>a05) fun x=>a06 x
@[go_sem] def aKL:a90 (no_index (a04 O)) (no_index a05)=some (a06 O):=rY (fun a0 b0 h1 h2=>by cases h1;cases h2;rfl) O
end
@[go_sem] abbrev a91:Nat×r6:=(138,⟨[.v],a90,[],[],none⟩)
def a07:rN Tryz.prog [] (rO [L6]):=⟨trivial,qO YW rR,rP⟩
def aHf:r9 Tryz.prog a91:=by
 refine rZ a07 Tryz.func138 (c:=_) rfl (N:=5) pU (ts:=[(2,none)]) rfl (fun _ _=>rfl) ?_;intro O hs hrow;dsimp only[a04,a05,a06,rQ,qM,r5,rF,rT,Nat.reduceAdd] at hs hrow|-;have hz:=hs;obtain⟨z0,d⟩:=aLR.1 hz
 try rw[sC d]
 clear hz hs;unfold OX at d;refine qB a07 ?_;obtain⟨hg1,d⟩:=qJ d;refine qB a07 ?_ (hp:=by exact hg1);refine qV ?_;cases d;exact pF []
def a92 (O:Int):Unit:=()
section
variable (O:Int)
abbrev a08:List qC:=[(.val (.int .i64) O,none)]
abbrev a09:List q9:=[]
@[go_sem] def a1a:qI:=⟨[],[(.val .bool ((decide ((1:Int)≤O))&&(decide (O≤(4:Int)))),none)],[]⟩
def a93:List qC→List q9→Option qI:=rU (V:=Int) (a08) (fun x=>a09) fun x=>a1a x
@[go_sem] def aKM:a93 (no_index (a08 O)) (no_index a09)=some (a1a O):=rY (fun a0 b0 h1 h2=>by cases h1;cases h2;rfl) O
end
@[go_sem] abbrev a94:Nat×r6:=(139,⟨[.v],a93,[],[],none⟩)
def a1b:rN Tryz.prog [] (rO []):=⟨trivial,rR,rP⟩
def aHg:r9 Tryz.prog a94:=by
 refine rZ a1b Tryz.func139 (c:=_) rfl (N:=9) pU (ts:=[(2,none)]) rfl (fun _ _=>rfl) ?_;intro O hs hrow;dsimp only[a08,a09,a1a,rQ,qM,r5,rF,rT,Nat.reduceAdd] at hs hrow|-;obtain⟨z0,d⟩: ∃z,(a92 O)=z:=⟨_,rfl⟩
 try rw[d]
 unfold a92 at d;refine qB a1b ?_;refine qB a1b ?_ (hp:=by exact⟨id,sZ⟩);refine qV ?_;cases d;exact pF []
def internal_stringslite_HasPrefix (O:pD) (Z:pD):Option Unit:=if (((decide ((Z.length:Int)≤(O.length:Int)))==true)=true→0≤(0:Int)∧(0:Int)≤(Z.length:Int)∧(Z.length:Int)≤(O.length:Int)) then some (()) else none
section
variable (O:pD) (Z:pD)
abbrev IZ:List qC:=[(.val .str O,none),(.val .str Z,none)]
abbrev J0:List q9:=[]
@[go_sem] def J1:qI:=⟨[((internal_stringslite_HasPrefix O Z)).isSome=true],[(.val .bool ((decide ((Z.length:Int)≤(O.length:Int)))&&(decide ((sD O (0:Int) (Z.length:Int))=Z))),none)],[]⟩
def OM:List qC→List q9→Option qI:=rU (V:=(pD×pD)) (fun x=>IZ x.1 x.2) (fun x=>J0) fun x=>J1 x.1 x.2
@[go_sem] def aGY:OM (no_index (IZ O Z)) (no_index J0)=some (J1 O Z):=rY (fun⟨a0,a1⟩ ⟨b0,b1⟩ h1 h2=>by cases h1;cases h2;rfl) (O,Z)
end
@[go_sem] abbrev ON:Nat×r6:=(150,⟨[.v,.v],OM,[],[],none⟩)
def J2:rN Tryz.prog [sY] (rO []):=⟨⟨tE,trivial⟩,rR,rP⟩
def Z7:r9 Tryz.prog ON:=by
 refine rZ J2 Tryz.func150 (c:=_) rfl (N:=18) pU (ts:=[(4,none)]) rfl (fun _ _=>rfl) ?_;intro⟨O,Z⟩ hs hrow;dsimp only[IZ,J0,J1,rQ,qM,r5,rF,rT,Nat.reduceAdd] at hs hrow|-;have hz:=hs;obtain⟨z0,d⟩:=aLR.1 hz
 try rw[sC d]
 clear hz hs;unfold internal_stringslite_HasPrefix at d;refine qB J2 ?_;obtain⟨hg1,d⟩:=qJ d;refine qB J2 ?_ (hp:=by exact⟨id,id,id,hg1,id,id,sZ⟩);refine qV ?_;cases d;exact pF []
def a95 (O:qZ) (Z:pD):Unit:=()
section
variable (O:qZ) (Z:pD)
abbrev a1c:List qC:=[(.val (.pair .str (.pair .str .unit)) O,none),(.val .ref (some (0,0)),none)]
abbrev a1d:List q9:=[.cells .str Z []]
@[go_sem] def a1e:qI:=⟨[],[(.val .bool (!(Op.bytesLess O.1 Z||decide (O.1=Z))),none)],[.cells .str Z []]⟩
def a96:List qC→List q9→Option qI:=rU (V:=(qZ×pD)) (fun x=>a1c x.1) (fun x=>a1d x.2) fun x=>a1e x.1 x.2
@[go_sem] def aKN:a96 (no_index (a1c O)) (no_index (a1d Z))=some (a1e O Z):=rY (fun⟨a0,a1⟩ ⟨b0,b1⟩ h1 h2=>by cases h1;cases h2;rfl) (O,Z)
end
@[go_sem] abbrev a97:Nat×r6:=(158,⟨[.v,.p .str []],a96,[],[0],none⟩)
def a1f:rN Tryz.prog [sY,FF] (rO []):=⟨⟨tE,⟨J4,trivial⟩⟩,rR,rP⟩
def aHh:r9 Tryz.prog a97:=by
 refine rZ a1f Tryz.func158 (c:=_) rfl (N:=8) pU (ts:=[(3,none)]) rfl (fun _ _=>rfl) ?_;intro⟨O,Z⟩ hs hrow;dsimp only[a1c,a1d,a1e,rQ,qM,r5,rF,rT,Nat.reduceAdd] at hs hrow|-;obtain⟨z0,d⟩: ∃z,(a95 O Z)=z:=⟨_,rfl⟩
 try rw[d]
 unfold a95 at d;refine qB a1f ?_;refine qB a1f ?_;refine qV ?_;cases d;exact pF [(0,0)]
def JD (O:pD) (Z:pD):Option (pD×Bool):=(internal_stringslite_HasPrefix O Z).bind fun aA=>if (!((decide ((Z.length:Int)≤(O.length:Int)))&&(decide ((sD O (0:Int) (Z.length:Int))=Z))))=true then some ((O,false)) else if 0≤(Z.length:Int)∧(Z.length:Int)≤(O.length:Int)∧(O.length:Int)≤(O.length:Int) then some (((sD O (Z.length:Int) (O.length:Int)),true)) else none
section
variable (O:pD) (Z:pD)
abbrev a1g:List qC:=[(.val .str O,none),(.val .str Z,none)]
abbrev a1h:List q9:=[]
@[go_sem] def a1i:qI:=⟨[((JD O Z)).isSome=true],[(.val .str ((val (JD O Z)).1),none),(.val .bool ((val (JD O Z)).2),none)],[]⟩
def a98:List qC→List q9→Option qI:=rU (V:=(pD×pD)) (fun x=>a1g x.1 x.2) (fun x=>a1h) fun x=>a1i x.1 x.2
@[go_sem] def aKO:a98 (no_index (a1g O Z)) (no_index a1h)=some (a1i O Z):=rY (fun⟨a0,a1⟩ ⟨b0,b1⟩ h1 h2=>by cases h1;cases h2;rfl) (O,Z)
end
@[go_sem] abbrev a99:Nat×r6:=(164,⟨[.v,.v],a98,[],[],none⟩)
def OY:rN Tryz.prog [sY] (rO [ON]):=⟨⟨tE,trivial⟩,qO Z7 rR,rP⟩
def aHi:r9 Tryz.prog a99:=by
 refine rZ OY Tryz.func164 (c:=_) rfl (N:=15) pU (ts:=[(4,none),(5,none)]) rfl (fun _ _=>rfl) ?_;intro⟨O,Z⟩ hs hrow;dsimp only[a1g,a1h,a1i,rQ,qM,r5,rF,rT,Nat.reduceAdd] at hs hrow|-;have hz:=hs;obtain⟨z0,d⟩:=aLR.1 hz
 try rw[sC d]
 clear hz hs;unfold JD at d;refine qB OY ?_;refine qT ?_;obtain⟨aA,hv1,hw1,d⟩:=qS d
 try simp only[go_sem] at hw1
 refine qB OY ?_ (hp:=by exact(qR hv1)) (h:=by simp only[go_sem,hw1];rfl);refine qY d (fun d hc1=> ?_) (fun d hc1=> ?_)
 .refine qB OY ?_;refine qV (s8 ?_);cases d;exact pF []
 .refine rG (qQ ?_);obtain⟨hg2,d⟩:=qJ d;refine qB OY ?_ (hp:=by exact hg2);refine qV ?_;cases d;exact pF []
def aAa (O:qZ) (Z:pD):Unit:=()
section
variable (O:qZ) (Z:pD)
abbrev a1j:List qC:=[(.val (.pair .str (.pair .str .unit)) O,none),(.val .ref (some (0,0)),none)]
abbrev a1k:List q9:=[.cells .str Z []]
@[go_sem] def a1l:qI:=⟨[],[(.val .bool (decide (O.1=Z)),none)],[.cells .str Z []]⟩
def aAb:List qC→List q9→Option qI:=rU (V:=(qZ×pD)) (fun x=>a1j x.1) (fun x=>a1k x.2) fun x=>a1l x.1 x.2
@[go_sem] def aKP:aAb (no_index (a1j O)) (no_index (a1k Z))=some (a1l O Z):=rY (fun⟨a0,a1⟩ ⟨b0,b1⟩ h1 h2=>by cases h1;cases h2;rfl) (O,Z)
end
@[go_sem] abbrev aAc:Nat×r6:=(191,⟨[.v,.p .str []],aAb,[],[0],none⟩)
def a1m:rN Tryz.prog [sY,FF] (rO []):=⟨⟨tE,⟨J4,trivial⟩⟩,rR,rP⟩
def aHj:r9 Tryz.prog aAc:=by
 refine rZ a1m Tryz.func191 (c:=_) rfl (N:=8) pU (ts:=[(3,none)]) rfl (fun _ _=>rfl) ?_;intro⟨O,Z⟩ hs hrow;dsimp only[a1j,a1k,a1l,rQ,qM,r5,rF,rT,Nat.reduceAdd] at hs hrow|-;obtain⟨z0,d⟩: ∃z,(aAa O Z)=z:=⟨_,rfl⟩
 try rw[d]
 unfold aAa at d;refine qB a1m ?_;refine qB a1m ?_;refine qV ?_;cases d;exact pF [(0,0)]
def OZ (O:pD) (Z:pD):Option Unit:=if (((decide ((Z.length:Int)≤(O.length:Int)))==true)=true→qE ((O.length:Int)- (Z.length:Int))) then if (((decide ((Z.length:Int)≤(O.length:Int)))==true)=true→0≤((O.length:Int)- (Z.length:Int))∧((O.length:Int)- (Z.length:Int))≤(O.length:Int)∧(O.length:Int)≤(O.length:Int)) then some (()) else none else none
section
variable (O:pD) (Z:pD)
abbrev a1n:List qC:=[(.val .str O,none),(.val .str Z,none)]
abbrev a1o:List q9:=[]
@[go_sem] def a1p:qI:=⟨[((OZ O Z)).isSome=true],[(.val .bool ((decide ((Z.length:Int)≤(O.length:Int)))&&(decide ((sD O ((O.length:Int)- (Z.length:Int)) (O.length:Int))=Z))),none)],[]⟩
def aAd:List qC→List q9→Option qI:=rU (V:=(pD×pD)) (fun x=>a1n x.1 x.2) (fun x=>a1o) fun x=>a1p x.1 x.2
@[go_sem] def aKQ:aAd (no_index (a1n O Z)) (no_index a1o)=some (a1p O Z):=rY (fun⟨a0,a1⟩ ⟨b0,b1⟩ h1 h2=>by cases h1;cases h2;rfl) (O,Z)
end
@[go_sem] abbrev aAe:Nat×r6:=(197,⟨[.v,.v],aAd,[],[],none⟩)
def a1q:rN Tryz.prog [sY] (rO []):=⟨⟨tE,trivial⟩,rR,rP⟩
def aHk:r9 Tryz.prog aAe:=by
 refine rZ a1q Tryz.func197 (c:=_) rfl (N:=21) pU (ts:=[(4,none)]) rfl (fun _ _=>rfl) ?_;intro⟨O,Z⟩ hs hrow;dsimp only[a1n,a1o,a1p,rQ,qM,r5,rF,rT,Nat.reduceAdd] at hs hrow|-;have hz:=hs;obtain⟨z0,d⟩:=aLR.1 hz
 try rw[sC d]
 clear hz hs;unfold OZ at d;refine qB a1q ?_;obtain⟨hg1,d⟩:=qJ d;obtain⟨hg2,d⟩:=qJ d;refine qB a1q ?_ (hp:=by exact⟨id,id,id,id,hg1,id,id,hg2,id,id,sZ⟩);refine qV ?_;cases d;exact pF []
attribute [irreducible] DA DB LH OX internal_stringslite_HasPrefix JD OZ
end
noncomputable section
def H7 (O:pD) (Z:pD):Option (pD×pD×Bool):=if List.length O<4294967281 then if (decide ((0:Int)≤(xS O Z)))=true then if 0≤(0:Int)∧(0:Int)≤(xS O Z)∧(xS O Z)≤(O.length:Int) then if qE ((xS O Z)+(Z.length:Int)) then if 0≤((xS O Z)+(Z.length:Int))∧((xS O Z)+(Z.length:Int))≤(O.length:Int)∧(O.length:Int)≤(O.length:Int) then some (((sD O (0:Int) (xS O Z)),(sD O ((xS O Z)+(Z.length:Int)) (O.length:Int)),true)) else none else none else none else some ((O,([]:pD),false)) else none
section
variable (O:pD) (Z:pD)
abbrev a1r:List qC:=[(.val .str O,none),(.val .str Z,none)]
abbrev a1s:List q9:=[]
@[go_sem] def a1t:qI:=⟨[((H7 O Z)).isSome=true],[(.val .str ((val (H7 O Z)).1),none),(.val .str ((val (H7 O Z)).2.1),none),(.val .bool ((val (H7 O Z)).2.2),none)],[]⟩
def aAf:List qC→List q9→Option qI:=rU (V:=(pD×pD)) (fun x=>a1r x.1 x.2) (fun x=>a1s) fun x=>a1t x.1 x.2
@[go_sem] def aKR:aAf (no_index (a1r O Z)) (no_index a1s)=some (a1t O Z):=rY (fun⟨a0,a1⟩ ⟨b0,b1⟩ h1 h2=>by cases h1;cases h2;rfl) (O,Z)
end
@[go_sem] abbrev aAg:Nat×r6:=(198,⟨[.v,.v],aAf,[],[],none⟩)
def LI:rN Tryz.prog [sY] (rO [IX]):=⟨⟨tE,trivial⟩,qO T9 rR,rP⟩
def aHl:r9 Tryz.prog aAg:=by
 refine rZ LI Tryz.func198 (c:=_) rfl (N:=23) pU (ts:=[(4,none),(5,none),(6,none)]) rfl (fun _ _=>rfl) ?_;intro⟨O,Z⟩ hs hrow;dsimp only[a1r,a1s,a1t,rQ,qM,r5,rF,rT,Nat.reduceAdd] at hs hrow|-;have hz:=hs;obtain⟨z0,d⟩:=aLR.1 hz
 try rw[sC d]
 clear hz hs;unfold H7 at d;refine qB LI ?_;refine qT ?_;obtain⟨hg1,d⟩:=qJ d;refine qB LI ?_ (hp:=by exact hg1);refine qB LI ?_;refine qY d (fun d hc1=> ?_) (fun d hc1=> ?_)
 .obtain⟨hg2,d⟩:=qJ d;obtain⟨hg3,d⟩:=qJ d;obtain⟨hg4,d⟩:=qJ d;refine vZ LI ?_ (hp:=by exact⟨hg2,hg3,hg4⟩);refine qV (s8 ?_);cases d;exact pF []
 .refine rG (qQ ?_);refine qB LI ?_;refine qV ?_;cases d;exact pF []
def JE (O:Int) (Z:Int):Bool:=if (decide (O=(1:Int)))=true then (decide (Z=(10:Int))) else Y5 (σ:=Bool) (if (decide (O=(2:Int)))=true then (decide (O=(2:Int))) else (decide (O=(3:Int))) ) fun aA=>if aA=true then ((decide (Z=(10:Int)))||(decide (Z=(34:Int)))) else ((decide (Z=(60:Int)))||(decide (Z=(34:Int))))
section
variable (O:Int) (Z:Int)
abbrev a1u:List qC:=[(.val (.int .i64) O,none),(.val (.int .u8) Z,none)]
abbrev a1v:List q9:=[]
@[go_sem] def a1w:qI:=⟨[],[(.val .bool (JE O Z),none)],[]⟩
def aAh:List qC→List q9→Option qI:=rU (V:=(Int×Int)) (fun x=>a1u x.1 x.2) (fun x=>a1v) fun x=>a1w x.1 x.2
@[go_sem] def aKS:aAh (no_index (a1u O Z)) (no_index a1v)=some (a1w O Z):=rY (fun⟨a0,a1⟩ ⟨b0,b1⟩ h1 h2=>by cases h1;cases h2;rfl) (O,Z)
end
@[go_sem] abbrev aAi:Nat×r6:=(216,⟨[.v,.v],aAh,[],[],none⟩)
def FK:rN Tryz.prog [] (rO []):=⟨trivial,rR,rP⟩
def aHm:r9 Tryz.prog aAi:=by
 refine rZ FK Tryz.func216 (c:=_) rfl (N:=25) pU (ts:=[(4,none)]) rfl (fun _ _=>rfl) ?_;intro⟨O,Z⟩ hs hrow;dsimp only[a1u,a1v,a1w,rQ,qM,r5,rF,rT,Nat.reduceAdd] at hs hrow|-;obtain⟨z0,d⟩: ∃z,(JE O Z)=z:=⟨_,rfl⟩
 try rw[d]
 unfold JE at d;refine qB FK ?_;refine qT ?_;refine qB FK ?_;refine s9 ?_;refine qB FK ?_;refine qY d (fun d hc1=> ?_) (fun d hc1=> ?_)
 .refine qB FK ?_;refine qV (sE (s8 ?_));cases d;exact pF []
 .refine qT ?_;refine qB FK ?_;obtain⟨aA,g,d⟩:=aGn d;refine AO (fun s=>s=(fun x=>⟨[(1,(.val (.int .u8) Z,none)),(10,(.val .bool x,none))],[],0,25,0⟩) aA) ?_ ?_
  .refine qY g (fun g hc2=> ?_) (fun g hc2=> ?_)
   .refine rG ?_;cases g;exact v7 ⟨⟨[1,10],[]⟩,by rfl⟩
   .refine rL FK ?_;cases g;exact v7 ⟨⟨[1,10],[]⟩,by rfl⟩
  .rintro _ rfl;dsimp only at d|-;refine qQ ?_;refine qY d (fun d hc3=> ?_) (fun d hc3=> ?_)
   .refine qB FK ?_ (hp:=by exact⟨id,tK⟩);refine qV (sE (s8 ?_));cases d;exact pF []
   .refine rG (rV (qQ ?_));refine qB FK ?_ (hp:=by exact⟨id,tK⟩);refine qV ?_;cases d;exact pF []
def JF (O:(pM×Unit)) (Z:Int):Option Unit:=if (O.1.length+([Z]:pM).length)*1≤140737488355328 then some (()) else none
section
variable (O:Int) (Z:(pM×Unit)) (aA:Nat)
abbrev a1x:List qC:=[(.val .ref (some (0,0)),none),(.val (.int .u8) O,none)]
abbrev a1y:List q9:=[.cells wC ((some (0,0)),Z) [(1,1)],.grow 5 1 aA]
@[go_sem] def a1z:qI:=⟨[aA=(Z.1.length),((JF Z O)).isSome=true],[(.any,none)],[.cells wC ((some (0,0)),((Z.1++([O]:pM)),())) [(1,1)],.grow 5 1 ((Z.1++([O]:pM)).length)]⟩
def aAj:List qC→List q9→Option qI:=rU (V:=(Int×(pM×Unit)×Nat)) (fun x=>a1x x.1) (fun x=>a1y x.2.1 x.2.2) fun x=>a1z x.1 x.2.1 x.2.2
@[go_sem] def aKT:aAj (no_index (a1x O)) (no_index (a1y Z aA))=some (a1z O Z aA):=rY (fun⟨a0,a1,a2⟩ ⟨b0,b1,b2⟩ h1 h2=>by cases h1;cases h2;rfl) (O,Z,aA)
end
@[go_sem] abbrev aAk:Nat×r6:=(217,⟨[.p wC [1],.v],aAj,[],[],none⟩)
def P0:rN Tryz.prog [FE,H0] (rO [GX]):=⟨⟨J3,⟨LC,trivial⟩⟩,qO OK rR,rP⟩
def aHn:r9 Tryz.prog aAk:=by
 refine rZ P0 Tryz.func217 (c:=_) rfl (N:=17) pU (ts:=[(4,none)]) rfl (fun _ _=>rfl) ?_;intro⟨O,Z,aA⟩ hs hrow;dsimp only[a1x,a1y,a1z,rQ,qM,r5,rF,rT,Nat.reduceAdd] at hs hrow|-;obtain⟨rfl,hz⟩:=hs;obtain⟨z0,d⟩:=aLR.1 hz
 try rw[sC d]
 clear hz;unfold JF at d;refine qB P0 ?_;refine qB P0 ?_ (hp:=by first|rfl|trivial)
 obtain⟨hg1,d⟩:=qJ d;refine qB P0 ?_ (hp:=by exact⟨pT,hg1⟩)
 refine qB P0 ?_;refine qV ?_;cases d;exact pF [(0,0),(1,1)]
def aAl (O:Int):Unit:=()
section
variable (O:Int)
abbrev a1A:List qC:=[(.val (.int .i64) O,none)]
abbrev a1B:List q9:=[]
@[go_sem] def a1C:qI:=⟨[],[(.val .bool (((decide ((0:Int)≤O))&&(decide (O≤(1114111:Int))))&&((decide (O<(55296:Int)))||(decide ((57343:Int)<O)))),none)],[]⟩
def aAm:List qC→List q9→Option qI:=rU (V:=Int) (a1A) (fun x=>a1B) fun x=>a1C x
@[go_sem] def aKU:aAm (no_index (a1A O)) (no_index a1B)=some (a1C O):=rY (fun a0 b0 h1 h2=>by cases h1;cases h2;rfl) O
end
@[go_sem] abbrev aAn:Nat×r6:=(240,⟨[.v],aAm,[],[],none⟩)
def a1D:rN Tryz.prog [] (rO []):=⟨trivial,rR,rP⟩
def aHo:r9 Tryz.prog aAn:=by
 refine rZ a1D Tryz.func240 (c:=_) rfl (N:=17) pU (ts:=[(2,none)]) rfl (fun _ _=>rfl) ?_;intro O hs hrow;dsimp only[a1A,a1B,a1C,rQ,qM,r5,rF,rT,Nat.reduceAdd] at hs hrow|-;obtain⟨z0,d⟩: ∃z,(aAl O)=z:=⟨_,rfl⟩
 try rw[d]
 unfold aAl at d;refine qB a1D ?_;refine qB a1D ?_ (hp:=by exact⟨id,sZ,id,id,id,id,fun hG e=>GU hG e,sZ⟩);refine qV ?_;cases d;exact pF []
def JG (O:pM) (Z:Int):Option pM:=if (decide ((IntKind.wrap .u32 Z)≤(2047:Int)))=true then if (O.length+([(bits .or .u8 (192:Int) (IntKind.wrap .u8 (xL .i32 Z (6:Int)))),(bits .or .u8 (128:Int) (bits .and .u8 (IntKind.wrap .u8 Z) (63:Int)))]:pM).length)*1≤140737488355328 then some ((O++([(bits .or .u8 (192:Int) (IntKind.wrap .u8 (xL .i32 Z (6:Int)))),(bits .or .u8 (128:Int) (bits .and .u8 (IntKind.wrap .u8 Z) (63:Int)))]:pM))) else none else t8 (σ:=Bool) (if (decide ((IntKind.wrap .u32 Z)<(55296:Int)))=true then some ((decide ((IntKind.wrap .u32 Z)<(55296:Int)))) else some (((decide ((57343:Int)<(IntKind.wrap .u32 Z)))&&(decide ((IntKind.wrap .u32 Z)≤(65535:Int))))) ) fun aA=>if aA=true then if (O.length+([(bits .or .u8 (224:Int) (IntKind.wrap .u8 (xL .i32 Z (12:Int)))),(bits .or .u8 (128:Int) (bits .and .u8 (IntKind.wrap .u8 (xL .i32 Z (6:Int))) (63:Int))),(bits .or .u8 (128:Int) (bits .and .u8 (IntKind.wrap .u8 Z) (63:Int)))]:pM).length)*1≤140737488355328 then some ((O++([(bits .or .u8 (224:Int) (IntKind.wrap .u8 (xL .i32 Z (12:Int)))),(bits .or .u8 (128:Int) (bits .and .u8 (IntKind.wrap .u8 (xL .i32 Z (6:Int))) (63:Int))),(bits .or .u8 (128:Int) (bits .and .u8 (IntKind.wrap .u8 Z) (63:Int)))]:pM))) else none else if ((decide ((65535:Int)<(IntKind.wrap .u32 Z)))&&(decide ((IntKind.wrap .u32 Z)≤(1114111:Int))))=true then if (O.length+([(bits .or .u8 (240:Int) (IntKind.wrap .u8 (xL .i32 Z (18:Int)))),(bits .or .u8 (128:Int) (bits .and .u8 (IntKind.wrap .u8 (xL .i32 Z (12:Int))) (63:Int))),(bits .or .u8 (128:Int) (bits .and .u8 (IntKind.wrap .u8 (xL .i32 Z (6:Int))) (63:Int))),(bits .or .u8 (128:Int) (bits .and .u8 (IntKind.wrap .u8 Z) (63:Int)))]:pM).length)*1≤140737488355328 then some ((O++([(bits .or .u8 (240:Int) (IntKind.wrap .u8 (xL .i32 Z (18:Int)))),(bits .or .u8 (128:Int) (bits .and .u8 (IntKind.wrap .u8 (xL .i32 Z (12:Int))) (63:Int))),(bits .or .u8 (128:Int) (bits .and .u8 (IntKind.wrap .u8 (xL .i32 Z (6:Int))) (63:Int))),(bits .or .u8 (128:Int) (bits .and .u8 (IntKind.wrap .u8 Z) (63:Int)))]:pM))) else none else if (O.length+([(239:Int),(191:Int),(189:Int)]:pM).length)*1≤140737488355328 then some ((O++([(239:Int),(191:Int),(189:Int)]:pM))) else none
section
variable (O:pM) (Z:Int) (aA:Nat)
abbrev a1E:List qC:=[(.val (.list (.int .u8)) O,some 0),(.val (.int .i32) Z,none)]
abbrev a1F:List q9:=[.grow 5 1 aA]
@[go_sem] def a1G:qI:=⟨[aA=(O.length),((JG O Z)).isSome=true],[(.val (.list (.int .u8)) (val (JG O Z)),some 0)],[.grow 5 1 ((val (JG O Z)).length)]⟩
def aAo:List qC→List q9→Option qI:=rU (V:=(pM×Int×Nat)) (fun x=>a1E x.1 x.2.1) (fun x=>a1F x.2.2) fun x=>a1G x.1 x.2.1 x.2.2
@[go_sem] def aKV:aAo (no_index (a1E O Z)) (no_index (a1F aA))=some (a1G O Z aA):=rY (fun⟨a0,a1,a2⟩ ⟨b0,b1,b2⟩ h1 h2=>by cases h1;cases h2;rfl) (O,Z,aA)
end
@[go_sem] abbrev aAp:Nat×r6:=(245,⟨[.own,.v],aAo,[],[],none⟩)
def DC:rN Tryz.prog [J5,OQ,FE,TF] (rO []):=⟨⟨OP,⟨ZR,⟨J3,⟨a9u,trivial⟩⟩⟩⟩,rR,rP⟩
def aHp:r9 Tryz.prog aAp:=by
 refine rZ DC Tryz.func245 (c:=_) rfl (N:=78) pU (ts:=[(4,none)]) rfl (fun _ _=>rfl) ?_;intro⟨O,Z,aA⟩ hs hrow;dsimp only[a1E,a1F,a1G,rQ,qM,r5,rF,rT,Nat.reduceAdd] at hs hrow|-;obtain⟨rfl,hz⟩:=hs;obtain⟨z0,d⟩:=aLR.1 hz
 try rw[sC d]
 clear hz;unfold JG at d;refine qB DC ?_;refine qB DC ?_;refine s9 ?_;refine qB DC ?_;refine qY d (fun d hc1=> ?_) (fun d hc1=> ?_)
 .obtain⟨hg1,d⟩:=qJ d;refine qB DC ?_ (hp:=by exact⟨show (0:Int)≤(6:Int) from by decide,pT,hg1⟩)
  refine qV (sE ?_);cases d;exact pF [(0,0)]
 .refine qT ?_;refine qB DC ?_;obtain⟨aB,g,d⟩:=qK d;refine AO (fun s=>s=(fun x=>⟨[(0,(.val (.list (.int .u8)) O,some 0)),(1,(.val (.int .i32) Z,none)),(5,(.val (.int .u32) (IntKind.wrap .u32 Z),none)),(25,(.val .bool x,none))],[(0,.grow 5 1 (O.length))],1,78,1⟩) aB) ?_ ?_
  .refine qY g (fun g hc2=> ?_) (fun g hc2=> ?_)
   .refine rG ?_;cases g;exact v7 ⟨⟨[0,1,5,25],[(0,0)]⟩,by rfl⟩
   .refine rL DC ?_ (hp:=by exact⟨id,sZ⟩);cases g;exact v7 ⟨⟨[0,1,5,25],[(0,0)]⟩,by rfl⟩
  .rintro _ rfl;dsimp only at d|-;refine qQ ?_;refine qY d (fun d hc3=> ?_) (fun d hc3=> ?_)
   .obtain⟨hg2,d⟩:=qJ d;refine qB DC ?_ (hp:=by exact⟨show (0:Int)≤(12:Int) from by decide,show (0:Int)≤(6:Int) from by decide,pT,hg2⟩)
    refine qV (sE ?_);cases d;exact pF [(0,0)]
   .refine qB DC ?_ (hp:=by exact⟨id,sZ⟩);refine qY d (fun d hc4=> ?_) (fun d hc4=> ?_)
    .obtain⟨hg3,d⟩:=qJ d;refine qB DC ?_ (hp:=by exact⟨show (0:Int)≤(18:Int) from by decide,show (0:Int)≤(12:Int) from by decide,show (0:Int)≤(6:Int) from by decide,pT,hg3⟩)
     refine qV (sE ?_);cases d;exact pF [(0,0)]
    .obtain⟨hg4,d⟩:=qJ d;refine qB DC ?_ (hp:=by exact⟨pT,hg4⟩)
     refine qV (sE ?_);cases d;exact pF [(0,0)]
def P3 (O:(List qZ)) (Z:pD):Int→Option (Int⊕(Unit⊕Int)):=fun aA=>if (decide (aA<(O.length:Int)))=true then if 0≤aA∧aA<(O.length:Int) then if (decide (((qW (.pair .str (.pair .str .unit)) O aA).1)=Z))=true then some (.inr (.inr (aA))) else if qE (aA+(1:Int)) then some (.inl (aA+(1:Int))) else none else none else some (.inr (.inl ()))
def LJ (O:(List qZ)) (Z:pD):Option Int:=uT (rX (P3 O Z) (0:Int)) fun _=>some ((-1:Int))
section
variable (O:(List qZ)) (Z:pD)
abbrev a1H:List qC:=[(.val (.list (.pair .str (.pair .str .unit))) O,none),(.val .clo (some (191,[(0,0)])),none)]
abbrev a1I:List q9:=[.cells .str Z []]
@[go_sem] def a1J:qI:=⟨[((LJ O Z)).isSome=true],[(.val (.int .i64) (val (LJ O Z)),none)],[.cells .str Z []]⟩
def aAq:List qC→List q9→Option qI:=rU (V:=((List qZ)×pD)) (fun x=>a1H x.1) (fun x=>a1I x.2) fun x=>a1J x.1 x.2
@[go_sem] def aKW:aAq (no_index (a1H O)) (no_index (a1I Z))=some (a1J O Z):=rY (fun⟨a0,a1⟩ ⟨b0,b1⟩ h1 h2=>by cases h1;cases h2;rfl) (O,Z)
end
@[go_sem] abbrev aAr:Nat×r6:=(157,⟨[.v,.f [(.str,[])]],aAq,[],[0],none⟩)
def FL:rN Tryz.prog [CD,FF] (rO [aAc]):=⟨⟨E7,⟨J4,trivial⟩⟩,qO aHj rR,rP⟩
def aHq:r9 Tryz.prog aAr:=by
 refine rZ FL Tryz.func157 (c:=_) rfl (N:=19) pU (ts:=[(4,none)]) rfl (fun _ _=>rfl) ?_;intro⟨O,Z⟩ hs hrow;dsimp only[a1H,a1I,a1J,rQ,qM,r5,rF,rT,Nat.reduceAdd] at hs hrow|-;have hz:=hs;obtain⟨z0,d⟩:=aLR.1 hz
 try rw[sC d]
 clear hz hs;unfold LJ at d;refine qB FL ?_;refine qT ?_;refine qB FL ?_;refine s9 ?_;obtain⟨y1,hy1,d⟩:=wB d;refine v6 0 (fun s=> ∃v,y1= .inl v∧s=(fun _=>⟨[],[(0,.cells .str Z [])],1,19,1⟩) v) ?_ ?_
 .refine uS hy1 (fun x=>⟨[(0,(.val (.list (.pair .str (.pair .str .unit))) O,none)),(1,(.val .clo (some (191,[(0,0)])),none)),(7,(.val (.int .i64) (O.length:Int),none)),(8,(.val (.int .i64) x,none))],[(0,.cells .str Z [])],1,19,1⟩) ⟨[0,1,7,8],[(0,0)]⟩ pV ?_;intro aA w1 n1 g i;unfold P3 at g;dsimp only at g|-;refine qB FL ?_;refine qT ?_;refine qY g (fun g hc1=> ?_) (fun g hc1=> ?_)
  .refine rG (qQ (qT (s9 ?_)));refine qB FL ?_;obtain⟨hg1,g⟩:=qJ g;refine qB FL ?_ (hp:=by exact⟨hg1,pT⟩)
   refine qY g (fun g hc2=> ?_) (fun g hc2=> ?_)
   .refine qB FL ?_;refine qV (sE (s8 (wA (wH (sE (s8 ?_))))));cases g;cases i;dsimp only at d;cases d;exact pF [(0,0)]
   .refine rG (rV (qQ ?_));obtain⟨hg2,g⟩:=qJ g;refine rL FL ?_ (hp:=by exact hg2);cases g;exact tQ ⟨⟨[0,1,7,8],[(0,0)]⟩,_,by rfl,i⟩
  .refine uO (uN (uQ ?_));cases g;cases i;exact uP ⟨⟨[],[(0,0)]⟩,_,rfl,by rfl⟩
 .rintro _ ⟨v,rfl,rfl⟩;dsimp only at d|-;refine uY (qQ ?_);refine qB FL ?_;refine qV ?_;cases d;exact pF [(0,0)]
attribute [irreducible] H7 JF JG LJ
end
end Go.Proofs.YtkpflnijijccpaaGreatDoor
