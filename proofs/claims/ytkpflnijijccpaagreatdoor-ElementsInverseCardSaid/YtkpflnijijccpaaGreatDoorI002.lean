/- Packed by a program of mine (wip/tools/pack.py): the same texts with short names and few blanks. -/
import Derived.KernelRfl
import Derived.Lib.Hide
import Derived.Lib.IndexMore
import Derived.Lib.RowBridge
import Derived.LoopIn
import Derived.LoopNIn
import Derived.OwnWalkIn
import Derived.RangeFuncBox
import Derived.RangeFuncLeaves
import Derived.Scope
import Derived.Shelf.Abstract
import Derived.Shelf.Slices.Clone
import Derived.Shelf.Slices.CompactS
import Derived.Shelf.Slices.In.SortNone
import Derived.Shelf.SlicesE.DeleteFunc
import Derived.Shelf.Small.Strs
import Derived.Shelf.Small.Utf8
import Derived.Shelf.Sort.Plain
import Derived.Shelf.Spec.SlicesInsertGrow
import Derived.Shelf.Strconv.Itoa3
import Derived.Shelf.Strings.Builder1
import Derived.Shelf.Strings.Fields
import Derived.Shelf.Strings.OnBuilder
import Derived.Shelf.Strings.Runes
import Derived.Shelf.Strings.Search1
import Derived.Shelf.Strings.Search2
import Derived.Shelf.Strings.Search3
import Derived.Shelf.Strings.SlTrimAscii
import Derived.Shelf.Strings.Split
import Derived.Shelf.Strings.Trim
import Derived.Shelf.Unicode.DecodeAny
import Derived.Shelf.Unicode.ValidAny
import Derived.TacticsInMore
import Derived.Test.YtkpflnijijccpaaGreatDoorChecked
import Derived.Test.YtkpflnijijccpaaGreatDoorProg
import Derived.WalkKit
import Derived.Test.YtkpflnijijccpaaGreatDoorI001
set_option linter.defProp false
set_option linter.unusedVariables false
set_option linter.unusedSimpArgs false
set_option linter.unusedSectionVars false
set_option maxRecDepth 100000
set_option maxHeartbeats 4000000
namespace Go.Proofs.YtkpflnijijccpaaGreatDoor.Vc
open Go.RowKit
def Ev (R:Bool) (P:Program) (c:Code) (s:St) (Q:Ex->St->Prop):Prop:=
 ∀(ro:pP),ro.isSome=R->
 ∀(A:Nat->Nat->Prop) (L:List qB) (g0:Gh) (w0:pR) (g:Gh) (a:Act) (w:pR) (B:Nat),B<=w0.heap.size->w6 B g w s a->uB A L g0 w0 g w s.H->s.np=L.length->c.wpIn (FZ ro) 0 P (LR B A L g0 w0 Q) a w
variable {R:Bool}
theorem aEq {P:Program}{T:sV}{Γ:uH}(hT:y3 P T) (hΓ:EM P Γ) (hm:P.follows .mixedOrders=true) {c:Code}{s:St}{Q:Ex->St->Prop}(h:x9 T Γ c s Q):Ev R P c s Q:=
 fun ro hro A L g0 w0 g a w B hB hr hg hn=>HK hT hΓ hm c s Q g a w h hr hg hn
structure rF (P:Program) (T:sV) (Γ:uH):Prop where
 T:y3 P T
 Γ:EM P Γ
 m:P.follows .mixedOrders=true
@[go_sem] def skS (l:pQ) (Γ:uH) (f:Nat):Option qW:=if CD f l=true then some ⟨[],fun _ _=>none,[],[],none⟩ else Γ f
theorem a16 {P:Program}{T:sV}{Γ:uH}{l:pQ}(h:rF P T Γ) (hl:(l.all fun k=>decide (1000000000<=k))=true):rF P T (skS l Γ):=
 ⟨h.T,fun f s hlt hs=>by
  unfold skS at hs;split at hs
  .rename_i hm;have:=aV4 (aWa.1 hl f (JD.1 hm));omega
  .exact h.Γ f s hlt hs,h.m⟩
theorem aNK {P:Program}{c:Code}{s:St}{Q Q':Ex->St->Prop}(h:Ev R P c s Q') (hq: ∀e s,Q' e s->Q e s):Ev R P c s Q:=by
 intro ro hro A L g0 w0 g a w B hB hr hg hn;refine aXf (h ro hro A L g0 w0 g a w B hB hr hg hn) fun x a' w' hp=> ?_;obtain⟨e,g',s',h1,h2,h3,h4,h5⟩:=hp;exact⟨e,g',s',h1,hq e s' h2,h3,h4,h5⟩
theorem aEs {P:Program}{c:Code}{s:St}{Q:Ex->St->Prop}(k:wV) (h:Ev R P c (s.keep k) Q):Ev R P c s Q:=by
 intro ro hro A L g0 w0 g a w B hB hr hg hn;obtain⟨g1,k1,k2,k3,_⟩:=HI hr hg hn k;exact h ro hro A L g0 w0 g1 a w B hB k1 k2 k3
section
variable {P:Program}{s:St}{Q:Ex->St->Prop}
theorem r7 (h:Q .normal s):Ev R P .skip s Q:=fun _ _ _ _ _ _ g _ _ _ _ hr hg hn=>wpIn_skip ⟨.normal,g,s,rfl,h,hr,hg,hn⟩
theorem tK {id:Nat}(h:Q (.exit id) s):Ev R P (.exit id) s Q:=fun _ _ _ _ _ _ g _ _ _ _ hr hg hn=>wpIn_exit ⟨.exit id,g,s,rfl,h,hr,hg,hn⟩
theorem qP (h:Q .ret s):Ev R P .ret s Q:=fun _ _ _ _ _ _ g _ _ _ _ hr hg hn=>wpIn_ret ⟨.ret,g,s,rfl,h,hr,hg,hn⟩
theorem qO {x y:Code}(h:Ev R P x s (R3 (fun s'=>Ev R P y s' Q) Q)):Ev R P (.seq x y) s Q:=by
 intro ro hro A L g0 w0 g a w B hB hr hg hn;refine wpIn_seq (aXf (h ro hro A L g0 w0 g a w B hB hr hg hn) fun e a' w' hp=> ?_);obtain⟨e',g',s',h1,h2,h3,h4,h5⟩:=hp;cases e<;>simp only[G0,aVr] at h1
 case normal=>subst h1;exact h2 ro hro A L g0 w0 g' a' w' B hB h3 h4 h5
 case exit id=>subst h1;exact⟨.exit id,g',s',rfl,h2,h3,h4,h5⟩
 case ret=>subst h1;exact⟨.ret,g',s',rfl,h2,h3,h4,h5⟩
 all_goals cases h1
theorem aNL {c:Operand}{x y:Code}{b:Bool}{k:pP}(h:uO s.env c=(.val .bool b,k)) (ht:b=true->Ev R P x s Q) (hf:b=false->Ev R P y s Q):Ev R P (.cond c x y) s Q:=by
 intro ro hro A L g0 w0 g a w B hB hr hg hn;have hc:=AP hr.env c;rw[h] at hc;exact wpIn_cond_split (wE hc.1) (fun e=>ht e ro hro A L g0 w0 g a w B hB hr hg hn) (fun e=>hf e ro hro A L g0 w0 g a w B hB hr hg hn)
theorem aEt {c:Operand}{x y:Code}{p q:Prop}{k:pP}(h:uO s.env c=(.flag p q,k)) (ht:p->Ev R P x s Q) (hf:q->Ev R P y s Q):Ev R P (.cond c x y) s Q:=by
 intro ro hro A L g0 w0 g a w B hB hr hg hn;have hc:=AP hr.env c;rw[h] at hc;obtain⟨b,hb,hp,hq⟩:=hc.1;exact wpIn_cond_split hb (fun e=>ht (hp e) ro hro A L g0 w0 g a w B hB hr hg hn) (fun e=>hf (hq e) ro hro A L g0 w0 g a w B hB hr hg hn)
theorem rP {id:Nat}{c:Code}(h:Ev R P c s (J9 id Q)):Ev R P (.block id c) s Q:=by
 intro ro hro A L g0 w0 g a w B hB hr hg hn;refine wpIn_block (aXf (h ro hro A L g0 w0 g a w B hB hr hg hn) fun e a' w' hp=> ?_);obtain⟨e',g',s',h1,h2,h3,h4,h5⟩:=hp;cases e<;>simp only[G0,aVr] at h1
 case normal=>subst h1;exact⟨.normal,g',s',rfl,h2,h3,h4,h5⟩
 case exit j=>
  subst h1;simp only[J9] at h2;simp only[Exit.inBlock];split
  .rename_i hj;rw[aVs hj] at h2;exact⟨.normal,g',s',rfl,h2,h3,h4,h5⟩
  .rename_i hj;rw[aVv hj] at h2;exact⟨.exit j,g',s',rfl,h2,h3,h4,h5⟩
 case ret=>subst h1;exact⟨.ret,g',s',rfl,h2,h3,h4,h5⟩
 all_goals cases h1
end
@[go_sem] def a17 (k:Nat) (t:Ty) (l:List t.den):qC->qC
 |(.own j m,x)=>if j=k then(.val (.list t) l,some k) else(.own j m,x)
 |s=>s
@[go_sem] def RV (k:Nat) (t:Ty) (l:List t.den):List (Nat×qC)->List (Nat×qC)
 |[]=>[]
 |(i,s)::r=>(i,a17 k t l s)::RV k t l r
@[go_sem] def aEu (k n:Nat):qC->Prop
 |(.own j m,_)=>j=k->m=n
 |_=>True
@[go_sem] def a18 (k n:Nat):List (Nat×qC)->Prop
 |[]=>True
 |(_,s)::r=>aEu k n s/\a18 k n r
theorem aEv {k:Nat}{t:Ty}{l:List t.den}: ∀{env:List (Nat×qC)}{i:Nat},lk (RV k t l env) i=a17 k t l (lk env i)
 |[],i=>rfl
 |(j,s)::r,i=>by
  simp only[RV,lk];split
  .rfl
  .exact aEv
theorem aEw {k n:Nat}: ∀{env:List (Nat×qC)}{i:Nat},a18 k n env->aEu k n (lk env i)
 |[],i,_=>trivial
 |(j,s)::r,i,⟨h1,h2⟩=>by
  simp only[lk];split
  .exact h1
  .exact aEw h2
theorem RW {P:Program}{c:Code}{s:St}{Q:Ex->St->Prop}(k:Nat) {e:TypeId}{t:Ty}{l:List t.den}{n:Nat}(hk:qE s.H k=some (.row e t l n)) (hok:a18 k n s.env)
  (h:Ev R P c ⟨RV k t l s.env,(k,.grow e t.cells (List.length l))::s.H,s.nb,s.N,s.np⟩ Q):Ev R P c s Q:=by
 intro ro hro A L g0 w0 g a w B hB hr hg hn;obtain⟨hl,v,xs,hv,hown,hF,hnone,hseal⟩:=hr.heap.blk k _ hk
 let g':Gh:={g with S:=fun b o=>g.S b o\/(v.ownBlock=some b/\o<n*t.cells)}
 have le:Le g w g' w:=⟨fun _ _ h=> .inl h,fun _ _ _=>rfl,fun _ _ h=>h,fun _ _ _ h=>h⟩;have hown2: ∀b,v.ownBlock=some b->∀o,sG g k (.row e t l n) b o:=fun b hb o=>⟨v,hv,hb⟩;have hlist: ∀u,g.cur k n=some u->((u= .slice none 0 0/\n=0)\/∃b cap,u= .slice (some ⟨b,0,none⟩) n cap/\n<=cap)->tX g' w (.list t) l u:=by
  intro u hu hshape;rw[hv] at hu;obtain rfl:=aVx hu;rcases hshape with⟨rfl,h0⟩ |⟨b,cap,rfl,hcap⟩
  .have:l=[]:=aV2 (by rw[hl,h0]);subst this;exact .inr ⟨rfl,none,0,rfl,aVR _,.inl rfl⟩
  .refine .inr ⟨rfl,some ⟨b,0,none⟩,cap,by rw[hl],by rw[hl];exact hcap,.inr ⟨b,0,rfl,O1 (DF (fun _ _ h=>xZ le h) hF) (fun j u hu=> ?_) (fun j hj=> ?_)⟩⟩
   .have:=hown.cells (g:=b) rfl j u hu;rwa [aWS] at this
   .right;exact⟨rfl,by rw[hl] at hj;omega⟩
 have hget: ∀i b,qE ((k,qB.grow e t.cells (List.length l))::s.H) i=some b->(i=k/\b= .grow e t.cells (List.length l))\/(i≠k/\qE s.H i=some b):=by
  intro i b hb;simp only[qE] at hb;split at hb
  .rename_i e1;exact .inl ⟨e1.symm,(aVx hb).symm⟩
  .rename_i e1;exact .inr ⟨Ne.symm e1,hb⟩
 have howns: ∀i b bb o,qE ((k,qB.grow e t.cells (List.length l))::s.H) i=some b->sG g' i b bb o->∃b0,qE s.H i=some b0/\sG g i b0 bb o:=by
  intro i b bb o hb ho;rcases hget i b hb with⟨rfl,rfl⟩ |⟨_,h1⟩
  .obtain⟨u,hu,hub⟩:=ho;have hu':g.cur i (List.length l)=some u:=hu;rw[hl] at hu';exact⟨_,hk,u,hu',hub⟩
  .exact⟨b,h1,(A5 (g':=g') (g:=g) rfl rfl).1 ho⟩
 have hrel:w6 B g' w ⟨RV k t l s.env,(k,.grow e t.cells (List.length l))::s.H,s.nb,s.N,s.np⟩ a:=by
  refine⟨fun i=> ?_,⟨fun i b hb=> ?_,fun i j bi bj b o hij h1 h2 o1 o2=> ?_,fun b o hS=> ?_,hr.heap.tab.1,fun i b bb oo hb ho=>by
   obtain⟨c1,k1,k2⟩:=howns i b bb oo hb ho;exact hr.heap.tab.2 i c1 bb oo k1 k2⟩,hr.size,hr.nb,hr.def_,hr.np⟩
  .rw[aEv];have h1:=hr.env i;have h2:=aEw (i:=i) hok;generalize lk s.env i=sl at h1 h2;obtain⟨d,x⟩:=sl;cases d with
   |own j m=>
    simp only[a17];split
    .rename_i hj;subst hj;have hm:m=n:=h2 rfl;subst hm;refine⟨hlist _ h1.1.1 h1.1.2,?_⟩;show g'.cur j (List.length l)=_;rw[hl];exact h1.1.1
    .exact DE le h1
   |_=>exact DE le h1
  .rcases hget i b hb with⟨rfl,rfl⟩ |⟨hne,h1⟩
   .refine⟨v,xs,by rw[hl];exact hv,by rw[hl];exact hown,fun m hm=>hnone m (by rw[hl] at hm;exact hm),fun b hb o hS=> ?_⟩;rw[hl];rcases hS with hS|hS
    .exact absurd hS (hseal b hb o)
    .exact hS.2
   .exact NY (hr.heap.blk i b h1) le rfl rfl (fun _ _ _=>⟨rfl,rfl⟩) (fun _ _=>rfl) (fun bb o ho hS=>by
     rcases hS with hS|hS
     .exact hS
     .exact absurd (hown2 bb hS.1 o) (fun h5=>hr.heap.dis i k b _ bb o hne h1 hk ho h5)) (fun _ _ _ _ h=>h)
  .obtain⟨c1,k1,k2⟩:=howns i bi b o h1 o1;obtain⟨c2,k3,k4⟩:=howns j bj b o h2 o2;exact hr.heap.dis i j c1 c2 b o hij k1 k3 k2 k4
  .rcases hS with hS|hS
   .exact hr.heap.sl b o hS
   .exact RA hown hS.1
 have hgood:uB A L g0 w0 g' w ((k,.grow e t.cells (List.length l))::s.H):=by
  refine⟨fun b o h0=>⟨.inl (hg.shut b o h0).1,(hg.shut b o h0).2⟩,⟨hg.fr.os,hg.fr.tape,hg.fr.output,hg.fr.size,hg.fr.blk,hg.fr.cell,fun b o hS=> ?_,hg.fr.shape⟩,fun i b bb o hb ho=> ?_,hg.J,hg.live,fun i u y us hi hb=> ?_,hg.cur⟩
  .rcases hS with hS|hS
   .exact hg.fr.new b o hS
   .exact .inr (hg.perm k _ b o hk (hown2 b hS.1 o))
  .obtain⟨c1,k1,k2⟩:=howns i b bb o hb ho;exact hg.perm i c1 bb o k1 k2
  .rcases hget i _ hb with⟨_,h1⟩ |⟨_,h1⟩
   .cases h1
   .exact hg.ty i u y us hi h1
 exact h ro hro A L g0 w0 g' a w B hB hrel hgood hn
def iter {σ ρ:Type}(f:σ->Option (σ⊕ρ)):Nat->σ->Option ρ
 |0,_=>none
 |n+1,x=>match f x with
  |none=>none
  |some (.inl y)=>iter f n y
  |some (.inr r)=>some r
theorem aEx {σ ρ:Type}{f:σ->Option (σ⊕ρ)}{r:ρ}: ∀{n:Nat}{x:σ},iter f n x=some r->iter f (n+1) x=some r
 |0,_,h=>by cases h
 |n+1,x,h=>by
  unfold iter at h|-;split
  .rename_i e;rw[e] at h;cases h
  .rename_i y e;rw[e] at h;exact aEx h
  .rename_i r' e;rw[e] at h;exact h
theorem a19 {σ ρ:Type}{f:σ->Option (σ⊕ρ)}{r:ρ}{n:Nat}{x:σ}(h:iter f n x=some r): ∀m,iter f (n+m) x=some r
 |0=>h
 |m+1=>aEx (a19 h m)
theorem aEy {σ ρ:Type}{f:σ->Option (σ⊕ρ)}{r r':ρ}{n m:Nat}{x:σ}(h:iter f n x=some r) (h':iter f m x=some r'):r=r':=by
 have h1:=a19 h m;have h2:=a19 h' n;rw[Nat.add_comm] at h2;exact aVx (h1.symm.trans h2)
noncomputable def RX {σ ρ:Type}(f:σ->Option (σ⊕ρ)) (x:σ):Option ρ:=open Classical in if h: ∃n r,iter f n x=some r then some (Classical.choose (aW7 h)) else none
def aNM {ρ:Type}:Option ρ->Option ρ->Option ρ
 |some r,_=>some r
 |none,r=>r
noncomputable def rO {σ ρ:Type}(f:σ->Option (σ⊕ρ)) (x:σ):Option ρ:=aNM (iter f 2000 x) (RX f x)
theorem aNN {σ ρ:Type}{f:σ->Option (σ⊕ρ)}{x:σ}{r:ρ}{n:Nat}(h:iter f n x=some r):RX f x=some r:=by
 have hx: ∃n r,iter f n x=some r:=⟨n,r,h⟩;unfold RX;rw[aXz hx,aEy h (aW7 (aW7 hx))]
theorem a2a {σ ρ:Type}{f:σ->Option (σ⊕ρ)}{x:σ}{r:ρ}{n:Nat}(h:iter f n x=some r):rO f x=some r:=by
 unfold rO;cases hi:iter f 2000 x with
 |some r'=>rw[aEy h hi];rfl
 |none=>exact aNN h
theorem XO {σ ρ:Type}{f:σ->Option (σ⊕ρ)}{x:σ}{r:ρ}(h:rO f x=some r): ∃n,iter f n x=some r:=by
 unfold rO at h;cases hi:iter f 2000 x with
 |some r'=>
  rw[hi] at h;cases h;exact⟨_,hi⟩
 |none=>
  rw[hi] at h;have h:RX f x=some r:=h;unfold RX at h;split at h
  .rename_i hx;have:=aW7 (aW7 hx);rw[aVx h] at this;exact⟨_,this⟩
  .cases h
attribute [irreducible] rO
theorem vP {σ ρ:Type}{f:σ->Option (σ⊕ρ)}{x y:σ}(h:f x=some (.inl y)):rO f x=rO f y:=by
 cases hy:rO f y with
 |some r=>
  obtain⟨n,hn⟩:=XO hy;exact a2a (n:=n+1) (by unfold iter;rw[h];exact hn)
 |none=>
  cases hx:rO f x with
  |none=>rfl
  |some r=>
   obtain⟨n,hn⟩:=XO hx;cases n with
   |zero=>cases hn
   |succ n=>
    unfold iter at hn;rw[h] at hn;rw[a2a hn] at hy;cases hy
theorem uL {σ ρ:Type}{f:σ->Option (σ⊕ρ)}{x:σ}{r:ρ}(h:f x=some (.inr r)):rO f x=some r:=a2a (n:=1) (by unfold iter;rw[h])
def Nxt {σ ρ:Type}(f:σ->Option (σ⊕ρ)) (y:ρ) (n:Nat):σ⊕ρ->Prop
 | .inl x=>iter f n x=some y
 | .inr r=>r=y
def qL {σ ρ:Type}(enc:σ->St) (f:σ->Option (σ⊕ρ)) (y:ρ) (n:Nat) (Q:Ex->St->Prop):Ex->St->Prop
 | .normal,s=> ∃(k:wV) (x:σ),s.keep k=enc x/\iter f n x=some y
 | .exit j,s=>Q (.exit j) s
 | .ret,s=>Q .ret s
theorem aNP {P:Program}{c:Code}{s:St}{Q:Ex->St->Prop}(I:Nat->St->Prop) (h0: ∃(k:wV) (n:Nat),I n (s.keep k))
  (h: ∀n s,I n s->Ev R P c s (fun e s'=>match e with| .normal=> ∃(k:wV) (m:Nat),m<n/\I m (s'.keep k) |e=>Q e s')):Ev R P (.loop c) s Q:=by
 intro ro hro A L g0 w0 g a w B hB hr hg hn;obtain⟨k,n0,h0⟩:=h0;obtain⟨g1,k1,k2,k3,_⟩:=HI hr hg hn k
 let R:Act->pR->Nat->Prop:=fun a w n=> ∃g s,I n s/\w6 B g w s a/\uB A L g0 w0 g w s.H/\s.np=L.length
 refine wpIn_loop (fun a w=> ∃n,R a w n) (fun a w=>RS (R a w)) ⟨_,g1,s.keep k,h0,k1,k2,k3⟩ (fun a w hI=> ?_);obtain⟨⟨g2,s2,i1,i3,i4,i5⟩,_⟩:=XK hI;refine aXf (h _ s2 i1 ro hro A L g0 w0 g2 a w B hB i3 i4 i5) fun e a' w' hp=> ?_;obtain⟨e',g',s',h1,h2,h3,h4,h5⟩:=hp;cases e<;>simp only[G0,aVr] at h1
 case normal=>
  subst h1;obtain⟨k',m,j1,j2⟩:=h2;obtain⟨g3,l1,l2,l3,_⟩:=HI h3 h4 h5 k';have hR:R a' w' m:=⟨g3,s'.keep k',j2,l1,l2,l3⟩;exact⟨⟨_,hR⟩,Nat.lt_of_le_of_lt ((XK ⟨_,hR⟩).2 _ hR) j1⟩
 case exit id=>subst h1;exact⟨.exit id,g',s',rfl,h2,h3,h4,h5⟩
 case ret=>subst h1;exact⟨.ret,g',s',rfl,h2,h3,h4,h5⟩
 all_goals cases h1
theorem tP {P:Program}{c:Code}{s:St}{Q:Ex->St->Prop}{σ ρ:Type}{f:σ->Option (σ⊕ρ)}{x0:σ}{y:ρ}(hy:rO f x0=some y) (enc:σ->St) (k:wV) (h0:s.keep k=enc x0)
  (round: ∀x w n,f x=some w->Nxt f y n w->Ev R P c (enc x) (qL enc f y n Q)):Ev R P (.loop c) s Q:=by
 obtain⟨n,hn⟩:=XO hy;refine aNP (fun n s=> ∃x,s=enc x/\iter f n x=some y) ⟨k,n,x0,h0,hn⟩ fun n s ⟨x,e,hx⟩=> ?_;subst e;cases n with
 |zero=>cases hx
 |succ n=>
  unfold iter at hx;refine aNK (Q':=qL enc f y n Q) ?_ (fun e s' hq=> ?_)
  .split at hx
   .cases hx
   .rename_i x' e;exact round x _ n e hx
   .rename_i r e;exact round x _ n e (aVx hx)
  .cases e with
   |normal=>obtain⟨k,x',h1,h2⟩:=hq;exact⟨k,n,pG,x',h1,h2⟩
   |exit j=>exact hq
   |ret=>exact hq
def qX (j:Nat) (X:St->Prop) (Q:Ex->St->Prop):Ex->St->Prop
 | .normal,s=>Q .normal s
 | .exit i,s=>if i=j then∃k:wV,X (s.keep k) else Q (.exit i) s
 | .ret,s=>Q .ret s
theorem tV {P:Program}{c:Code}{s:St}{Q:Ex->St->Prop}(j:Nat) (X:St->Prop) (h:Ev R P c s (qX j X Q)) (J: ∀s',X s'->Q (.exit j) s'):Ev R P c s Q:=by
 intro ro hro A L g0 w0 g a w B hB hr hg hn;refine aXf (h ro hro A L g0 w0 g a w B hB hr hg hn) fun x a' w' hp=> ?_;obtain⟨e,g',s',h1,h2,h3,h4,h5⟩:=hp;cases e with
 |normal=>exact⟨.normal,g',s',h1,h2,h3,h4,h5⟩
 |ret=>exact⟨.ret,g',s',h1,h2,h3,h4,h5⟩
 |exit i=>
  have h2:(if i=j then∃k:wV,X (s'.keep k) else Q (.exit i) s'):=h2;by_cases hij:i=j
  .rw[aVs hij] at h2;obtain⟨k,hk⟩:=h2;obtain⟨g1,k1,k2,k3,_⟩:=HI h3 h4 h5 k;exact⟨.exit i,g1,s'.keep k,h1,by rw[hij];exact J _ hk,k1,k2,k3⟩
  .rw[aVv hij] at h2;exact⟨.exit i,g',s',h1,h2,h3,h4,h5⟩
section
variable {Q:Ex->St->Prop}{s:St}{j i:Nat}{X:St->Prop}{σ ρ:Type}{enc:σ->St}{f:σ->Option (σ⊕ρ)}{y:ρ}{n:Nat}
theorem uZ (h:Q .ret s):qX j X Q .ret s:=h
theorem tM (h: ∃k:wV,X (s.keep k)):qX j X Q (.exit j) s:=by show (if j=j then _ else _);rw[aVs rfl];exact h
theorem sU (h: ∃(k:wV) (x:σ),s.keep k=enc x/\iter f n x=some y):qL enc f y n Q .normal s:=h
theorem tN (h:Q (.exit j) s):qL enc f y n Q (.exit j) s:=h
theorem uX (h:Q .ret s):qL enc f y n Q .ret s:=h
end
def qN (X:St->Prop) (Q:Ex->St->Prop):Ex->St->Prop
 | .normal,s=> ∃k:wV,X (s.keep k)
 | .exit j,s=>Q (.exit j) s
 | .ret,s=>Q .ret s
theorem yM {P:Program}{c:Code}{s:St}{Q:Ex->St->Prop}(X:St->Prop) (h:Ev R P c s (qN X Q)) (J: ∀s',X s'->Q .normal s'):Ev R P c s Q:=by
 intro ro hro A L g0 w0 g a w B hB hr hg hn;refine aXf (h ro hro A L g0 w0 g a w B hB hr hg hn) fun x a' w' hp=> ?_;obtain⟨e,g',s',h1,h2,h3,h4,h5⟩:=hp;cases e with
 |exit j=>exact⟨.exit j,g',s',h1,h2,h3,h4,h5⟩
 |ret=>exact⟨.ret,g',s',h1,h2,h3,h4,h5⟩
 |normal=>
  obtain⟨k,hk⟩:=h2;obtain⟨g1,k1,k2,k3,_⟩:=HI h3 h4 h5 k;exact⟨.normal,g1,s'.keep k,h1,J _ hk,k1,k2,k3⟩
section
variable {Q:Ex->St->Prop}{s:St}{j:Nat}{X:St->Prop}
theorem u6 (h: ∃k:wV,X (s.keep k)):qN X Q .normal s:=h
theorem a2b (h:Q .ret s):qN X Q .ret s:=h
end
def val {ρ:Type}[Inhabited ρ] (x:Option ρ):ρ:=x.getD default
theorem rY {ρ:Type}[Inhabited ρ] {x:Option ρ}{y:ρ}(h:x=some y):val x=y:=by rw[h];rfl
theorem qU {ρ:Type}{x:Option ρ}{y:ρ}(h:x=some y):x.isSome=true:=by rw[h];rfl
theorem qG {ρ:Type}{c:Prop}[Decidable c] {x:Option ρ}{r:ρ}(h:(if c then x else none)=some r):c/\x=some r:=by
 by_cases hc:c
 .rw[aVs hc] at h;exact⟨hc,h⟩
 .rw[aVv hc] at h;cases h
theorem qM {σ ρ:Type}{x:Option σ}{k:σ->Option ρ}{r:ρ}(h:x.bind k=some r): ∃y,x=some y/\k y=some r:=by
 cases x with
 |none=>cases h
 |some y=>exact⟨y,rfl,h⟩
theorem aNQ {ρ:Type}{b:Bool}{x y:ρ}{r:ρ}(h:(if b=true then x else y)=r) (hb:b=true):x=r:=by rw[aVs hb] at h;exact h
theorem aNR {ρ:Type}{b:Bool}{x y:ρ}{r:ρ}(h:(if b=true then x else y)=r) (hb:b=false):y=r:=by rw[hb,aVv pH] at h;exact h
def tY {σ ρ:Type}(x:Option (σ⊕ρ)) (k:σ->Option ρ):Option ρ:=x.bind fun y=>match y with
 | .inl v=>k v
 | .inr r=>some r
theorem uV {σ ρ:Type}{x:Option (σ⊕ρ)}{k:σ->Option ρ}{r:ρ}(h:tY x k=some r): ∃y,x=some y/\(match y with| .inl v=>k v| .inr r=>some r)=some r:=qM h
def sQ {σ ρ:Type}(x:Option σ) (k:σ->Option ρ):Option ρ:=x.bind k
def a2c {σ ρ:Type}(x:σ) (k:σ->ρ):ρ:=k x
theorem aNS {σ ρ:Type}{x:σ}{k:σ->ρ}{r:ρ}(h:a2c x k=r): ∃y,x=y/\k y=r:=⟨x,rfl,h⟩
theorem sB {x:Bool}(h:x=true):(x==true)=true:=by rw[h];rfl
theorem OF {G x:Bool}(hG:G=true) (h:x=true):(G&&(x==true))=true:=by rw[hG,h];rfl
theorem G1 {G x:Bool}(hG:G=true) (h:x=false):(G&&(x==false))=true:=by rw[hG,h];rfl
theorem sP {x:Bool}(h:x=false):(x==false)=true:=by rw[h];rfl
section
variable {P:Program}{T:sV}{Γ:uH}(E:rF P T Γ) {s:St}{Q:Ex->St->Prop}
include E
theorem aEz {id:Nat}{ops:Array Oper}{a:w9}(h:vC T Γ ops.toList ops.toList (some ⟨s,[],[]⟩)=some a) (hp:r8 a.side) (hq:Q .normal a.s):Ev R P (.region id ops false) s Q:=
 aEq E.T E.Γ E.m (aLJ h hp hq)
theorem aEA {id:Nat}{ops:Array Oper}{a:w9}(h:vC T Γ ops.toList ops.toList (some ⟨s,[],[]⟩)=some a) (hf:LI ops s.nb a.es.reverse=true) (hp:r8 a.side) (hq:Q .normal a.s):Ev R P (.region id ops true) s Q:=
 aEq E.T E.Γ E.m (aLK h hf hp hq)
end
end Go.Proofs.YtkpflnijijccpaaGreatDoor.Vc
namespace Go.Proofs.YtkpflnijijccpaaGreatDoor.Vc
open Go.RowKit
variable {R:Bool}
attribute [go_sem] Option.map_some Option.map_none
@[go_sem] theorem aTr {H:List (Nat×qB)}{ps:List PK}{b:List qC}{a:Option tD}:yG H ps ([]++b) a=yG H ps b a:=rfl
@[go_sem] theorem aTs {H:List (Nat×qB)}{ps:List PK}{x:qC}{l b:List qC}{a:Option tD}:yG H ps ((x::l)++b) a=yG H ps (x::(l++b)) a:=rfl
@[go_sem] def aEB:Option qC->Option (List qC)->Option (List qC)
 |some s,some l=>some (s::l)
 |_,_=>none
@[go_sem] def aEC:Option qT->Option qC
 |some e=>some e.slot
 |none=>none
@[go_sem] def XP (H:List (Nat×qB)):Option TI->qC->Option qT
 |some ti,(.val .ref (some (i,off)),_)=>QT ti.ty i off (qE H i)
 |_,_=>none
@[go_sem] def RY (T:sV) (s:St) (m:pL):Nat×Option TypeId->Option qC
 |(t,none)=>some (AK m (lk s.env t))
 |(t,some ty)=>(aEC (XP s.H (rZ T ty) (lk s.env t))).map (AK m)
@[go_sem] def JG (T:sV) (s:St) (m:pL):List (Nat×Option TypeId)->Option (List qC)
 |[]=>some []
 |q::r=>aEB (RY T s m q) (JG T s m r)
def DJ:Nat×Option TypeId->ResultVar
 |(t,none)=> .tmp t
 |(t,some ty)=> .cell t ty
@[go_sem] def EN:Nat->Nat->List (Nat×qB)->List (Nat×qB)
 |0,_,H=>H
 |n+1,i,[]=>(i,.dead)::EN n (i+1) []
 |n+1,i,(j,b)::H=>if j=i then(j,b)::EN n (i+1) H else(i,.dead)::EN n (i+1) ((j,b)::H)
theorem LT: ∀{n i:Nat}{H:List (Nat×qB)}{k:Nat}{b:qB},qE (EN n i H) k=some b->qE H k=some b\/b= .dead
 |0,_,_,_,_,h=> .inl h
 |n+1,i,[],k,b,h=>by
  simp only[EN,qE] at h;split at h
  .exact .inr (aVx h).symm
  .exact LT h
 |n+1,i,(j,c)::H,k,b,h=>by
  unfold EN at h;split at h
  .simp only[qE] at h|-;split at h
   .rename_i e;rw[aVs e];exact .inl h
   .rename_i e;rw[aVv e];exact LT h
  .simp only[qE] at h;split at h
   .exact .inr (aVx h).symm
   .exact LT h
theorem sL.pad {g:Gh}{w:pR}{H:sE}(h:sL g w H) (n i:Nat):sL g w (EN n i H):=by
 have own: ∀{k blk b o},qE (EN n i H) k=some blk->sG g k blk b o->qE H k=some blk:=fun hg ho=>by
  rcases LT hg with h1|h1
  .exact h1
  .subst h1;exact ho.elim
 refine⟨fun k b hb=> ?_,fun i j bi bj b o hij h1 h2 o1 o2=>h.dis i j bi bj b o hij (own h1 o1) (own h2 o2) o1 o2,h.sl,h.tab.1,fun k blk b o h1 h2=>h.tab.2 k blk b o (own h1 h2) h2⟩;rcases LT hb with h1|h1
 .exact h.blk k b h1
 .subst h1;trivial
theorem uB.pad {A:Nat->Nat->Prop}{L:List qB}{g0 g:Gh}{w0 w:pR}{H:sE}(h:uB A L g0 w0 g w H) (n i:Nat):uB A L g0 w0 g w (EN n i H):=by
 refine⟨h.shut,h.fr,fun k blk b o hg ho=> ?_,h.J,h.live,fun k u y us hk hg=> ?_,h.cur⟩
 .rcases LT hg with h1|h1
  .exact h.perm k blk b o h1 ho
  .subst h1;exact ho.elim
 .rcases LT hg with h1|h1
  .exact h.ty k u y us hk h1
  .cases h1
def aED (T:sV) (ts:List (Nat×Option TypeId)) (r:qI):Ex->St->Prop
 | .exit _,_=>False
 |_,s=> ∃m:pL,xQ s.np m=true/\EN (qZ r.H) 0 (s.keep ⟨[],m⟩).H=qR 0 r.H/\JG T s m ts=some r.ret
section
variable {P:Program}{o:Oper}{a:Act}{g:Gh}{w:pR}{H:sE}{T:sV}(hT:y3 P T) (hH:sL g w H)
include hT hH
theorem aNT {t:TypeId}{vx:pS}{sx:qC}(hx:rX g w sx vx) {e:qT}(hr:XP H (rZ T t) sx=some e): ∃ad v,vx= .pointer (some ad)/\(loadVar t ad).run P w= .ok v w/\rX g w e.slot v:=by
 generalize hs:rZ T t=ot at hr;replace hx:=hx.1;unfold XP at hr;split at hr
 .rename_i ti i off k;have hty:=tI hT hs;generalize hb:qE H i=ob at hr;unfold QT at hr;split at hr
  .rename_i u z toks;generalize hga:rK ti.ty u z off=oy at hr;cases oy with
   |none=>cases hr
   |some y=>
    cases hr;obtain⟨p,hp,hv⟩:=A6 hx;obtain⟨p',cs,hp',hR,hra,_,_,htk⟩:=hH.blk i _ hb;rw[hp] at hp';obtain rfl:=aVx hp';obtain⟨c1,c2,c3,rfl,rfl,hR2⟩:=EH hR hga;obtain⟨v,h1,h2,h3⟩:=RE hT hH hty (O2 hT hH hra) hR2;refine⟨_,v,hv,by simpa[Instr.loadAt,Instr.sureAddr] using h1,h2,?_⟩;obtain⟨ty,el,by',ar,ls⟩:=ti;cases ty with
    |list u'=>
     simp only[FQ];generalize htt:xX toks c1.length=ok;cases ok with
     |none=>trivial
     |some k=>
      obtain⟨u2,l,v',g1,g2,g3⟩:=htk _ _ (a1h hT hH htt);obtain⟨heq,hl⟩:=aCF hT hH g1 hga rfl;injection heq with heq'
      subst heq';have hlen:=t7 hR2;obtain⟨v2,rfl⟩:=aWU.1 hlen;have e2:v'=v2:=by
       have e:(c1++[v2]++c3)[c1.length]? =some v2:=by simp
       rw[e] at g2;exact(aVx g2).symm
      have e3:v=v2:=by
       have h4:=B9 rfl h2;have hone:=B8 h4 v pI;have:v.cells= #[v]:=by cases v<;>first|rfl|(simp [Value.oneCell'] at hone)
       rw[this] at h3;simpa using h3
      subst e2;subst e3;have e4:(y:List u'.den)=l:=hl;subst e4;exact g3
    |_=>trivial
  .cases hr
 .cases hr
end
def LU (tmps:Array pS) (q:Nat×Option TypeId):Sem pS:=match DJ q with
 | .tmp t=>pure (tmps.getD t undef)
 | .cell a t=>do loadVar t (<-asAddr (tmps.getD a undef))
theorem aEE {P:Program}{T:sV}(hT:y3 P T) {B:Nat}{g:Gh}{w:pR}{s:St}{a:Act}{m:pL}(hk:xQ s.np m=true) (hr:w6 B g w s a): ∀{ts:List (Nat×Option TypeId)}{l:List qC},JG T s m ts=some l->
  ∃vs:pN,(ts.mapM (LU a.tmps)).run P w= .ok vs w/\vS (vD g s.np m) w l vs
 |[],l,h=>by
  simp only[JG,aVr] at h;subst h;exact⟨[],by simp,rfl⟩
 |q::ts,l,h=>by
  simp only[JG] at h;obtain⟨s1,l1,e1,e2,rfl⟩: ∃s1 l1,RY T s m q=some s1/\JG T s m ts=some l1/\l=s1::l1:=by
   cases h1:RY T s m q<;>cases h2:JG T s m ts<;>rw[h1,h2] at h<;>simp [aEB] at h
   exact⟨_,_,rfl,rfl,h.symm⟩
  obtain⟨vs,v1,v2⟩:=aEE hT hk hr e2;obtain⟨v,w1,w2⟩: ∃v,(LU a.tmps q).run P w= .ok v w/\rX (vD g s.np m) w s1 v:=by
   obtain⟨t,oty⟩:=q;cases oty with
   |none=>
    simp only[RY,aVr] at e1;subst e1;exact⟨_,by simp [LU,DJ],XE hk (hr.env t)⟩
   |some ty=>
    simp only[RY] at e1;cases he:XP s.H (rZ T ty) (lk s.env t) with
    |none=>rw[he] at e1;cases e1
    |some e=>
     rw[he] at e1;simp only[aEC,Option.map_some,aVr] at e1;subst e1;obtain⟨ad,v,hv,hl,hs⟩:=aNT hT hr.heap (hr.env t) he;exact⟨v,by simp only[LU,DJ,hv,asAddr,aVM,aVU,aVC,hl],XE hk hs⟩
  exact⟨v::vs,by simp only[List.mapM_cons,aVM,w1,aVC,v1,aVU],v,vs,rfl,w2,v2⟩
def OG (tmps:Array pS):ResultVar->Sem pS
 | .tmp t=>pure (tmps.getD t undef)
 | .cell a t=>do loadVar t (<-asAddr (tmps.getD a undef))
theorem aNU {P:Program}{fn:Func}{w:pR}{tmps:Array pS}{ts:List (Nat×Option TypeId)}(h:fn.results.toList=ts.map DJ) {vs:pN}(hv:(ts.mapM (LU tmps)).run P w= .ok vs w):(results fn tmps).run P w= .ok (a15 vs) w:=by
 obtain⟨rs,hrs⟩: ∃rs,fn.results=⟨rs⟩:=⟨fn.results.toList,rfl⟩;have hm:rs=ts.map DJ:=by rw[hrs] at h;exact h
 have key:Sem.run P (((ts.map DJ).toArray).mapM (OG tmps)) w=Result.ok vs.toArray w:=by
  rw[List.mapM_toArray,List.mapM_map];have e:OG tmps∘DJ=LU tmps:=by
   funext q;obtain⟨t,o⟩:=q;cases o<;>rfl
  have e2:(fun q=>OG tmps (DJ q))=LU tmps:=e;show Sem.run P (List.mapM (fun q=>OG tmps (DJ q)) ts>>=fun l=>pure l.toArray) w=_;rw[e2,aVM,hv];rfl
 have hu:results fn tmps=(fn.results.mapM (OG tmps) >>=fun vs=>pure (if h:vs.size=1 then vs[0] else .tuple vs)):=by
  unfold results;congr 2
 rw[hu,hrs,hm,aVM];have key2:Sem.run P (Array.mapM (OG tmps) (⟨ts.map DJ⟩:Array ResultVar)) w=Result.ok vs.toArray w:=key;rw[key2];simp only[aVC,aVU]
 match vs with
 |[]=>rfl
 |[v]=>rfl
 |v::u::l=>simp [a15]
theorem aNV {P:Program}{T:sV}(hT:y3 P T) {f:FuncId}{fn:Func}{c:Code}{C:List qC->List qB->Option qI}{ts:List (Nat×Option TypeId)}(hf:P.funcs[f]? =some fn) (hb:fn.body=some c) {N:Nat}(hN:fn.ntmps=N)
  (hcall: ∀args w,(callFunc f args).run P w= .ok (.enter f args) w) (hres:fn.results.toList=ts.map DJ)
  (h: ∀args L r,C args L=some r->(∀p∈r.side,p)->rL L->args.length<=N/\RT (wF 0 L) args/\RU (wF 0 L) L/\Ev false P c ⟨rI 0 args,qR 0 L,qZ L,N,qZ L⟩ (aED T ts r)):xR P f C:=by
 subst hN;refine⟨hcall,fun g w args vals L r hH ha hC hs=> ?_⟩;obtain⟨h1,h2,h3,h4⟩:=h args L r hC hs (aEk fun i b hb=>⟨i,hH.blk i b (by rw[y4];exact hb)⟩);obtain⟨hr,hent⟩:=aNI hH ha h2 h3 h1;have hsub: ∀b o,yX (vD g 0 (wF 0 L)) (qR 0 L) b o->yX g (qR 0 L) b o:=fun b o ⟨i,blk,hg,ho⟩=>⟨i,blk,hg,(hent i blk (by rw[<-y4];exact hg)).2.2 b o ho⟩;have hgood:uB (yX (vD g 0 (wF 0 L)) (qR 0 L)) L (vD g 0 (wF 0 L)) w (vD g 0 (wF 0 L)) w (qR 0 L):=by
  refine⟨fun b o h=>⟨h,rfl⟩,Fr.refl _ _ _,fun i blk b o hg ho=> .inr ⟨i,blk,hg,ho⟩,fun _ _ _ h=>h,fun i hi=> ?_,fun i u y us _ hg=>⟨y,us,by rw[<-y4];exact hg⟩,fun _ _ _ _ h=>h⟩;have hL:L[i]? =some L[i]:=by simp
  obtain⟨_,hbk,_⟩:=hent i L[i] hL;have hnd:=(LS h3 L[i] (aWq hi)).2;generalize L[i]=blk at hbk hnd;cases blk with
  |cells t x ts=>obtain⟨p,cs,hp,_⟩:=hbk;exact .inl ⟨p,hp⟩
  |grow e c n=>obtain⟨v,xs,hv,_⟩:=hbk;exact .inr ⟨n,v,hv⟩
  |row e t l n=>obtain⟨_,v,xs,hv,_⟩:=hbk;exact .inr ⟨n,v,hv⟩
  |map k v l=>obtain⟨p,es,cl,hp,_⟩:=hbk;exact .inl ⟨p,hp⟩
  |iter s n=>obtain⟨p,hp,_⟩:=hbk;exact .inl ⟨p,hp⟩
  |dead=>exact absurd rfl hnd
 refine callsIn_wide.1 (callsIn_of_wp_marks (F:=Fence.wide) (n:=0) hf hb trivial (aXf (h4 none rfl _ _ _ _ _ _ _ _ (aVR _) hr hgood (XN L)) fun x a' w' hp=> ?_) rfl);obtain⟨e,g',s',e1,e2,e3,e4,e5⟩:=hp;have wS: ∀m:pL,xQ s'.np m=true->EN (qZ r.H) 0 (s'.keep ⟨[],m⟩).H=qR 0 r.H->JG T s' m ts=some r.ret->LeavesInM Fence.wide 0 P fn a'.tmps (fun e w'=> ∃v' g',e= .returned v'/\EL g w L r g' w' v') a'.defers .returning w':=by
  intro m hk k1 k2;refine aEp a'.defers w' e3 e4 (fun w1 e3 e4=> ?_);obtain⟨l1,l2,l3,_⟩:=a1N e3 e4 e5 ⟨[],m⟩ hk;replace l2:=l2.pad (qZ r.H) 0;rw[k1] at l2;obtain⟨vs,q1,q2⟩:=aEE hT hk e3 k2;have q3:=aNU (P:=P) (w:=w1) (tmps:=a'.tmps) hres q1;refine⟨_,q3,_,_,rfl,⟨fun b o hb=>l2.shut b o hb,by rw[<-k1];exact l1.heap.pad _ _,?_,?_,fun i blk b o hi ho=> ?_,fun i t x us hi=> ?_,fun i t x us u y vs hi hr=> ?_,fun i p hi hp=>l2.J i p hi ((BB XL (OE.2 ⟨rfl,aWC _,pG⟩)).1.trans hp),fun i n u hi hu=>l2.cur i n u hi ((congrFun (BB XL (OE.2 ⟨rfl,aWC _,pG⟩)).2 n).trans hu)⟩⟩
  .unfold RJ;split
   .rename_i s hs;rw[hs] at q2;obtain⟨v,vs',hv,h5,h6⟩:=q2;rw[hv,show vs'=[] from h6];exact h5
   .rename_i hne;refine⟨_,?_,q2⟩;unfold a15;split
    .rename_i v hv;exfalso;have:=(XM q2).1;cases hq:r.ret with
     |nil=>rw[hq] at this;simp at this
     |cons s l=>cases l with
      |nil=>exact hne s hq
      |cons _ _=>rw[hq] at this;simp at this
    .rfl
  .exact⟨l2.fr.os,l2.fr.tape,l2.fr.output,l2.fr.size,fun b hb hA=>l2.fr.blk b hb (fun o ho=>hA o (hsub b o ho)),fun b o hb hA=>l2.fr.cell b o hb (fun ho=>hA (hsub b o ho)),fun b o hS=>(l2.fr.new b o hS).imp id (Or.imp id (hsub b o)),fun b s hs=>(l2.fr.shape b s hs).imp id fun h o=>hsub b o (h o)⟩
  .exact(l2.perm i blk b o (by rw[y4];exact hi) ho).imp id (hsub b o)
  .obtain⟨j1,⟨p,cs,j2,_⟩,_⟩:=hent i _ hi;have hil:i<L.length:=(aVK.1 hi).1;rw[l2.J i p hil j2,<-j1,j2]
  .have hil:i<L.length:=(aVK.1 hi).1;obtain⟨x',ts',h5⟩:=l2.ty i u y vs hil (by rw[y4];exact hr);rw[hi] at h5;simp only[aVr,qB.cells.injEq] at h5;exact h5.1.symm
 cases x<;>simp only[G0,aVr] at e1
 case normal=>subst e1;obtain⟨k,k0,k1,k2⟩:=e2;exact wS k k0 k1 k2
 case ret=>subst e1;obtain⟨k,k0,k1,k2⟩:=e2;exact wS k k0 k1 k2
 case exit id=>subst e1;exact e2.elim
 all_goals cases e1
open Classical in
noncomputable def rM {V:Type}(p:V->List qC) (q:V->List qB) (R:V->qI) (a:List qC) (L:List qB):Option qI:=
 if h: ∃v,p v=a/\q v=L then some (R h.choose) else none
theorem aNW {V:Type}{p:V->List qC}{q:V->List qB}{R:V->qI}{a:List qC}{L:List qB}{r:qI}(h:rM p q R a L=some r): ∃v,p v=a/\q v=L/\R v=r:=by
 unfold rM at h;split at h
 .rename_i e;exact⟨e.choose,e.choose_spec.1,e.choose_spec.2,aVx h⟩
 .cases h
theorem rQ {V:Type}{p:V->List qC}{q:V->List qB}{R:V->qI}(inj: ∀v v',p v=p v'->q v=q v'->v=v') (v:V):rM p q R (p v) (q v)=some (R v):=by
 have h: ∃u,p u=p v/\q u=q v:=⟨v,rfl,rfl⟩;unfold rM;rw[aXz h,inj _ v h.choose_spec.1 h.choose_spec.2]
theorem aEF: ∀{l:List Prop},(∀p∈l,p)->r8 l
 |[],_=>trivial
 |[p],h=>h p pI
 |p::q::r,h=>⟨h p pI,aEF (l:=q::r) fun x hx=>h x (aVB _ hx)⟩
def r5 (P:Program) (x:Nat×qW):Prop:=xR P x.1 x.2.C/\∀F,x.2.row=some F->WY P x.1 F
theorem rR {P:Program}{T:sV}{Γ:uH}(hE:rF P T Γ) {f:FuncId}{fn:Func}{c:Code}{V:Type}{p:V->List qC}{q:V->List qB}{R:V->qI}{ps:List PK}{gs:List (Nat×Nat×PK)}{same:pQ}{ts:List (Nat×Option TypeId)}(hf:P.funcs[f]? =some fn) (hb:fn.body=some c) {N:Nat}(hN:fn.ntmps=N)
  (hres:fn.results.toList=ts.map DJ) (hcall: ∀args w,(callFunc f args).run P w= .ok (.enter f args) w)
  (h: ∀v,r8 (R v).side->rL (q v)->Ev false P c ⟨rI 0 (p v),qR 0 (q v),qZ (q v),N,qZ (q v)⟩ (aED T ts (R v)))
  (h1: ∀v,Nat.ble (p v).length N=true:=by intro _;rfl)
  (h2: ∀v,RT (wF 0 (q v)) (p v):=by intro _;repeat (first|exact trivial|refine ⟨rfl,?_⟩))
  (h3: ∀v,RU (wF 0 (q v)) (q v):=by intro _;repeat (first|exact trivial|refine ⟨rfl,?_⟩)):r5 P (f,⟨ps,rM p q R,gs,same,none⟩):=
 ⟨aNV hE.T hf hb hN hcall hres fun args L r hC hs hr=>by
  obtain⟨v,rfl,rfl,rfl⟩:=aNW hC;exact⟨aWQ (h1 v),h2 v,h3 v,h v (aEF hs) hr⟩,fun _ h=>by cases h⟩
abbrev qD (n:Int):Prop:= -9223372036854775808<=n/\n<=9223372036854775807
@[go_sem] def rG:List (Nat×qW)->uH
 |[],_=>none
 |(k,s)::r,f=>if k=f then some s else rG r f
theorem rJ {P:Program}:EM P (rG []):=fun _ _ _ h=>by cases h
theorem qK {P:Program}{x:Nat×qW}{r:List (Nat×qW)}(h:r5 P x) (hr:EM P (rG r)):EM P (rG (x::r)):=fun f s hlt hs=>by
 obtain⟨k,y⟩:=x;simp only[rG] at hs;split at hs
 .rename_i e;subst e;cases hs;exact h
 .exact hr f s hlt hs
section
variable {P:Program}{T:sV}{Γ:uH}(E:rF P T Γ) {s:St}{Q:Ex->St->Prop}
include E
theorem q9 {id:Nat}{ops:Array Oper}{a:w9}{y:Code}(hq:Ev R P y a.s Q) (h:vC T Γ ops.toList ops.toList (some ⟨s,[],[]⟩)=some a:=by simp only[go_sem];rfl) (hp:r8 a.side:=by exact trivial):Ev R P (.seq (.region id ops false) y) s Q:=
 qO (aEz E h hp hq)
theorem vY {id:Nat}{ops:Array Oper}{a:w9}{y:Code}(hq:Ev R P y a.s Q) (h:vC T Γ ops.toList ops.toList (some ⟨s,[],[]⟩)=some a:=by simp only[go_sem];rfl) (hp:r8 a.side:=by exact trivial) (hf:LI ops s.nb a.es.reverse=true:=by kernel_rfl):Ev R P (.seq (.region id ops true) y) s Q:=
 qO (aEA E h hf hp hq)
theorem rC {id:Nat}{ops:Array Oper}{a:w9}(hq:Q .normal a.s) (h:vC T Γ ops.toList ops.toList (some ⟨s,[],[]⟩)=some a:=by simp only[go_sem];rfl) (hp:r8 a.side:=by exact trivial):Ev R P (.region id ops false) s Q:=
 aEz E h hp hq
theorem BD {id:Nat}{ops:Array Oper}{a:w9}(hq:Q .normal a.s) (h:vC T Γ ops.toList ops.toList (some ⟨s,[],[]⟩)=some a:=by simp only[go_sem];rfl) (hp:r8 a.side:=by exact trivial) (hf:LI ops s.nb a.es.reverse=true:=by kernel_rfl):Ev R P (.region id ops true) s Q:=
 aEA E h hf hp hq
end
theorem qS {P:Program}{s:St}{Q:Ex->St->Prop}{c:Operand}{x y:Code}{b b':Bool}{k:pP}{ρ:Type}{X Y r:ρ}(hC:(if b'=true then X else Y)=r) (ht:X=r->b=true->Ev R P x s Q) (hf:Y=r->b=false->Ev R P y s Q)
  (h:uO s.env c=(.val .bool b,k):=by simp only[go_sem];rfl) (hb:b=b':=by first|rfl|simp):Ev R P (.cond c x y) s Q:=
 aNL h (fun e=>ht (aNQ hC (hb▸e)) e) (fun e=>hf (aNR hC (hb▸e)) e)
theorem qV {σ ρ:Type}[Inhabited σ] {x:Option σ}{k:σ->Option ρ}{r:ρ}(h:x.bind k=some r): ∃y,x=some y/\val x=y/\k y=some r:=by
 obtain⟨y,h1,h2⟩:=qM h;exact⟨y,h1,rY h1,h2⟩
attribute [go_sem] true_and and_true false_and and_false Nat.reduceMul List.nil_append List.cons_append List.append_nil List.toList_toArray Nat.reduceEqDiff reduceIte reduceDIte reduceCtorEq Nat.reduceAdd Nat.reduceSub Int.reduceToNat Nat.reduceLT Nat.reduceLeDiff decide_true decide_false Bool.and_self Bool.or_self Bool.or_false Bool.false_or Bool.and_true Bool.true_and Bool.not_true Bool.not_false
end Go.Proofs.YtkpflnijijccpaaGreatDoor.Vc
namespace Go.Proofs
open Go.RowKit Go.Lib
def Tryz.lays137_ren:Go.Shelf.Ren:=⟨fun|137=>108|217=>149|266=>185|n=>n,fun|9=>9|5=>5|3=>3|n=>n,fun|n=>n⟩
theorem Tryz.lays137:Go.Proofs.Lays.n137 Tryz.prog Tryz.lays137_ren:={
 mixed:=by kernel_rfl
 f137:=Tryz.func108.trans (aVL some pU)
 f217:=Tryz.func149.trans (aVL some pU)
 f266:=Tryz.func185.trans (aVL some pU)
 t3:=Tryz.underlying3
 a3:=Tryz.isAgg3
 z3:=Tryz.sizeOf3
 v3:=Tryz.zeroValue3
 t5:=Tryz.underlying5
 a5:=Tryz.isAgg5
 z5:=Tryz.sizeOf5
 v5:=Tryz.zeroValue5
 t9:=Tryz.underlying9
 a9:=Tryz.isAgg9
 z9:=Tryz.sizeOf9
 v9:=Tryz.zeroValue9}
def Tryz.lays161_ren:Go.Shelf.Ren:=⟨fun|161=>127|231=>117|227=>119|233=>120|235=>122|228=>160|197=>161|151=>162|260=>194|152=>195|137=>108|119=>219|224=>187|225=>186|217=>149|266=>185|n=>n,fun|9=>9|4=>4|3=>3|5=>5|117=>162|116=>161|0=>0|124=>165|105=>191|21=>21|119=>182|46=>175|139=>230|138=>229|n=>n,fun|3=>3|4=>4|n=>n⟩
theorem Tryz.lays161:Go.Proofs.Lays.n161 Tryz.prog Tryz.lays161_ren:={
 mixed:=by kernel_rfl
 f119:=Tryz.func219.trans (aVL some pU)
 f137:=Tryz.func108.trans (aVL some pU)
 f151:=Tryz.func162.trans (aVL some pU)
 f152:=Tryz.func195.trans (aVL some pU)
 f161:=Tryz.func127.trans (aVL some pU)
 f197:=Tryz.func161.trans (aVL some pU)
 f217:=Tryz.func149.trans (aVL some pU)
 f224:=Tryz.func187.trans (aVL some pU)
 f225:=Tryz.func186.trans (aVL some pU)
 f227:=Tryz.func119.trans (aVL some pU)
 f228:=Tryz.func160.trans (aVL some pU)
 f231:=Tryz.func117.trans (aVL some pU)
 f233:=Tryz.func120.trans (aVL some pU)
 f235:=Tryz.func122.trans (aVL some pU)
 f260:=Tryz.func194.trans (aVL some pU)
 f266:=Tryz.func185.trans (aVL some pU)
 t0:=Tryz.underlying0
 a0:=Tryz.isAgg0
 z0:=Tryz.sizeOf0
 v0:=Tryz.zeroValue0
 t3:=Tryz.underlying3
 a3:=Tryz.isAgg3
 z3:=Tryz.sizeOf3
 v3:=Tryz.zeroValue3
 t4:=Tryz.underlying4
 a4:=Tryz.isAgg4
 z4:=Tryz.sizeOf4
 v4:=Tryz.zeroValue4
 t5:=Tryz.underlying5
 a5:=Tryz.isAgg5
 z5:=Tryz.sizeOf5
 v5:=Tryz.zeroValue5
 t9:=Tryz.underlying9
 a9:=Tryz.isAgg9
 z9:=Tryz.sizeOf9
 v9:=Tryz.zeroValue9
 t21:=Tryz.underlying21
 a21:=Tryz.isAgg21
 z21:=Tryz.sizeOf21
 v21:=Tryz.zeroValue21
 t46:=Tryz.underlying175
 a46:=Tryz.isAgg175
 z46:=Tryz.sizeOf175
 v46:=Tryz.zeroValue175
 t105:=Tryz.underlying191
 a105:=Tryz.isAgg191
 z105:=Tryz.sizeOf191
 v105:=Tryz.zeroValue191
 t116:=Tryz.underlying161
 a116:=Tryz.isAgg161
 z116:=Tryz.sizeOf161
 t117:=Tryz.underlying162
 a117:=Tryz.isAgg162
 z117:=Tryz.sizeOf162
 v117:=Tryz.zeroValue162
 t119:=Tryz.underlying182
 a119:=Tryz.isAgg182
 z119:=Tryz.sizeOf182
 t124:=Tryz.underlying165
 a124:=Tryz.isAgg165
 z124:=Tryz.sizeOf165
 v124:=Tryz.zeroValue165
 t138:=Tryz.underlying229
 a138:=Tryz.isAgg229
 z138:=Tryz.sizeOf229
 v138:=Tryz.zeroValue229
 t139:=Tryz.underlying230
 a139:=Tryz.isAgg230
 z139:=Tryz.sizeOf230
 v139:=Tryz.zeroValue230
 g3:=by kernel_rfl
 g4:=by kernel_rfl}
def Tryz.lays190_ren:Go.Shelf.Ren:=⟨fun|190=>88|125=>135|258=>134|128=>177|129=>178|302=>168|303=>169|304=>170|305=>171|306=>172|307=>173|308=>174|309=>175|310=>176|333=>201|329=>202|330=>203|334=>204|335=>205|336=>206|344=>222|n=>n,fun|31=>24|9=>9|3=>3|46=>175|0=>0|51=>205|53=>207|4=>4|183=>199|182=>198|131=>55|5=>5|218=>221|222=>225|228=>250|229=>180|n=>n,fun|n=>n⟩
theorem Tryz.lays190:Go.Proofs.Lays.n190 Tryz.prog Tryz.lays190_ren:={
 mixed:=by kernel_rfl
 f125:=Tryz.func135.trans (aVL some pU)
 f128:=Tryz.func177.trans (aVL some pU)
 f129:=Tryz.func178.trans (aVL some pU)
 f190:=Tryz.func88.trans (aVL some pU)
 f258:=Tryz.func134.trans (aVL some pU)
 f302:=Tryz.func168.trans (aVL some pU)
 f303:=Tryz.func169.trans (aVL some pU)
 f304:=Tryz.func170.trans (aVL some pU)
 f305:=Tryz.func171.trans (aVL some pU)
 f306:=Tryz.func172.trans (aVL some pU)
 f307:=Tryz.func173.trans (aVL some pU)
 f308:=Tryz.func174.trans (aVL some pU)
 f309:=Tryz.func175.trans (aVL some pU)
 f310:=Tryz.func176.trans (aVL some pU)
 f329:=Tryz.func202.trans (aVL some pU)
 f330:=Tryz.func203.trans (aVL some pU)
 f333:=Tryz.func201.trans (aVL some pU)
 f334:=Tryz.func204.trans (aVL some pU)
 f335:=Tryz.func205.trans (aVL some pU)
 f336:=Tryz.func206.trans (aVL some pU)
 f344:=Tryz.func222.trans (aVL some pU)
 t0:=Tryz.underlying0
 a0:=Tryz.isAgg0
 z0:=Tryz.sizeOf0
 v0:=Tryz.zeroValue0
 t3:=Tryz.underlying3
 a3:=Tryz.isAgg3
 z3:=Tryz.sizeOf3
 v3:=Tryz.zeroValue3
 t4:=Tryz.underlying4
 a4:=Tryz.isAgg4
 z4:=Tryz.sizeOf4
 v4:=Tryz.zeroValue4
 t5:=Tryz.underlying5
 a5:=Tryz.isAgg5
 z5:=Tryz.sizeOf5
 v5:=Tryz.zeroValue5
 t9:=Tryz.underlying9
 a9:=Tryz.isAgg9
 z9:=Tryz.sizeOf9
 v9:=Tryz.zeroValue9
 t31:=Tryz.underlying24
 a31:=Tryz.isAgg24
 z31:=Tryz.sizeOf24
 v31:=Tryz.zeroValue24
 t46:=Tryz.underlying175
 a46:=Tryz.isAgg175
 z46:=Tryz.sizeOf175
 v46:=Tryz.zeroValue175
 t51:=Tryz.underlying205
 a51:=Tryz.isAgg205
 z51:=Tryz.sizeOf205
 v51:=Tryz.zeroValue205
 t53:=Tryz.underlying207
 a53:=Tryz.isAgg207
 z53:=Tryz.sizeOf207
 v53:=Tryz.zeroValue207
 t131:=Tryz.underlying55
 a131:=Tryz.isAgg55
 z131:=Tryz.sizeOf55
 v131:=Tryz.zeroValue55
 t182:=Tryz.underlying198
 a182:=Tryz.isAgg198
 z182:=Tryz.sizeOf198
 v182:=Tryz.zeroValue198
 t183:=Tryz.underlying199
 a183:=Tryz.isAgg199
 z183:=Tryz.sizeOf199
 v183:=Tryz.zeroValue199
 t218:=Tryz.underlying221
 a218:=Tryz.isAgg221
 z218:=Tryz.sizeOf221
 v218:=Tryz.zeroValue221
 t222:=Tryz.underlying225
 a222:=Tryz.isAgg225
 z222:=Tryz.sizeOf225
 v222:=Tryz.zeroValue225
 t228:=Tryz.underlying250
 a228:=Tryz.isAgg250
 z228:=Tryz.sizeOf250
 v228:=Tryz.zeroValue250
 t229:=Tryz.underlying180
 a229:=Tryz.isAgg180
 z229:=Tryz.sizeOf180
 v229:=Tryz.zeroValue180}
def Tryz.lays196_ren:Go.Shelf.Ren:=⟨fun|196=>179|259=>207|n=>n,fun|0=>0|3=>3|4=>4|5=>5|9=>9|12=>12|46=>175|53=>207|119=>182|138=>229|139=>230|n=>n,fun|3=>3|4=>4|n=>n⟩
theorem Tryz.lays196:Go.Proofs.Lays.n196 Tryz.prog Tryz.lays196_ren:={
 mixed:=by kernel_rfl
 f196:=Tryz.func179.trans (aVL some pU)
 f259:=Tryz.func207.trans (aVL some pU)
 t0:=Tryz.underlying0
 a0:=Tryz.isAgg0
 z0:=Tryz.sizeOf0
 v0:=Tryz.zeroValue0
 t3:=Tryz.underlying3
 a3:=Tryz.isAgg3
 z3:=Tryz.sizeOf3
 v3:=Tryz.zeroValue3
 t4:=Tryz.underlying4
 a4:=Tryz.isAgg4
 z4:=Tryz.sizeOf4
 v4:=Tryz.zeroValue4
 t5:=Tryz.underlying5
 a5:=Tryz.isAgg5
 z5:=Tryz.sizeOf5
 v5:=Tryz.zeroValue5
 t9:=Tryz.underlying9
 a9:=Tryz.isAgg9
 z9:=Tryz.sizeOf9
 v9:=Tryz.zeroValue9
 t12:=Tryz.underlying12
 a12:=Tryz.isAgg12
 z12:=Tryz.sizeOf12
 v12:=Tryz.zeroValue12
 t46:=Tryz.underlying175
 a46:=Tryz.isAgg175
 z46:=Tryz.sizeOf175
 v46:=Tryz.zeroValue175
 t53:=Tryz.underlying207
 a53:=Tryz.isAgg207
 z53:=Tryz.sizeOf207
 v53:=Tryz.zeroValue207
 t119:=Tryz.underlying182
 a119:=Tryz.isAgg182
 z119:=Tryz.sizeOf182
 t138:=Tryz.underlying229
 a138:=Tryz.isAgg229
 z138:=Tryz.sizeOf229
 v138:=Tryz.zeroValue229
 t139:=Tryz.underlying230
 a139:=Tryz.isAgg230
 z139:=Tryz.sizeOf230
 v139:=Tryz.zeroValue230
 g3:=by kernel_rfl
 g4:=by kernel_rfl}
def Tryz.lays240_ren:Go.Shelf.Ren:=⟨fun|240=>58|276=>94|n=>n,fun|0=>0|4=>4|9=>9|20=>20|70=>71|72=>73|164=>142|37=>22|n=>n,fun|n=>n⟩
theorem Tryz.lays240:Go.Proofs.Lays.n240 Tryz.prog Tryz.lays240_ren:={
 mixed:=by kernel_rfl
 f240:=Tryz.func58.trans (aVL some pU)
 f276:=Tryz.func94.trans (aVL some pU)
 t0:=Tryz.underlying0
 a0:=Tryz.isAgg0
 z0:=Tryz.sizeOf0
 v0:=Tryz.zeroValue0
 t4:=Tryz.underlying4
 a4:=Tryz.isAgg4
 z4:=Tryz.sizeOf4
 v4:=Tryz.zeroValue4
 t9:=Tryz.underlying9
 a9:=Tryz.isAgg9
 z9:=Tryz.sizeOf9
 v9:=Tryz.zeroValue9
 t20:=Tryz.underlying20
 a20:=Tryz.isAgg20
 z20:=Tryz.sizeOf20
 v20:=Tryz.zeroValue20
 t70:=Tryz.underlying71
 a70:=Tryz.isAgg71
 z70:=Tryz.sizeOf71
 v70:=Tryz.zeroValue71
 t72:=Tryz.underlying73
 a72:=Tryz.isAgg73
 z72:=Tryz.sizeOf73
 v72:=Tryz.zeroValue73
 t164:=Tryz.underlying142
 a164:=Tryz.isAgg142
 z164:=Tryz.sizeOf142
 v164:=Tryz.zeroValue142}
theorem Tryz.builderX72:Builder.X72 Tryz.prog Tryz.lays240_ren:={
 sizeBuilder:=by kernel_rfl
 liesBuilder:=by kernel_rfl}
def Tryz.lays169_ren:Go.Shelf.Ren:=⟨fun|169=>31|n=>n,fun|70=>71|9=>9|0=>0|72=>73|37=>22|127=>106|3=>3|5=>5|n=>n,fun|n=>n⟩
theorem Tryz.lays169:Go.Proofs.Lays.n169 Tryz.prog Tryz.lays169_ren:={
 mixed:=by kernel_rfl
 f169:=Tryz.func31.trans (aVL some pU)
 t0:=Tryz.underlying0
 a0:=Tryz.isAgg0
 z0:=Tryz.sizeOf0
 v0:=Tryz.zeroValue0
 t3:=Tryz.underlying3
 a3:=Tryz.isAgg3
 z3:=Tryz.sizeOf3
 v3:=Tryz.zeroValue3
 t9:=Tryz.underlying9
 a9:=Tryz.isAgg9
 z9:=Tryz.sizeOf9
 v9:=Tryz.zeroValue9
 t37:=Tryz.underlying22
 a37:=Tryz.isAgg22
 z37:=Tryz.sizeOf22
 v37:=Tryz.zeroValue22
 t70:=Tryz.underlying71
 a70:=Tryz.isAgg71
 z70:=Tryz.sizeOf71
 v70:=Tryz.zeroValue71
 t72:=Tryz.underlying73
 a72:=Tryz.isAgg73
 z72:=Tryz.sizeOf73
 v72:=Tryz.zeroValue73
 t127:=Tryz.underlying106
 a127:=Tryz.isAgg106
 z127:=Tryz.sizeOf106
 v127:=Tryz.zeroValue106}
theorem Tryz.builderExtra:Builder.Extra Tryz.prog Tryz.lays169_ren:={
 sizeBuilder:=by kernel_rfl
 liesBuilder:=by kernel_rfl
 t5:=Tryz.underlying5
 a5:=Tryz.isAgg5
 z5:=Tryz.sizeOf5
 v5:=Tryz.zeroValue5
 infoByte:=by kernel_rfl
 cellsByte:=by kernel_rfl
 sizeByte:=by kernel_rfl
 neB5:=by decide}
end Go.Proofs
namespace Go.Proofs.YtkpflnijijccpaaGreatDoor
open Vc Go.RowKit
theorem aNX {g:Gh}{w w':pR}(hH:sL g w (qR 0 [])) (hb:Below w.heap.size w w'):sL g w' (qR 0 []):=
 ⟨fun _ _ h=>(by cases h),fun _ _ _ _ _ _ _ h=>(by cases h),fun b o h=>aV7 (hH.sl b o h) hb.size,⟨KY hH.tab.1 hb.size fun b h=>hb.block b (aV7 h hH.tab.1.1),fun _ _ _ _ h=>(by cases h)⟩⟩
theorem JH {P:Program}{f:FuncId}{C:List qC->List qB->Option qI}(hen: ∀args w,(callFunc f args).run P w= .ok (.enter f args) w)
  (h: ∀(g:Gh) (w:pR) (args:List qC) (vals:pN) (L:List qB) (r:qI),DA w->vS g w args vals->C args L=some r->(∀p∈r.side,p)->
   L=[]/\r.H=[]/\Calls P f vals.toArray w (fun e w'=> ∃v,e= .returned v/\Below w.heap.size w w'/\RJ g w' r.ret v)):xR P f C:=by
 refine⟨hen,fun g w args vals L r hH ha hC hs=> ?_⟩;obtain⟨rfl,hr,hc⟩:=h g w args vals L r hH.tab.1 ha hC hs;refine hc.mono fun e w' ⟨v,he,hb,hv⟩=>⟨v,g,he,⟨fun b o h=>⟨h,hb.cell (p:=⟨b,o,none⟩) (hH.sl b o h)⟩,by rw[hr];exact aNX hH hb,hv,⟨hb.os,hb.tape,hb.output,hb.size,fun b h _=>hb.block b h,fun b o h _=>⟨hb.cell (p:=⟨b,o,none⟩) h,hb.frozen (p:=⟨b,o,none⟩) h⟩,fun b o h=> .inl h,fun b s h=> .inl ((CP (hb.block b (CO h))).trans h)⟩,(fun i blk b o h=>by rw[hr] at h;cases h),(fun i t x ts h=>by cases h),(fun i t x ts u y us h=>by cases h),(fun _ _ _ h=>h),(fun _ _ _ _ h=>h)⟩⟩
theorem XQ {P:Program}{f:FuncId}{vals:Array pS}{w:pR}{Q:Ending->Prop}(h:Calls P f vals w fun e w'=>Q e/\w'=w):Calls P f vals w fun e w'=>Q e/\Below w.heap.size w w':=
 h.mono fun e w' ⟨h1,h2⟩=>⟨h1,by rw[h2];exact Below.refl _ _⟩
def vE (s:pD) (c:Int):Int:=Lib.indexByte s (Int.toNat c).toUInt8
@[go_sem] def RZ:List qC->List qB->Option qI
 |[(.val .str O,none),(.val (.int .u8) Z,none)],[]=>some ⟨[],[(.val (.int .i64) (vE O Z),none)],[]⟩
 |_,_=>none
theorem a2d:xR Tryz.prog 108 RZ:=by
 refine JH (fun _ _=>rfl) fun g w args vals L r hT ha hC hs=> ?_;unfold RZ at hC;split at hC
 .rename_i s c;cases hC;obtain⟨va,_,rfl,ra,vb,_,rfl,rb,hv⟩:=ha;obtain rfl:=xA ra.1;obtain rfl:=wX rb.1;cases hv;exact⟨rfl,rfl,(XQ (Any.strings_IndexByte Tryz.lays137 ⟨List.toArray s⟩ c w)).mono fun e w' ⟨he,hb⟩=>⟨_,he,hb,wY _ _ _ _,trivial⟩⟩
 .cases hC
@[go_sem] def S0:List qC->List qB->Option qI
 |[(.val .str O,none),(.val .str Z,none)],[]=>some ⟨[(List.all Z fun b=>decide (b.toNat<128))=true/\List.length Z<4294967281],[(.val .str (Lib.trimLeftS O Z),none)],[]⟩
 |_,_=>none
theorem a2e:xR Tryz.prog 127 S0:=by
 refine JH (fun _ _=>rfl) fun g w args vals L r hT ha hC hs=> ?_;unfold S0 at hC;split at hC
 .rename_i s c;cases hC;obtain⟨h1,h2⟩:=hs _ aVz;obtain⟨va,_,rfl,ra,vb,_,rfl,rb,hv⟩:=ha;obtain rfl:=xA ra.1;obtain rfl:=xA rb.1;cases hv;exact⟨rfl,rfl,(Any.strings_TrimLeft_laid Tryz.lays161 pU ⟨List.toArray s⟩ ⟨List.toArray c⟩ w h2 (ascii_of_all h1)).mono fun e w' ⟨he,hb⟩=>⟨_,he,hb,BR _ _ _,trivial⟩⟩
 .cases hC
@[go_sem] def S1:List qC->List qB->Option qI
 |[(.val .str O,none)],[]=>some ⟨[List.length O<=9223372036854775807],[(.val .bool (Lib.validD O),none)],[]⟩
 |_,_=>none
theorem a2f:xR Tryz.prog 179 S1:=by
 refine JH (fun _ _=>rfl) fun g w args vals L r hT ha hC hs=> ?_;unfold S1 at hC;split at hC
 .rename_i s;cases hC;have h1:=hs _ aVz;obtain⟨va,_,rfl,ra,hv⟩:=ha;obtain rfl:=xA ra.1;cases hv;exact⟨rfl,rfl,(Any.utf8_ValidString Tryz.lays196 ⟨List.toArray s⟩ w h1 hT.2.1).mono fun e w' ⟨he,hb⟩=>⟨_,he,hb,xB _ _ _,trivial⟩⟩
 .cases hC
@[go_sem] def XR:List qC->List qB->Option qI:=fun _ _=>none
def sN (l:pE):pE:=l.mergeSort fun x y=>decide (x<=y)
@[go_sem] def XS:(t:Ty)->List t.den->Option (List t.den)
 | .str,l=>some (sN l)
 |_,_=>none
theorem a2g {g:Gh}{w:pR}: ∀{l:pE}{xs:pN},uE (Rd g w .str) 1 l xs->xs=l.map Go.Proofs.encStr
 |[],_,h=>h
 |_::_,_,⟨c1,c2,e,_,h2,h3⟩=>by rw[e,show c1=_ from h2,a2g h3];rfl
theorem XT {g:Gh}{w:pR}: ∀(l:pE),uE (Rd g w .str) 1 l (l.map Go.Proofs.encStr)
 |[]=>rfl
 |x::l=>⟨[.string ⟨x.toArray⟩],_,rfl,rfl,rfl,XT l⟩
theorem aEG (s:pE) (cur:Array pS) (h:s.length<=cur.size):(Go.Sort.putCells Go.Proofs.encStr 0 s.toArray cur).toList.take s.length=s.map Go.Proofs.encStr:=by
 apply List.ext_getElem
 .simp [Go.Sort.putCells];omega
 .intro i h1 h2;have hi:i<s.length:=by simpa using h2
  simp only[Go.Sort.putCells,List.getElem_take,Array.getElem_toList,Array.getElem_mapIdx,List.getElem_map];rw[aVs (by simp;exact hi)];simp [hi]
theorem a2h:xR Tryz.prog 88 XR/\∀F,some XS=some F->WY Tryz.prog 88 F:=by
 refine⟨⟨fun _ _=>rfl,fun g w args vals L r _ _ hC _=>by cases hC⟩,fun F hF=> ?_⟩;cases hF;intro g w e t l l' v n xs hT hown hF hl hn hf;cases t with
 |str=>
  have hf:sN l=l':=aVx hf;subst hf;subst hl;have hlen:(sN l).length=l.length:=by simp [sN]
  obtain⟨hx,⟨rfl,h0⟩ |⟨b,cap,cur,rfl,hb0,hbk,hnc,hcm,hcs,htk⟩⟩:=hown
  .obtain rfl:l=[]:=aW1.1 h0;refine(Any.slices_Sort_string_none Tryz.lays190 none 0 w).mono ?_;rintro en w' ⟨rfl,rfl⟩;exact⟨rfl,hlen,[],⟨rfl,.inl ⟨rfl,rfl⟩⟩,by simp [sN,uE],⟨rfl,rfl,rfl,aVR _,fun _ _ _=>rfl⟩⟩
  .have hxs:=a2g hF;subst hxs;have hc1:(Ty.str).cells=1:=rfl;rw[hc1,aXg] at hcs htk;have hbl:b<w.heap.size:=by
    rcases aWA b w.heap.size with h|h
    .exact h
    .rw[Array.getElem?_eq_none h] at hbk;cases hbk
   have hH:Go.Sort.Holds Go.Proofs.encStr w b 0 l.toArray:=by
    intro j hj;have hj':j<l.length:=by simpa using hj
    refine⟨?_,Lib.frozen_of_heap hbk _⟩;rw[Lib.cell_of_heap hbk,aV5];have h2:(cur.toList.take l.length)[j]? =(l.map Go.Proofs.encStr)[j]? :=by rw[htk]
    rw[aWI hj',aWB] at h2;rw[h2];simp [hj']
   refine(Any.slices_Sort_string Tryz.lays190 b 0 cap l w hH hbl hn).mono ?_;rintro en w' ⟨rfl,m,os,rfl⟩;have hsz:(sN l).length<=cur.size:=by rw[hlen,hcs];exact hnc
   have hnew:(Go.Sort.grow (Go.Sort.putRow Go.Proofs.encStr (Go.Sort.ahead w m) b 0 (sN l).toArray) os).heap[b]? =some (.cells (Go.Sort.putCells Go.Proofs.encStr 0 (sN l).toArray cur) e (0,0)):=by
    rw[Go.Sort.heap_grow_old _ _ (by simpa using hbl)];simp [Go.Sort.putRow,Go.Sort.mapBlock,aWJ,hbk,Go.Sort.onCells]
   refine⟨rfl,hlen,(sN l).map Go.Proofs.encStr,⟨by simp [hlen,hc1],.inr ⟨b,cap,_,rfl,hb0,hnew,hnc,hcm,?_,?_⟩⟩,XT _,⟨rfl,rfl,rfl,by simp,fun k hk hne=> ?_⟩⟩
   .rw[hc1,aXg];simpa[Go.Sort.putCells] using hcs
   .rw[hc1,aXg,<-hlen];exact aEG _ _ hsz
   .rw[Go.Sort.heap_grow_old _ _ (by simpa using hk)];have hkb:b≠k:=fun h=>hne (by rw[h];rfl);simp [Go.Sort.putRow,Go.Sort.mapBlock,aWJ,hkb]
 |_=>cases hf
def yY (s c:pD):Int:=Lib.index s c
@[go_sem] def S2:List qC->List qB->Option qI
 |[(.val .ref (some (0,0)),none)],[.cells (.pair .mref (.pair (.list (.int .u8)) .unit)) ((some (0,0)),O) [(1,1)],.grow Z 1 aA]=>some ⟨[aA=List.length O.1],[],[.cells (.pair .mref (.pair (.list (.int .u8)) .unit)) ((some (0,0)),O) [(1,1)],.grow Z 1 aA]⟩
 |_,_=>none
theorem aNY {g:Gh}{w:pR}{L:List qB}{e:qT}{w':pR}{u v:pS}{r:qI}(hE:sI g w (qR 0 L) e g w' u)
  (hH: ∀i,qE (qR 0 r.H) i=qE (qY e.upd (qR 0 L)) i) (hin: ∀i,i∈qH e.upd->i<L.length) (hlen:r.H.length=L.length)
  (hp: ∀i blk b o,r.H[i]? =some blk->sG g i blk b o->w.heap.size<=b\/yX g (qR 0 L) b o)
  (hty: ∀(i:Nat) t x ts u y us,L[i]? =some (.cells t x ts)->r.H[i]? =some (.cells u y us)->u=t)
  (hret:RJ g w' r.ret v):EL g w L r g w' v:=
 ⟨fun b o h=>⟨h,hE.le.cell b o h⟩,hE.heap.ext hH,hret,hE.fr.mono fun b o ⟨i,blk,_,h1,h2⟩=>⟨i,blk,h1,h2⟩,hp,fun _ _ _ _ _=>rfl,hty,fun _ _ _ h=>h,fun _ _ _ _ h=>h⟩
theorem aNZ {P:Program}{ρ:Go.Shelf.Ren}(L:Lays.n240 P ρ) (X:Builder.X72 P ρ) {e:TypeId}(b:Nat) (w:pR) (h0:w.cell? ⟨b,0,none⟩=some (.pointer none)) (hsh:w.shape? b=some (e,2)) (hl:liesAt P P.depth e (2/P.cellsOf e) 0 (ρ.t 72) 1=true) (hfz:w.frozen? ⟨b,0,none⟩=false):
  Calls P (ρ.f 240) #[.pointer (some ⟨b,0,none⟩)] w fun en w'=>en= .returned (.tuple #[])/\w'=w.setCell ⟨b,0,none⟩ (.pointer (some ⟨b,0,none⟩)):=by
 obtain⟨j,hj,hjs⟩:=aVA.1 X.sizeBuilder;have mixed:=L.mixed;have t72:=L.t72;have a72:=L.a72;have z72:=L.z72;have v72:=L.v72;have u72:=aVP L.t72;have t70:=L.t70;have a70:=L.a70;have z70:=L.z70;have v70:=L.v70;have u70:=aVP L.t70;have t9:=L.t9;have a9:=L.a9;have z9:=L.z9;have v9:=L.v9;have u9:=aVP L.t9;have t4:=L.t4;have a4:=L.a4;have z4:=L.z4;have v4:=L.v4;have u4:=aVP L.t4;have t164:=L.t164;have a164:=L.a164;have z164:=L.z164;have v164:=L.v164;have u164:=aVP L.t164
 go_enter L.f240,Body.n240_ntmps ρ
 go_wp2
 rw[Lib.run_to_unsafe w ⟨b,0,none⟩ L.t70 L.t164 hj (by rw[hjs];decide) hsh (Nat.zero_lt_succ 1)];simp only[Result.andThen];rw[Oper.upon_value]
 go_wp2
 rw[run_callFunc_extern L.f276 pU pU pU (e:=Extern.AbiNoEscape.same) pU];rw[Lib.run_noEscape];simp only[Result.andThen];rw[Oper.upon_value]
 go_wp2
 rw[Lib.run_from_unsafe w ⟨b,0,none⟩ L.t164 L.t70 hj hsh hl];simp only[Result.andThen];rw[Oper.upon_value]
 go_wp2
 go_end0
 exact⟨rfl,rfl⟩
theorem a2i:xR Tryz.prog 58 S2:=by
 refine⟨fun _ _=>rfl,fun g w args vals L r hH ha hC hs=> ?_⟩;unfold S2 at hC;split at hC
 .rename_i O Z aA;cases hC;obtain⟨va,_,rfl,ra,hv⟩:=ha;cases hv;have hg0:qE (qR 0 [qB.cells (.pair .mref (.pair (.list (.int .u8)) .unit)) ((some (0,0)),O) [(1,1)],.grow Z 1 aA]) 0=some (.cells (.pair .mref (.pair (.list (.int .u8)) .unit)) ((some (0,0)),O) [(1,1)]):=rfl;obtain⟨p,cs,hJ,hR,hra,hth,hns,htk⟩:=hH.blk 0 _ hg0;obtain⟨c1,c2,rfl,hR1,hR2⟩:=hR;obtain⟨p',hJ',⟨hp0,eb,heb,hk3⟩,hc1⟩:=hR1;rw[hJ] at hJ';obtain rfl:=aVx hJ';obtain⟨b,o,k⟩:=p;have ho:o=0:=by simpa using hp0
  subst ho;have hlies:liesAt Tryz.prog Tryz.prog.depth eb (2/Tryz.prog.cellsOf eb) 0 73 1=true:=by
   unfold a0s at heb;split at heb
   .rename_i h;subst h;kernel_rfl
   .split at heb
    .rename_i h;subst h;kernel_rfl
    .cases heb
  have hva:va= .pointer (some ⟨b,0,none⟩):=by
   obtain⟨q,hq,e⟩:=A6 ra.1;rw[hJ] at hq;cases hq;exact e
  subst hva;have hsh:w.shape? b=some (eb,2):=hth.2 pH _ hk3;rcases hc1 with rfl|rfl
  .have h0:w.cell? ⟨b,0,none⟩=some (.pointer none)/\w.frozen? ⟨b,0,none⟩=false:=⟨hra 0 _ rfl,(hth.1 0 pH).2⟩;refine(aNZ Tryz.lays240 Tryz.builderX72 b w h0.1 hsh hlies h0.2).mono ?_;rintro en w' ⟨rfl,rfl⟩;refine⟨_,g,rfl,?_⟩;have hE:=sI.store (side:=[]) (rds:=[]) hH (i:=0) (t:= .mref) (y:=some (0,0)) (off:=0) (k:=none) (p:=⟨b,0,k⟩) (cy:=[.pointer (some ⟨b,0,none⟩)]) (v:= .pointer (some ⟨b,0,none⟩)) hg0 hJ (z:=((some (0,0)),O)) pV ⟨_,hJ,⟨rfl,_,heb,hk3⟩,.inr rfl⟩ trivial (fun _ _ h=>by cases h) (fun _=>rfl);refine aNY hE.1 ?_ ?_ rfl ?_ ?_ ?_
   .intro i
    match i with
    |0=>rfl
    |1=>rfl
    |i+2=>rfl
   .intro i hi;simp [qH] at hi;subst hi;exact Nat.zero_lt_succ _
   .intro i blk b o hi ho;exact .inr ⟨i,blk,by rw[WX];simpa using hi,ho⟩
   .intro i t x ts u y us h1 h2;rw[h1] at h2;cases h2;rfl
   .exact⟨[],rfl,rfl⟩
  .have h0:w.cell? ⟨b,0,none⟩=some (.pointer (some ⟨b,0,none⟩)):=hra 0 _ rfl;refine(Any.Builder_copyCheck_used Tryz.lays240 Tryz.builderX72 b w h0).mono ?_;rintro en w' ⟨rfl,rfl⟩;refine⟨_,g,rfl,⟨fun b o h=>⟨h,rfl⟩,hH,⟨[],rfl,rfl⟩,Fr.refl _ _ _,?_,fun _ _ _ _ _=>rfl,?_,fun _ _ _ h=>h,fun _ _ _ _ h=>h⟩⟩
   .intro i blk b o hi ho;exact .inr ⟨i,blk,by rw[WX];simpa using hi,ho⟩
   .intro i t x ts u y us h1 h2;rw[h1] at h2;cases h2;rfl
 .cases hC
theorem aEH {P:Program}(w:pR): ∀(l:pM) (a:Addr) (acc:ByteArray),(∀j x,l[j]? =some x->w.cell? (a.add j)=some (.int .u8 x))->
  (loadBytes a acc l.length).run P w= .ok ⟨acc.data++(uA l).toArray⟩ w
 |[],a,acc,_=>by simp [loadBytes,uA]
 |x::l,a,acc,h=>by
  have h0:w.cell? a=some (.int .u8 x):=by
   have:=h 0 x rfl;simpa[Addr.add] using this
  have ih:=aEH (P:=P) w l (a.add 1) (acc.push (UInt8.ofNat x.toNat)) (fun j y hy=>by
   have:=h (j+1) y (by simpa using hy);have e:(a.add 1).add j=a.add (j+1):=by
    unfold Addr.add;by_cases hj:j=0
    .subst hj;simp
    .simp [hj];omega
   rw[e];exact this)
  have hx:x.toNat.toUInt8=UInt8.ofNat x.toNat:=rfl;simp only[aVw,loadBytes,aVM,run_load,h0,Result.andThen,hx];rw[ih];congr 1;apply ByteArray.ext;simp [ByteArray.push,uA]
theorem aN0 {P:Program}(w:pR) (pt it ty e:TypeId) (hp:P.underlying pt=some (.pointer e)) (hc:P.cellsOf e=1) (g cells:Nat) (hsh:w.shape? g=some (e,cells)) (l:pM) (h0:l≠[]) (hn:l.length<=cells) (h63:l.length<=9223372036854775807)
  (hcell: ∀j x,l[j]? =some x->w.cell? ((⟨g,0,none⟩:Addr).add j)=some (.int .u8 x)):
  (Builtin.unsafeString_ #[pt,it] ty #[.pointer (some ⟨g,0,none⟩),.int .i64 l.length]).run P w= .ok (.string ⟨(uA l).toArray⟩) (w.freeze ⟨g,0,none⟩ l.length):=by
 have hl:l.length≠0:=by simpa using h0
 have hlb:=aEH (P:=P) w l ⟨g,0,none⟩ .empty hcell;have hlies:=Lib.liesAt_bytes (P:=P) hc (cells/P.cellsOf e) l.length (by rw[hc];simpa using hn);have h63': ¬(9223372036854775807:Int)<(l.length:Int):=by omega
 have hdef:Builtin.unsafeString_ #[pt,it] ty #[.pointer (some ⟨g,0,none⟩),.int .i64 l.length]=
   (do
    let n<-asInt (.int .i64 l.length)
    if n<0 then runtimePanic (.error "unsafe.String: len out of range")
    if n>IntKind.i64.max then unsupported (.unsafePointer "String: a length above the largest int")
    if n=0 then pure (.string .empty)
    else if<-variablesAt ⟨g,0,none⟩ (<-elemOf pt) n.toNat then do
     let s<-loadBytes ⟨g,0,none⟩ .empty n.toNat
     freeze ⟨g,0,none⟩ n.toNat
     pure (.string s)
    else unsupported (.unsafePointer "String: not so many bytes at ptr")):=rfl
 rw[hdef];have hmax:IntKind.i64.max=9223372036854775807:=rfl;have hneg: ¬(l.length:Int)<0:=by omega
 simp [asInt,asIntOf,hmax,h63',hneg,hl,variablesAt,hsh,elemOf,aVP hp,hlies,hlb]
theorem a2j {P:Program}{ρ:Go.Shelf.Ren}(L:Lays.n169 P ρ) (X:Builder.Extra P ρ) (b n cap:Nat) (a q:Option Addr) (s:ByteArray) (w w2:pR)
  (c1:w.drew.cell? ⟨b,1,none⟩=some (.slice a n cap)) (hSD:(Builtin.unsafeSliceData_ #[(ρ.t 37)] (ρ.t 127) #[.slice a n cap]).run P w.drew= .ok (.pointer q) w.drew)
  (hUS:(Builtin.unsafeString_ #[(ρ.t 127),(ρ.t 3)] (ρ.t 9) #[.pointer q,.int .i64 n]).run P w.drew= .ok (.string s) w2):
  Calls P (ρ.f 169) #[.pointer (some ⟨b,0,none⟩)] w fun e w'=>e= .returned (.string s)/\w'=w2:=by
 have mixed:=L.mixed;have t72:=L.t72;have a72:=L.a72;have z72:=L.z72;have v72:=L.v72;have u72:=aVP L.t72;have t70:=L.t70;have a70:=L.a70;have z70:=L.z70;have v70:=L.v70;have u70:=aVP L.t70;have t37:=L.t37;have a37:=L.a37;have z37:=L.z37;have v37:=L.v37;have u37:=aVP L.t37;have t127:=L.t127;have a127:=L.a127;have z127:=L.z127;have v127:=L.v127;have u127:=aVP L.t127;have t3:=L.t3;have a3:=L.a3;have z3:=L.z3;have v3:=L.v3;have u3:=aVP L.t3;have t9:=L.t9;have a9:=L.a9;have z9:=L.z9;have v9:=L.v9;have u9:=aVP L.t9;have t5:=X.t5;have a5:=X.a5;have z5:=X.z5;have v5:=X.v5;have u5:=aVP X.t5
 go_enter L.f169,Body.n169_ntmps ρ
 go_wp2
 go_region_o
 all_goals (go_wp2;go_ret;exact⟨rfl,rfl⟩)
theorem aN1 {P:Program}{ρ:Go.Shelf.Ren}(L:Lays.n169 P ρ) (X:Builder.Extra P ρ) (b g:Nat) (cur:Array pS) (w:pR) (hlt:b<w.heap.size)
  (c1:w.drew.cell? ⟨b,1,none⟩=some (.slice (some ⟨g,0,none⟩) 0 0)) (hg:w.drew.heap[g]? =some (.cells cur (ρ.t 5) (0,0))):
  Calls P (ρ.f 169) #[.pointer (some ⟨b,0,none⟩)] w fun e w'=>e= .returned (.string ⟨#[]⟩)/\w'=w.drew.alloc (.view ⟨g,0,none⟩ (ρ.t 5)):=by
 have hUS:=Any.unsafeString_none L X;have hSD:(Builtin.unsafeSliceData_ #[(ρ.t 37)] (ρ.t 127) #[.slice (some ⟨g,0,none⟩) 0 0]).run P w.drew= .ok (.pointer (some ⟨w.drew.heap.size,0,none⟩)) (w.drew.alloc (.view ⟨g,0,none⟩ (ρ.t 5))):=
  Lib.run_unsafeSliceData_zero w.drew _ _ (ρ.t 5) L.t127 ⟨g,0,none⟩ 0 ((ρ.t 5),cur.size) (by simp [World.shape?,hg])
 have c2:(w.drew.alloc (.view ⟨g,0,none⟩ (ρ.t 5))).cell? ⟨b,1,none⟩=some (.slice (some ⟨g,0,none⟩) 0 0):=
  (aVT (a:=⟨b,1,none⟩) (Lib.alloc_old w.drew _ b hlt)).trans c1
 have c3:(w.alloc (.view ⟨g,0,none⟩ (ρ.t 5))).drew.cell? ⟨b,1,none⟩=some (.slice (some ⟨g,0,none⟩) 0 0):=c2;have c0:w.cell? ⟨b,1,none⟩=some (.slice (some ⟨g,0,none⟩) 0 0):=c1;have mixed:=L.mixed;have t72:=L.t72;have a72:=L.a72;have z72:=L.z72;have v72:=L.v72;have u72:=aVP L.t72;have t70:=L.t70;have a70:=L.a70;have z70:=L.z70;have v70:=L.v70;have u70:=aVP L.t70;have t37:=L.t37;have a37:=L.a37;have z37:=L.z37;have v37:=L.v37;have u37:=aVP L.t37;have t127:=L.t127;have a127:=L.a127;have z127:=L.z127;have v127:=L.v127;have u127:=aVP L.t127;have t3:=L.t3;have a3:=L.a3;have z3:=L.z3;have v3:=L.v3;have u3:=aVP L.t3;have t9:=L.t9;have a9:=L.a9;have z9:=L.z9;have v9:=L.v9;have u9:=aVP L.t9;have t5:=X.t5;have a5:=X.a5;have z5:=X.z5;have v5:=X.v5;have u5:=aVP X.t5
 go_enter L.f169,Body.n169_ntmps ρ
 go_wp2
 go_region_o
 all_goals (go_wp2;go_ret;exact⟨rfl,rfl⟩)
@[go_sem] def S3:List qC->List qB->Option qI
 |[(.val .ref (some (0,0)),none)],[.cells (.pair .mref (.pair (.list (.int .u8)) .unit)) ((some (0,0)),O) [(1,1)],.grow 5 1 Z]=>some ⟨[Z=List.length O.1],[(.val .str (uA O.1),none)],[.cells (.pair .mref (.pair (.list (.int .u8)) .unit)) ((some (0,0)),O) [],.dead]⟩
 |_,_=>none
theorem a2k {g:Gh}{w w':pR}{m:pO}{b:(Ty.pair (.list (.int .u8)) .unit).den}{e n:Nat}{s:pD}{sd:List Prop}(hH:sL g w (qR 0 [qB.cells (.pair .mref (.pair (.list (.int .u8)) .unit)) (m,b) [(1,1)],.grow e 1 n]))
  (hos:w'.os=w.os) (htape:w'.tape=w.tape) (hout:w'.output=w.output) (hsz:w.heap.size<=w'.heap.size)
  (hcell: ∀b o,b<w.heap.size->w'.cell? ⟨b,o,none⟩=w.cell? ⟨b,o,none⟩) (hshape: ∀b s,w.shape? b=some s->w'.shape? b=some s)
  (hblk: ∀b,b<w.heap.size->(∀o,¬sG g 1 (.grow e 1 n) b o)->w'.heap[b]? =w.heap[b]?):
  EL g w [qB.cells (.pair .mref (.pair (.list (.int .u8)) .unit)) (m,b) [(1,1)],.grow e 1 n] ⟨sd,[(.val .str s,none)],[.cells (.pair .mref (.pair (.list (.int .u8)) .unit)) (m,b) [],.dead]⟩ g w' (.string ⟨s.toArray⟩):=by
 have hg0:qE (qR 0 [qB.cells (.pair .mref (.pair (.list (.int .u8)) .unit)) (m,b) [(1,1)],.grow e 1 n]) 0=some (.cells (.pair .mref (.pair (.list (.int .u8)) .unit)) (m,b) [(1,1)]):=rfl;have hg1:qE (qR 0 [qB.cells (.pair .mref (.pair (.list (.int .u8)) .unit)) (m,b) [(1,1)],.grow e 1 n]) 1=some (.grow e 1 n):=rfl;have hle:Le g w g w':=⟨fun _ _ h=>h,fun b o h=>hcell b o (hH.sl b o h),fun _ _ h=>h,fun _ _ _ h=>h⟩;have hno: ∀c o,sG g 0 (.cells (.pair .mref (.pair (.list (.int .u8)) .unit)) (m,b) [(1,1)]) c o->∀o',¬sG g 1 (.grow e 1 n) c o':=fun c o h o' h'=>by
  obtain⟨v,hv,hb⟩:=h';exact hH.dis 0 1 _ _ c o pH hg0 hg1 h ⟨v,hv,hb⟩
 obtain⟨p,cs,hJ,hR,hra,hth,hns,htk⟩:=hH.blk 0 _ hg0;have hown0: ∀j,j<2->sG g 0 (.cells (.pair .mref (.pair (.list (.int .u8)) .unit)) (m,b) [(1,1)]) p.1 (p.2+j):=fun j hj=>⟨p,hJ,rfl,Nat.le_add_right _ _,Nat.add_lt_add_left hj _⟩;have hpl:p.1<w.heap.size:=NX (hH.blk 0 _ hg0) (hown0 0 pH);have hpb:w'.heap[p.1]? =w.heap[p.1]? :=hblk p.1 hpl (hno p.1 _ (hown0 0 pH));have hbk0:AM g w' 0 (.cells (.pair .mref (.pair (.list (.int .u8)) .unit)) (m,b) []):=
  ⟨p,cs,hJ,xZ hle hR,fun j v hj=>(hcell _ _ hpl).trans (hra j v hj),⟨fun j hj=>by
   have h1:=hth.1 j hj;rw[hcell _ _ hpl];exact⟨h1.1,(aWm (a:=⟨p.1,p.2+j,none⟩) hpb).trans h1.2⟩,fun h s hs=>hshape _ _ (hth.2 h s hs)⟩,hns,fun _ _ h=>by cases h⟩
 refine⟨fun b o h=>⟨h,hcell b o (hH.sl b o h)⟩,?_,(show rX g w' (.val .str s,none) (.string ⟨s.toArray⟩) from⟨BR _ _ _,trivial⟩),⟨hos,htape,hout,hsz,?_,?_,fun _ _ h=> .inl h,fun b s h=> .inl (hshape b s h)⟩,?_,fun _ _ _ _ _=>rfl,?_,fun _ _ _ h=>h,fun _ _ _ _ h=>h⟩
 .refine⟨fun i blk h=> ?_,fun i j bi bj c o hij hi hj hoi hoj=> ?_,fun b o h=>aV7 (hH.sl b o h) hsz,KY hH.tab.1 hsz (fun c hc=>hblk c (aV7 hc hH.tab.1.1) fun o ho=>absurd (hH.tab.2 1 _ c o hg1 ho) pG),fun i blk c o h ho=> ?_⟩
  .match i,h with
   |0,h=>cases h;exact hbk0
   |1,h=>cases h;trivial
   |i+2,h=>simp [qR,qE] at h
  .match i,j,hi,hj with
   |0,0,_,_=>exact hij rfl
   |0,1,_,hj=>cases hj;exact hoj
   |1,_,hi,_=>cases hi;exact hoi
   |0,j+2,_,hj=>simp [qR,qE] at hj
   |i+2,_,hi,_=>simp [qR,qE] at hi
  .match i,h with
   |0,h=>cases h;exact hH.tab.2 0 _ c o hg0 ho
   |1,h=>cases h;exact ho.elim
   |i+2,h=>simp [qR,qE] at h
 .intro c hc hn;exact hblk c hc fun o ho=>hn o ⟨1,_,hg1,ho⟩
 .intro c o hc hn;exact⟨hcell c o hc,aWm (a:=⟨c,o,none⟩) (hblk c hc fun o' ho=>hn ⟨1,_,hg1,by obtain⟨v,hv,hb⟩:=ho;exact⟨v,hv,hb⟩⟩)⟩
 .intro i blk c o hi ho
  match i,hi with
  |0,hi=>cases hi;exact .inr ⟨0,_,hg0,ho⟩
  |1,hi=>cases hi;exact ho.elim
  |i+2,hi=>simp at hi
 .intro i t x ts u y us h1 h2
  match i,h1,h2 with
  |0,h1,h2=>cases h1;cases h2;rfl
  |1,h1,_=>cases h1
  |i+2,h1,_=>simp at h1
theorem aN2 (w:pR) (a p:Addr) (n:Nat):(w.freeze a n).cell? p=w.cell? p:=by
 unfold World.freeze;split
 .rfl
 .simp only[World.cell?,aWJ];by_cases h:a.block=p.block
  .rw[aVs h];cases w.heap[p.block]? with
   |none=>rfl
   |some o=>cases o<;>rfl
  .rw[aVv h]
theorem aN3 (w:pR) (a:Addr) (n b:Nat):(w.freeze a n).shape? b=w.shape? b:=by
 unfold World.freeze;split
 .rfl
 .simp only[World.shape?,aWJ];by_cases h:a.block=b
  .rw[aVs h];cases w.heap[b]? with
   |none=>rfl
   |some o=>cases o<;>rfl
  .rw[aVv h]
theorem aN4 (w:pR) (a:Addr) (n b:Nat) (h:b≠a.block):(w.freeze a n).heap[b]? =w.heap[b]? :=by
 unfold World.freeze;split
 .rfl
 .simp only[aWJ];rw[aVv (Ne.symm h)]
theorem aN5 (w:pR) (a:Addr) (n:Nat):(w.freeze a n).os=w.os/\(w.freeze a n).tape=w.tape/\(w.freeze a n).output=w.output/\(w.freeze a n).heap.size=w.heap.size:=by
 unfold World.freeze;split
 .exact⟨rfl,rfl,rfl,rfl⟩
 .exact⟨rfl,rfl,rfl,by simp⟩
theorem aEI {g:Gh}{w:pR}{b:Nat}: ∀{l:pM}{o:Nat},zG (Rd g w (.int .u8)) w g.S 1 b o l->∀j x,l[j]? =some x->w.cell? ⟨b,o+j,none⟩=some (.int .u8 x)
 |[],_,_,_,_,h=>by cases h
 |y::l,o,⟨⟨cs,_,hra,_,hR⟩,hl⟩,j,x,h=>by
  match j,h with
  |0,h=>
   cases h;have hR:cs=[.int .u8 y]:=hR;subst hR;exact hra 0 _ rfl
  |j+1,h=>
   have:=aEI hl j x (by simpa using h);rw[show o+(j+1)=o+1+j by omega];exact this
theorem aN6 {u:Ty}{m:pO}{bv:(Ty.pair (.list (.int .u8)) .unit).den}{l:List u.den}(hget:rK (.list u) (.pair .mref (.pair (.list (.int .u8)) .unit)) (m,bv) 1=some l):l.length=bv.1.length:=by
 have h2:rK (.list u) (.list (.int .u8)) bv.1 0=some l:=hget;simp only[rK] at h2;split at h2
 .rename_i h;injection h with h
  subst h;cases h2;rfl
 .cases h2
theorem a2l:xR Tryz.prog 31 S3:=by
 refine⟨fun _ _=>rfl,fun g w args vals L r hH ha hC hs=> ?_⟩;unfold S3 at hC;split at hC
 .rename_i bv n;cases hC;obtain rfl:n=List.length bv.1:=hs _ pI;obtain⟨va,_,rfl,ra,hv⟩:=ha;cases hv;have hg0:qE (qR 0 [qB.cells (.pair .mref (.pair (.list (.int .u8)) .unit)) ((some (0,0)),bv) [(1,1)],.grow 5 1 (List.length bv.1)]) 0=some (.cells (.pair .mref (.pair (.list (.int .u8)) .unit)) ((some (0,0)),bv) [(1,1)]):=rfl;have hg1:qE (qR 0 [qB.cells (.pair .mref (.pair (.list (.int .u8)) .unit)) ((some (0,0)),bv) [(1,1)],.grow 5 1 (List.length bv.1)]) 1=some (.grow 5 1 (List.length bv.1)):=rfl;obtain⟨p,cs,hJ,hR,hra,hth,hns,htk⟩:=hH.blk 0 _ hg0;obtain⟨v',xs,hv',hown,hmax,hsl⟩:=hH.blk 1 _ hg1;obtain⟨c1,c2,rfl,hR1,hR2⟩:=hR;obtain⟨d1,d2,rfl,⟨a,cap,rfl,hcap,hl⟩,hd2⟩:=hR2;obtain⟨p',hJ',⟨hp0,_,_,_⟩,hc1⟩:=hR1;rw[hJ] at hJ';obtain rfl:=aVx hJ';obtain⟨b,o,k⟩:=p;have ho:o=0:=by simpa using hp0
  subst ho;have hlen1:c1.length=1:=by rcases hc1 with rfl|rfl<;>rfl
  obtain⟨q,hq,hva⟩:=A6 ra.1;rw[hJ] at hq;cases hq;subst hva;have hcell1:w.cell? ⟨b,1,none⟩=some (.slice a bv.1.length cap):=hra 1 _ (by rw[aVI pG,hlen1];rfl);obtain⟨u,l,v,hget,hcv,hcur⟩:=htk 1 1 pI;have hvv:v= .slice a bv.1.length cap:=by
   rw[aVI pG,hlen1] at hcv;exact(aVx hcv).symm
  have hll:l.length=bv.1.length:=aN6 hget;rw[hll,hv',hvv] at hcur;obtain rfl:=aVx hcur;have hbl:b<w.heap.size:=WP hcell1;have hdr: ∀(s:pD) (sd:List Prop),EL g w _ ⟨sd,[(.val .str s,none)],[.cells (.pair .mref (.pair (.list (.int .u8)) .unit)) ((some (0,0)),bv) [],.dead]⟩ g w.drew (.string ⟨s.toArray⟩):=fun s sd=>
   a2k hH rfl rfl rfl (aVR _) (fun _ _ _=>rfl) (fun _ _ h=>h) (fun _ _ _=>rfl)
  obtain⟨hx,⟨hnil,h0⟩ |⟨gb,cap',cur,hsl',hb0,hbk,hnc,hcm,hcs,htake⟩⟩:=hown
  .have hb0:bv.1=[]:=aW1.1 h0;have hz:uA bv.1=[]:=by rw[hb0];rfl
   have hl0:List.length bv.1=0:=h0;injection hnil with e1 e2 e3
   subst e1;subst e3;refine(a2j Tryz.lays169 Tryz.builderExtra b bv.1.length 0 none none .empty w w.drew hcell1 rfl (by rw[hl0];exact Any.unsafeString_none Tryz.lays169 Tryz.builderExtra w.drew none)).mono ?_;rintro e w' ⟨rfl,rfl⟩;exact⟨_,g,rfl,by rw[hz];exact hdr [] _⟩
  .injection hsl' with e1 e2 e3
   subst e1;subst e3;have hsz:bv.1.length<=cur.size:=by omega
   by_cases hb0:bv.1=[]
   .have hz:uA bv.1=[]:=by rw[hb0];rfl
    have hl0:List.length bv.1=0:=by rw[hb0];rfl
    by_cases hc0:cap=0
    .subst hc0;rw[hl0] at hcell1;refine(aN1 Tryz.lays169 Tryz.builderExtra b gb cur w hbl hcell1 hbk).mono ?_;rintro e w' ⟨rfl,rfl⟩;have hold: ∀c,c<w.heap.size->(w.drew.alloc (.view ⟨gb,0,none⟩ 5)).heap[c]? =w.heap[c]? :=fun c hc=>Lib.alloc_old w.drew _ c hc;refine⟨_,g,rfl,?_⟩;rw[hz];exact a2k hH rfl rfl rfl pI (fun c o hc=>aVT (a:=⟨c,o,none⟩) (hold c hc)) (fun c s h=>(CP (hold c (CO h))).trans h) (fun c hc _=>hold c hc)
    .refine(a2j Tryz.lays169 Tryz.builderExtra b bv.1.length cap (some ⟨gb,0,none⟩) (some ⟨gb,0,none⟩) .empty w w.drew hcell1 (Lib.run_unsafeSliceData_row _ _ _ _ _ _ hc0) (by rw[hl0];exact Any.unsafeString_none Tryz.lays169 Tryz.builderExtra w.drew _)).mono ?_;rintro e w' ⟨rfl,rfl⟩;exact⟨_,g,rfl,by rw[hz];exact hdr [] _⟩
   .have hcap0:cap≠0:=fun h=>hb0 (aW1.1 pG);have hcb: ∀j x,bv.1[j]? =some x->w.cell? ⟨gb,j,none⟩=some (.int .u8 x):=by
     rcases hl with hl|⟨b',o',ha',hl⟩
     .exact absurd hl hb0
     .cases ha';intro j x hj;have:=aEI hl j x hj;rwa [aV5] at this
    have hbk':w.drew.heap[gb]? =some (.cells cur 5 (0,0)):=hbk;have hshp:w.drew.shape? gb=some (5,cur.size):=by simp only[World.shape?,hbk']
    refine(a2j Tryz.lays169 Tryz.builderExtra b bv.1.length cap (some ⟨gb,0,none⟩) (some ⟨gb,0,none⟩) ⟨(uA bv.1).toArray⟩ w (w.drew.freeze ⟨gb,0,none⟩ bv.1.length) hcell1 (Lib.run_unsafeSliceData_row _ _ _ _ _ _ hcap0)
     (aN0 w.drew _ _ _ 5 (Tryz.lays169).t127 (Tryz.builderExtra).cellsByte gb cur.size hshp bv.1 hb0 hsz (by unfold maxLen at hcm;omega) (fun j x h=>by rw[aWS,aV5];exact hcb j x h))).mono ?_
    rintro e w' ⟨rfl,rfl⟩;refine⟨_,g,rfl,?_⟩;have hblk: ∀c,(∀o,¬sG g 1 (.grow 5 1 (List.length bv.1)) c o)->(w.drew.freeze ⟨gb,0,none⟩ bv.1.length).heap[c]? =w.heap[c]? :=fun c hc=>aN4 w.drew _ _ c fun e=>hc 0 ⟨_,hv',by rw[e];rfl⟩;have hr:=aN5 w.drew ⟨gb,0,none⟩ bv.1.length;refine a2k hH hr.1 hr.2.1 hr.2.2.1 (aW6 hr.2.2.2.symm) (fun c o _=>aN2 w.drew _ _ _) (fun c s h=>(aN3 w.drew _ _ c).trans h) (fun c _ hc=>hblk c hc)
 .cases hC
theorem aEJ:uF Tryz.prog 111 ⟨(.pair .str (.pair .str .unit)),0,0,false,[]⟩:=⟨pU,(show ((_/\∃_,_/\_)\/_)/\_ from⟨.inl ⟨rfl,_,Tryz.underlying111,(show _/\_/\_/\_ from⟨rfl,pU,pU,(show _/\_/\_/\_ from⟨rfl,pU,pU,trivial⟩)⟩)⟩,(fun h=>absurd h pH)⟩)⟩
theorem XU {P:Program}(w:pR) (dT sT ty elem:TypeId) (sz g o dLen dCap:Nat) (a:Addr) (sLen sCap:Nat) (cur:Array pS) (t:TypeId) (cs:pN)
  (hu:P.underlying dT=some (.slice elem)) (hs:(P.info? elem).map (·.size)=some sz)
  (hg:w.heap[g]? =some (.cells cur t (0,0))) (hn:cs.length=Nat.min sLen dLen*sz)
  (hsrc: ∀j v,cs[j]? =some v->w.cell? (a.add j)=some v) (hfit:o+cs.length<=cur.size) (h1: ∀v∈cs,v.oneCell'=true):
  (Builtin.copy_ #[dT,sT] ty #[.slice (some ⟨g,o,none⟩) dLen dCap,.slice (some a) sLen sCap]).run P w=
   .ok (goInt (Nat.min sLen dLen:Nat)) (w.setRow g (cur.toList.take o++cs++cur.toList.drop (o+cs.length)).toArray):=by
 have hl:=run_loadCells_list (P:=P) w a cs hsrc;have hst:=run_storeCells_at P g o t cs 0 cur w hg (by simpa using hfit) h1;cases hq:P.info? elem with
 |none=>simp [hq] at hs
 |some i=>
  have hi:i.size=sz:=by simpa[hq] using hs
  simp [Builtin.copy_,aVP hu,Builtin.lenOf,Builtin.firstCells,sizeOf,typeInfo,hq,hi,<-hn,hl,hst]
theorem aN7 {P:Program}(w:pR) (tS tR e:TypeId) (ht:P.underlying tS=some (.slice e)) (size:Nat) (hz: ∀w,(Go.sizeOf e).run P w= .ok size w)
  (a b:Addr) (la ca lb cb:Nat) (hne:a.block≠b.block) (tA tB:TypeId) (kA kB:Nat)
  (hsa:w.shape? a.block=some (tA,kA)) (hkA:kA≠0) (hsb:w.shape? b.block=some (tB,kB)) (hfb: ∀o,w.frozen? ⟨b.block,o,none⟩=false) (hsp:b.spot=none):
  (Extern.SlicesOverlaps.overlaps #[tS,tS] #[tR] #[.slice (some a) la ca,.slice (some b) lb cb]).run P w= .ok (.bool false) w:=by
 have hnb:(a.block != b.block)=true:=by simpa using hne
 have hnb':(a.block==b.block)=false:=by simpa using hne
 have hfb1:w.frozen? b=false:=by
  obtain⟨bb,bo,bs⟩:=b;cases hsp;exact hfb bo
 have hfb2:=hfb kB;change Sem.run P (α:=pS) (do
  let some t:=(#[tS,tS]:Array TypeId)[0]? |stuck "slices.overlaps: no parameter types"
  let .slice elem<-underlying t|stuck "slices.overlaps: slice type expected"
  let size<-sizeOf elem
  match (some a:Option Addr),(some b:Option Addr) with
  |some a,some b=>
   if la=0\/lb=0\/size=0 then pure (Value.bool false)
   else if a.block != b.block&&(<-frozen a)&&(<-frozen b) then unsupported .addressObserved
   else do
    if a.block != b.block then do
     noView a;noView b
     if<-mayBeOne a b then return Value.bool ((<-choose (.extern "sameAddr.stringBytes" 2))==1)
    pure (Value.bool (a.block==b.block&&a.off<b.off+lb*size&&b.off<a.off+la*size))
  |_,_=>pure (Value.bool false)) w=_
 by_cases h0:la=0\/lb=0\/size=0
 .simp [aVP ht,hz,h0]
 .cases kA with
  |zero=>exact absurd rfl hkA
  |succ kA=>
   cases hfa:w.frozen? a<;>cases hfe:w.frozen? {block:=a.block,off:=kA+1}<;>
   simp [aVP ht,hz,h0,hnb,hnb',frozen,noView,viewAt,mayBeOne,stringish,shape,Sem.run,hsa,hsb,hfb1,hfb2,hfa,hfe]
theorem aN8 {α:Type}{l:List α}{i n:Nat}(hin:i<=n):(l.drop (i*2)).take ((n-i)*2)=(l.take (n*2)).drop (i*2):=by
 rw[List.drop_take,show n*2-i*2=(n-i)*2 by omega]
theorem aEK {α:Type}{l:List α}{i n:Nat}{v:α}(h:v∈(l.drop (i*2)).take ((n-i)*2)):v∈l.take (n*2):=by
 rw[show (n-i)*2=n*2-i*2 by omega,<-List.drop_take] at h;exact List.mem_of_mem_drop h
theorem aN9 {cur c1 c2:Array pS}{mid vs:pN}{i n m:Nat}(hc1:c1=(cur.toList.take ((i+m)*2)++mid++cur.toList.drop ((i+m)*2+mid.length)).toArray) (hc2:c2=(c1.toList.take (i*2)++vs++c1.toList.drop (i*2+vs.length)).toArray)
  (hml:mid.length=(n-i)*2) (hvl:vs.length=m*2) (hcur:(n+m)*2<=cur.toList.length) (hin:i<=n):c2.toList.take ((n+m)*2)=cur.toList.take (i*2)++vs++mid:=by
 have e1:c1.toList=cur.toList.take ((i+m)*2)++(mid++cur.toList.drop ((i+m)*2+mid.length)):=by rw[hc1,aVy]
 have l1:(cur.toList.take ((i+m)*2)).length=(i+m)*2:=by rw[aVQ];omega
 have e2:c1.toList.take (i*2)=cur.toList.take (i*2):=by
  rw[e1,aWk pG,List.take_take,Nat.min_eq_left pG]
 have e3:c1.toList.drop (i*2+vs.length)=mid++cur.toList.drop ((i+m)*2+mid.length):=by
  rw[e1,hvl,show i*2+m*2=(cur.toList.take ((i+m)*2)).length by omega,aWW]
 have l2:(cur.toList.take (i*2)).length=i*2:=by rw[aVQ];omega
 have e4:c2.toList=(cur.toList.take (i*2)++vs++mid)++cur.toList.drop ((i+m)*2+mid.length):=by rw[hc2,e2,e3];simp only[aVy]
 rw[e4,show (n+m)*2=(cur.toList.take (i*2)++vs++mid).length by simp only[aVu];omega,aWs]
theorem aOa (b n c i vb voff m vc:Nat) (cur:Array pS) (vs:pN) (w:pR) (hi:i<n) (hm:0<m) (hroom:n+m<=c) (hc63:c<=maxLen) (hvb:vb≠b)
  (hg:w.heap[b]? =some (.cells cur 111 (0,0))) (hcs:cur.size=c*2) (hvl:vs.length=m*2)
  (hvs: ∀j v,vs[j]? =some v->w.cell? ⟨vb,voff+j,none⟩=some v) (h1: ∀v∈cur.toList.take (n*2),v.oneCell'=true) (h1v: ∀v∈vs,v.oneCell'=true):
  Calls Tryz.prog 159 #[.slice (some ⟨b,0,none⟩) n c,.int .i64 i,.slice (some ⟨vb,voff,none⟩) m vc] w fun e w'=>
   e= .returned (.slice (some ⟨b,0,none⟩) (n+m) c)/\∃cur':Array pS,w'=w.drew.setRow b cur'/\cur'.size=cur.size/\cur'.toList.take ((n+m)*2)=cur.toList.take (i*2)++vs++(cur.toList.drop (i*2)).take ((n-i)*2):=by
 have u24:=aVP Tryz.underlying33;have hz1: ¬((m:Int)=0):=by omega
 have hz2: ¬((i:Int)=(n:Int)):=by omega
 have hw1:IntKind.i64.wrap ((i:Int)+(m:Int))=(i:Int)+(m:Int):=by rw[aWP];unfold maxLen at hc63;omega
 have hw2:IntKind.i64.wrap ((n:Int)+(m:Int))=(n:Int)+(m:Int):=by rw[aWP];unfold maxLen at hc63;omega
 have hb1:(0:Int)<=(i:Int)+(m:Int):=by omega
 have hin:i<=n:=by omega
 have htn:((i:Int)+(m:Int)).toNat=i+m:=by omega
 have hb2: ¬(c=i+m):=by omega
 have hb3:(i:Int)<=(n:Int)+(m:Int):=by omega
 have hb4: ¬(c=i):=by omega
 have z144: ∀w,(Go.sizeOf 111).run Tryz.prog w= .ok 2 w:=fun w=>by
  simp only[sizeOf,typeInfo,aVM,aWw,aVC];rfl
 have hsz:(Tryz.prog.info? 111).map (·.size)=some 2:=by kernel_rfl
 have hvs0:w.cell? ⟨vb,voff,none⟩=some (vs[0]'pG):=hvs 0 _ (aVF pG);obtain⟨⟨tA,kA⟩,hsa,hkA⟩: ∃q:TypeId×Nat,w.shape? vb=some q/\q.2≠0:=by
  have h0:=hvs0;simp only[World.cell?] at h0;simp only[World.shape?];cases hh:w.heap[vb]? with
  |none=>rw[hh] at h0;simp at h0
  |some o=>
   rw[hh] at h0;cases o with
   |cells cs e fr=>
    refine⟨(e,cs.size),rfl,fun hz=> ?_⟩;have hz:cs.size=0:=hz;have:cs= #[]:=Array.eq_empty_of_size_eq_zero hz;subst this;simp at h0
   |_=>simp at h0
 have hov: ∀lb cb,(callFunc 192 #[.slice (some ⟨vb,voff,none⟩) m vc,.slice (some ⟨b,(i+m)*2,none⟩) lb cb]).run Tryz.prog w= .ok (.value (.bool false)) w:=fun lb cb=>by
  rw[run_callFunc_extern Tryz.func192 pU pU pU (e:=Extern.SlicesOverlaps.overlaps #[33,33] #[4]) pU,
   aN7 w 33 4 111 Tryz.underlying33 2 z144 ⟨vb,voff,none⟩ ⟨b,(i+m)*2,none⟩ m vc lb cb hvb tA 111 kA cur.size hsa hkA (by simp [World.shape?,hg]) (fun o=>Lib.frozen_of_heap hg _) rfl]
  rfl
 have mixed:Tryz.prog.follows .mixedOrders=true:=by kernel_rfl
 obtain⟨mid,hmid⟩: ∃mid,mid=(cur.toList.drop (i*2)).take ((n-i)*2):=⟨_,rfl⟩;have hml:mid.length=(n-i)*2:=by rw[hmid,aVQ,aVO,aV6];omega
 have hmin1:Nat.min (n+m-i) (n+m- (i+m))=n-i:=by simp only[Nat.min_def];split<;>omega
 have hmin2:Nat.min m (n+m-i)=m:=by simp only[Nat.min_def];split<;>omega
 obtain⟨c1,hc1⟩: ∃c1:Array pS,c1=(cur.toList.take ((i+m)*2)++mid++cur.toList.drop ((i+m)*2+mid.length)).toArray:=⟨_,rfl⟩;have hc1l:c1.size=cur.size:=by rw[hc1];simp only[aWn,aVu,aVQ,aVO,aV6,hml];omega
 obtain⟨c2,hc2⟩: ∃c2:Array pS,c2=(c1.toList.take (i*2)++vs++c1.toList.drop (i*2+vs.length)).toArray:=⟨_,rfl⟩;have hc2l:c2.size=cur.size:=by rw[hc2];simp only[aWn,aVu,aVQ,aVO,aV6,hc1l,hvl];omega
 have hcp1: ∀ty dc sc,(Builtin.copy_ #[33,33] ty #[.slice (some ⟨b,(i+m)*2,none⟩) (n+m- (i+m)) dc,.slice (some ⟨b,i*2,none⟩) (n+m-i) sc]).run Tryz.prog w.drew= .ok (goInt (n-i:Nat)) (w.drew.setRow b c1):=fun ty dc sc=>by
  have h:=XU (P:=Tryz.prog) w.drew 33 33 ty 111 2 b ((i+m)*2) (n+m- (i+m)) dc ⟨b,i*2,none⟩ (n+m-i) sc cur 111 mid Tryz.underlying33 hsz hg (by rw[hml,hmin1]) (fun j v hj=>by
    rw[aXi];rw[hmid,aWL] at hj;split at hj
    .rw[List.getElem?_drop,aWB] at hj;show (w.cell? ⟨b,i*2+j,none⟩)=_;rw[Lib.cell_of_heap hg];exact hj
    .cases hj) (by rw[hml];omega) (fun v hv=>h1 v (aEK (hmid▸hv)))
  rw[h,hmin1,hc1]
 have hg1:(w.drew.setRow b c1).heap[b]? =some (.cells c1 111 (0,0)):=aXp w.drew b cur c1 _ _ hg;have hcp2: ∀ty dc,(Builtin.copy_ #[33,33] ty #[.slice (some ⟨b,i*2,none⟩) (n+m-i) dc,.slice (some ⟨vb,voff,none⟩) m vc]).run Tryz.prog (w.drew.setRow b c1)= .ok (goInt (m:Nat)) ((w.drew.setRow b c1).setRow b c2):=fun ty dc=>by
  have h:=XU (P:=Tryz.prog) (w.drew.setRow b c1) 33 33 ty 111 2 b (i*2) (n+m-i) dc ⟨vb,voff,none⟩ m vc c1 111 vs Tryz.underlying33 hsz hg1 (by rw[hvl,hmin2]) (fun j v hj=>by
    rw[aXi,aVT (w:=w) (a:=⟨vb,voff+j,none⟩) (aW2 w.drew b vb c1 hvb)];exact hvs j v hj) (by rw[hvl,hc1l];omega) h1v
  rw[h,hmin2,hc2]
 have Hmid:=Lib.hid hmid;have Hc1:=Lib.hid hc1;have Hc2:=Lib.hid hc2;have Hs1:=Lib.hid hc1l;have Hs2:=Lib.hid hc2l;have Hml:=Lib.hid hml;clear hmid hc1 hc2 hc1l hc2l hml hmin1 hmin2
 go_enter Tryz.func159,Tryz.ntmps159
 go_wp2_with (simp only[hov])
 go_region_law_o (refine step_copy_runI rfl _ _ 33 33 rfl _ _ (by simp [Act.eval,Act.put]) (by simp [Act.eval,Act.put]) (hcp1 _ _ _) ?_)
 go_wp2_with (at_builtin;refine wpList_copy_runI _ rfl _ _ 33 33 rfl _ _ rfl rfl (hcp2 _ _) ?_)
 go_ret
 refine⟨rfl,c2,?_,Hs2.out,?_⟩
 .rw[setRow_setRow]
 .rw[<-Hmid.out];exact aN9 Hc1.out Hc2.out Hml.out hvl (by rw[aV6];omega) hin
theorem aOb (base:Option Addr) (n c i:Nat) (v0:Option Addr) (vc:Nat) (w:pR) (hi:i<=n) (hnc:n<=c) (hc63:c<=maxLen):
  Calls Tryz.prog 159 #[.slice base n c,.int .i64 i,.slice v0 0 vc] w fun e w'=>e= .returned (.slice base n c)/\w'=w:=by
 have u24:=aVP Tryz.underlying33
 go_enter Tryz.func159,Tryz.ntmps159
 go_wp2_with fail
 all_goals (go_ret;exact⟨rfl,rfl⟩)
theorem aOc (v:pS) (n vb voff m vc:Nat) (xs vs:pN) (w:pR) (hm:0<m) (hown:w.ownsRow 0 111 2 v n xs) (h63:n+m<=maxLen) (hby:(n+m)*32<=140737488355328)
  (hvl:vs.length=m*2) (hvs: ∀j v,vs[j]? =some v->w.cell? ⟨vb,voff+j,none⟩=some v) (h1v: ∀v∈vs,v.oneCell'=true):
  Calls Tryz.prog 159 #[v,.int .i64 n,.slice (some ⟨vb,voff,none⟩) m vc] w fun e w'=>
   ∃q cap,e= .returned (.slice (some ⟨q,0,none⟩) (n+m) cap)/\w'.ownsRow 0 111 2 (.slice (some ⟨q,0,none⟩) (n+m) cap) (n+m) (xs++vs)/\
   (q=w.heap.size\/v.ownBlock=some q)/\w.grownBy w' v.ownBlock:=by
 have u24:=aVP Tryz.underlying33;obtain⟨inf,hi,hsz,hz⟩:=EJ aEJ;have hby2:inf.bytes=32:=by
  have:(Tryz.prog.info? 111).map (·.bytes)=some 32:=by kernel_rfl
  rw[hi] at this;exact aVx this
 have hrun: ∀ty,∃q cap w',(Builtin.append_ #[33,33] ty #[v,.slice (some ⟨vb,voff,none⟩) m vc]).run Tryz.prog w= .ok (.slice (some ⟨q,0,none⟩) (n+m) cap) w'/\_:=
  fun ty=>a1j (P:=Tryz.prog) w 33 ty 111 inf _ 2 32 Tryz.underlying33 hi hz hsz hby2 pV v n xs hown ⟨vb,voff,none⟩ m vc vs hvl (fun j u hj=>by rw[aXi];exact hvs j u hj) h1v hm h63 hby
 obtain⟨q,cap,w2,hr,h1,h2,h3,h4,h5⟩:=hrun 33;have H1:=Lib.hid h1;have H2:=Lib.hid h2;have H3:=Lib.hid h3;have Hown:=Lib.hid hown;have hz1: ¬((m:Int)=0):=by omega
 have hmx:n+m<=9223372036854775807:=by unfold maxLen at h63;omega
 obtain⟨hxl,hv⟩:=hown;clear h1 h2 h3 h5 hrun hz hsz hby2 hi hxl;rcases hv with⟨rfl,rfl⟩ |⟨b,c,cur,rfl,_,hbk,hnc,hcm,hcs,htk⟩
 .clear Hown;rw[aV5] at hr
  go_enter Tryz.func159,Tryz.ntmps159
  go_wp2_with (at_builtin;refine Lib.wpList_append_run _ rfl _ _ _ _ rfl _ _ rfl rfl _ _ hr ?_)
  all_goals (go_ret;exact⟨q,cap,by rw[aV5];rfl,H1.out,H2.out,H3.out⟩)
 .clear hbk hcs htk;have hcm:c<=9223372036854775807:=by unfold maxLen at hcm;omega
  go_enter Tryz.func159,Tryz.ntmps159
  go_wp2_with (at_builtin;refine Lib.wpList_append_run _ rfl _ _ _ _ rfl _ _ rfl rfl _ _ hr ?_)
  all_goals (go_ret;exact⟨q,cap,rfl,H1.out,H2.out,H3.out⟩)
theorem aOd (b n c i vb voff m vc:Nat) (cur:Array pS) (vs:pN) (w:pR) (hi:i<n) (hm:0<m) (hnc:n<=c) (hroom:c<n+m) (hbig:(n+m)*32<=140737488355328)
  (hg:w.heap[b]? =some (.cells cur 111 (0,0))) (hcs:cur.size=c*2) (hvl:vs.length=m*2)
  (hvs: ∀j v,vs[j]? =some v->w.cell? ⟨vb,voff+j,none⟩=some v) (h1: ∀v∈cur.toList.take (n*2),v.oneCell'=true) (h1v: ∀v∈vs,v.oneCell'=true):
  Calls Tryz.prog 159 #[.slice (some ⟨b,0,none⟩) n c,.int .i64 i,.slice (some ⟨vb,voff,none⟩) m vc] w fun e w'=>
   ∃G,e= .returned (.slice (some ⟨w.heap.size,0,none⟩) (n+m) G)/\w'.ownsRow 0 111 2 (.slice (some ⟨w.heap.size,0,none⟩) (n+m) G) (n+m) (cur.toList.take (i*2)++vs++(cur.toList.drop (i*2)).take ((n-i)*2))/\w.grownBy w' none:=by
 have u24:=aVP Tryz.underlying33;have mixed:Tryz.prog.follows .mixedOrders=true:=by kernel_rfl
 obtain⟨inf,hinf,hzs,hz⟩:=EJ aEJ;have hzb:inf.bytes=32:=by
  have:(Tryz.prog.info? 111).map (·.bytes)=some 32:=by kernel_rfl
  rw[hinf] at this;exact aVx this
 have hsz:(Tryz.prog.info? 111).map (·.size)=some 2:=by kernel_rfl
 have hz1: ¬((m:Int)=0):=by omega
 have hz2: ¬((i:Int)=(n:Int)):=by omega
 have hz3:(c:Int)<(n:Int)+(m:Int):=by omega
 have hbw:b<w.heap.size:=by
  rcases aWA b w.heap.size with h|h
  .exact h
  .rw[Array.getElem?_eq_none h] at hg;cases hg
 have hvw:vb<w.heap.size:=block_lt_of_cell (hvs 0 _ (aVF pG));have hkk:(n:Int)+(m:Int)- (i:Int)=((n+m-i:Nat):Int):=by omega
 have hik:i+(n+m-i)=n+m:=by omega
 have hold:(Builtin.firstCells inf.size i (.slice (some ⟨b,0,none⟩) i c)).run Tryz.prog w.drew= .ok (cur.toList.take (i*2)).toArray w.drew:=by
  rw[hzs];exact run_firstCells_some w.drew 2 i ⟨b,0,none⟩ i c (cur.toList.take (i*2)) (by rw[aVQ,aV6];omega) (fun j v hj=>by
   rw[aXi,aV5];rw[aWL] at hj;split at hj
   .rw[aWB] at hj;show w.cell? ⟨b,j,none⟩=_;rw[Lib.cell_of_heap hg];exact hj
   .cases hj)
 have hrz: ∀ty,(Builtin.append_ #[33,3] ty #[.slice (some ⟨b,0,none⟩) i c,.int .i64 ((n:Int)+(m:Int)- (i:Int))]).run Tryz.prog w=
   .ok (.slice (some ⟨w.heap.size,0,none⟩) (n+m) (grownCap w (n+m) c 111)) (w.drew.alloc (.cells ((cur.toList.take (i*2)).toArray++Builtin.zeroCells (wW (.pair .str (.pair .str .unit))).cells (n+m-i)++Builtin.zeroCells (wW (.pair .str (.pair .str .unit))).cells (grownCap w (n+m) c 111- (n+m))) 111)):=fun ty=>by
  have h:=Lib.run_append_grow_zeros (P:=Tryz.prog) w 33 3 ty 111 inf _ .i64 .i64 Tryz.underlying33 Tryz.underlying3 hinf hz (some ⟨b,0,none⟩) i c (cur.toList.take (i*2)) hold (n+m-i) pG (by rw[hzs];decide) pG pG (by rw[hzb];omega) (by rw[hzb,hik];exact growslice_fits hroom hbig);rw[hik] at h;rw[hkk];exact h
 obtain⟨G,hG⟩: ∃G,G=grownCap w (n+m) c 111:=⟨_,rfl⟩;obtain⟨ROW,hROW⟩: ∃ROW:Array pS,ROW=(cur.toList.take (i*2)).toArray++Builtin.zeroCells (wW (.pair .str (.pair .str .unit))).cells (n+m-i)++Builtin.zeroCells (wW (.pair .str (.pair .str .unit))).cells (G- (n+m)):=⟨_,rfl⟩;rw[<-hG] at hrz;rw[<-hROW] at hrz;have hGn:n+m<=G:=by rw[hG];exact grownCap_ge w _ _ _
 have hGm:G<=maxLen:=by rw[hG];exact grownCap_le_maxLen w (n+m) c _ (by unfold maxLen;omega)
 have hzc:(wW (.pair .str (.pair .str .unit))).cells.size=2:=rfl;have hRl:ROW.size=G*2:=by
  rw[hROW];simp only[aXj,aWn,size_zeroCells,hzc,aVQ,aV6];omega
 have hRt:ROW.toList.take (i*2)=cur.toList.take (i*2):=by
  rw[hROW];simp only[Array.toList_append,aVy];rw[aWk (by rw[aVQ,aV6];omega),List.take_take,Nat.min_self]
 obtain⟨q,hq⟩: ∃q,q=w.heap.size:=⟨_,rfl⟩;obtain⟨mid,hmid⟩: ∃mid,mid=(cur.toList.drop (i*2)).take ((n-i)*2):=⟨_,rfl⟩;have hml:mid.length=(n-i)*2:=by rw[hmid,aVQ,aVO,aV6];omega
 have hmin1:Nat.min m (n+m-i)=m:=by simp only[Nat.min_def];split<;>omega
 have hmin2:Nat.min (n-i) (n+m- (i+m))=n-i:=by simp only[Nat.min_def];split<;>omega
 obtain⟨c1,hc1⟩: ∃c1:Array pS,c1=(ROW.toList.take (i*2)++vs++ROW.toList.drop (i*2+vs.length)).toArray:=⟨_,rfl⟩;have hc1l:c1.size=G*2:=by rw[hc1];simp only[aWn,aVu,aVQ,aVO,aV6,hRl,hvl];omega
 obtain⟨c2,hc2⟩: ∃c2:Array pS,c2=(c1.toList.take ((i+m)*2)++mid++c1.toList.drop ((i+m)*2+mid.length)).toArray:=⟨_,rfl⟩;have hc2l:c2.size=G*2:=by rw[hc2];simp only[aWn,aVu,aVQ,aVO,aV6,hc1l,hml];omega
 obtain⟨W1,hW1⟩: ∃W1,W1=w.drew.alloc (.cells ROW 111):=⟨_,rfl⟩;rw[<-hW1] at hrz;have hbq:b≠q:=by omega
 have hvq:vb≠q:=by omega
 have hg1:W1.heap[q]? =some (.cells ROW 111 (0,0)):=by rw[hW1,hq];exact aXw w.drew _
 have hO1: ∀k,k<w.heap.size->W1.heap[k]? =w.heap[k]? :=fun k hk=>by rw[hW1];exact aV3 w.drew _ k hk
 have hcpA: ∀(W:pR),W.heap=W1.heap->∀ty dc,(Builtin.copy_ #[33,33] ty #[.slice (some ⟨q,i*2,none⟩) (n+m-i) dc,.slice (some ⟨vb,voff,none⟩) m vc]).run Tryz.prog W= .ok (goInt (m:Nat)) (W.setRow q c1):=fun W hW ty dc=>by
  have h:=XU (P:=Tryz.prog) W 33 33 ty 111 2 q (i*2) (n+m-i) dc ⟨vb,voff,none⟩ m vc ROW 111 vs Tryz.underlying33 hsz (by rw[hW];exact hg1) (by rw[hvl,hmin1]) (fun j v hj=>by
    rw[aXi,aVT (w:=w) (a:=⟨vb,voff+j,none⟩) (by rw[hW];exact hO1 vb hvw)];exact hvs j v hj) (by rw[hvl,hRl];omega) h1v
  rw[h,hmin1,hc1]
 have hcpB: ∀(W:pR),W.heap=(W1.setRow q c1).heap->∀ty dc sc,(Builtin.copy_ #[33,33] ty #[.slice (some ⟨q,(i+m)*2,none⟩) (n+m- (i+m)) dc,.slice (some ⟨b,i*2,none⟩) (n-i) sc]).run Tryz.prog W= .ok (goInt (n-i:Nat)) (W.setRow q c2):=fun W hW ty dc sc=>by
  have h:=XU (P:=Tryz.prog) W 33 33 ty 111 2 q ((i+m)*2) (n+m- (i+m)) dc ⟨b,i*2,none⟩ (n-i) sc c1 111 mid Tryz.underlying33 hsz (by rw[hW];exact aXp W1 q ROW c1 _ _ hg1) (by rw[hml,hmin2]) (fun j v hj=>by
    rw[aXi,aVT (w:=w) (a:=⟨b,i*2+j,none⟩) (by rw[hW,aW2 W1 q b c1 hbq];exact hO1 b hbw),Lib.cell_of_heap hg];rw[hmid,aWL] at hj;split at hj
    .rw[List.getElem?_drop,aWB] at hj;exact hj
    .cases hj) (by rw[hml,hc1l];omega) (fun v hv=>h1 v (aEK (hmid▸hv)))
  rw[h,hmin2,hc2]
 have hGi: ¬(G=i):=by omega
 have hGim: ¬(G=i+m):=by omega
 have hci: ¬(c=i):=by omega
 have hw1:IntKind.i64.wrap ((i:Int)+(m:Int))=(i:Int)+(m:Int):=by rw[aWP];omega
 have hw2:IntKind.i64.wrap ((n:Int)+(m:Int))=(n:Int)+(m:Int):=by rw[aWP];omega
 have hw3:IntKind.i64.wrap ((n:Int)+(m:Int)- (i:Int))=(n:Int)+(m:Int)- (i:Int):=by rw[aWP];omega
 have hb1:(0:Int)<=(i:Int)+(m:Int):=by omega
 have hin:i<=n:=by omega
 have htn:((i:Int)+(m:Int)).toNat=i+m:=by omega
 have hb3:(i:Int)<=(n:Int):=by omega
 have hG63:G<=9223372036854775807:=by unfold maxLen at hGm;omega
 rw[<-hq] at hrz|-;have hend: ∀W:pR,W.heap=((W1.setRow q c1).setRow q c2).heap->W.os=w.os->W.tape=w.tape->W.output=w.output->
   W.ownsRow 0 111 2 (.slice (some ⟨q,0,none⟩) (n+m) G) (n+m) (cur.toList.take (i*2)++vs++mid)/\w.grownBy W none:=fun W hW e1 e2 e3=>by
  have hg2:W.heap[q]? =some (.cells c2 111 (0,0)):=by rw[hW];exact aXp (W1.setRow q c1) q c1 c2 _ _ (aXp W1 q ROW c1 _ _ hg1)
  have hs:w.heap.size<=W.heap.size:=by
   have:=(aVW.1 hg2).1;omega
  refine⟨⟨?_,.inr ⟨q,G,c2,rfl,aWC _,hg2,hGn,hGm,hc2l,?_⟩⟩,⟨e1,e2,e3,hs,fun k hk _=> ?_⟩⟩
  .simp only[aVu,aVQ,aV6,hml,hvl];omega
  .have x1:c1.toList=cur.toList.take (i*2)++vs++ROW.toList.drop (i*2+vs.length):=by rw[hc1,hRt]
   have l1:(cur.toList.take (i*2)++vs).length=(i+m)*2:=by rw[aVu,aVQ,aV6,hvl];omega
   have x2:c2.toList=cur.toList.take (i*2)++vs++mid++c1.toList.drop ((i+m)*2+mid.length):=by
    rw[hc2];show c1.toList.take ((i+m)*2)++mid++_=_;rw[x1,<-l1,aWs]
   rw[x2,show (n+m)*2=(cur.toList.take (i*2)++vs++mid).length by rw[aVu,l1,hml];omega,aWs]
  .rw[hW,aW2 _ q k c2 pG,aW2 _ q k c1 pG];exact hO1 k hk
 have Hmid:=Lib.hid hmid;have Hq:=Lib.hid hq;have Hend:=Lib.hid hend;have HW1:=Lib.hid hW1;clear hkk hik hold hROW hG hRl hmid hq hend hW1 hc1 hc2 hc1l hc2l hml hmin1 hmin2 hz hzs hzb hinf hRt hg1 hO1
 go_enter Tryz.func159,Tryz.ntmps159
 go_wp2_with (first
  |(at_builtin;refine Lib.wpList_append_run _ rfl _ _ _ _ rfl _ _ rfl rfl _ _ (hrz _) ?_)
  |(at_builtin;refine wpList_copy_runI _ rfl _ _ 33 33 rfl _ _ rfl rfl (hcpA _ rfl _ _) ?_))
 go_region_law_o (refine step_copy_runI rfl _ _ 33 33 rfl (.slice (some ⟨q,(i+m)*2,none⟩) (n+m- (i+m)) (G- (i+m))) (.slice (some ⟨b,i*2,none⟩) (n-i) (c-i)) (by simp [Act.eval,Act.put]) (by simp [Act.eval,Act.put]) (hcpB (W1.setRow q c1).drew rfl _ (G- (i+m)) (c-i)) ?_)
 go_wp2_with fail
 go_ret
 rw[<-Hmid.out];exact⟨G,rfl,Hend.out _ rfl (by rw[HW1.out];rfl) (by rw[HW1.out];rfl) (by rw[HW1.out];rfl)⟩
theorem aOe (v:pS) (n i m vc:Nat) (v0:Option Addr) (xs vs:pN) (w:pR) (hin:i<=n) (hown:w.ownsRow 0 111 2 v n xs) (hby:(n+m)*32<=140737488355328)
  (h1: ∀u∈xs,u.oneCell'=true) (hv0:m=0\/∃vb voff,v0=some ⟨vb,voff,none⟩/\v.ownBlock≠some vb/\∀j u,vs[j]? =some u->w.cell? ⟨vb,voff+j,none⟩=some u)
  (hvl:vs.length=m*2) (h1v: ∀v∈vs,v.oneCell'=true):
  Calls Tryz.prog 159 #[v,.int .i64 i,.slice v0 m vc] w fun e w'=>
   ∃v',e= .returned v'/\w'.ownsRow 0 111 2 v' (n+m) (xs.take (i*2)++vs++xs.drop (i*2))/\(m=0->v'=v)/\(∀b,v'.ownBlock=some b->b=w.heap.size\/v.ownBlock=some b)/\w.grownBy w' v.ownBlock:=by
 have h63:n+m<=maxLen:=by unfold maxLen;omega
 rcases Nat.eq_zero_or_pos m with hm|hm
 .subst hm;have hvs:vs=[]:=aW1.1 pG;subst hvs;have hres:w.ownsRow 0 111 2 v (n+0) (xs.take (i*2)++[]++xs.drop (i*2)):=by
   rw[List.append_nil,aWX];exact hown
  obtain⟨base,c,rfl,hnc,hc⟩: ∃base c,v= .slice base n c/\n<=c/\c<=maxLen:=by
   rcases hown.2 with⟨rfl,rfl⟩ |⟨b,c,cur,rfl,_,_,h2,h3,_⟩
   .exact⟨none,0,rfl,aVR _,by unfold maxLen;omega⟩
   .exact⟨_,c,rfl,h2,h3⟩
  refine(aOb base n c i v0 vc w hin hnc hc).mono ?_;rintro e w' ⟨rfl,rfl⟩;exact⟨_,rfl,hres,fun _=>rfl,fun b hb=> .inr hb,World.grownBy.refl _ _⟩
 .obtain⟨vb,voff,rfl,hvb,hvs⟩: ∃vb voff,v0=some ⟨vb,voff,none⟩/\v.ownBlock≠some vb/\∀j u,vs[j]? =some u->w.cell? ⟨vb,voff+j,none⟩=some u:=by
   rcases hv0 with h|h
   .omega
   .exact h
  have hxl:=hown.1;rcases aWA i n with hlt|hge
  .rcases hown.2 with⟨rfl,rfl⟩ |⟨b,c,cur,rfl,_,hbk,hnc,hcm,hcs,htk⟩
   .omega
   .have hb:vb≠b:=fun h=>hvb (by rw[h];rfl);have hx1:cur.toList.take (i*2)=xs.take (i*2):=by rw[<-htk,List.take_take,Nat.min_eq_left pG]
    have hx2:(cur.toList.drop (i*2)).take ((n-i)*2)=xs.drop (i*2):=by rw[aN8 hin,htk]
    rcases aWA c (n+m) with hr|hr
    .refine(aOd b n c i vb voff m vc cur vs w hlt hm hnc hr hby hbk hcs hvl hvs (by rw[htk];exact h1) h1v).mono ?_;rintro e w' ⟨G,rfl,ho,hg⟩;rw[hx1,hx2] at ho;exact⟨_,rfl,ho,fun h=>by omega,fun b hb=> .inl (by simpa[Value.ownBlock] using hb.symm),⟨hg.os,hg.tape,hg.output,hg.size,fun k hk _=>hg.block k hk pI⟩⟩
    .refine(aOa b n c i vb voff m vc cur vs w hlt hm hr hcm hb hbk hcs hvl hvs (by rw[htk];exact h1) h1v).mono ?_;rintro e w' ⟨rfl,cur',rfl,hs,ht⟩;rw[hx1,hx2] at ht;refine⟨_,rfl,⟨?_,.inr ⟨b,c,cur',rfl,aWC _,aXp w.drew b cur cur' _ _ hbk,hr,hcm,by rw[hs,hcs],ht⟩⟩,fun h=>by omega,fun b' hb'=> .inr hb',⟨rfl,rfl,rfl,by simp,fun k hk hne=>aW2 w.drew b k cur' (fun h=>hne (by rw[h];rfl))⟩⟩;simp only[aVu,aVQ,aVO,hxl,hvl];omega
  .obtain rfl:i=n:=by omega
   refine(aOc v i vb voff m vc xs vs w hm hown h63 hby hvl hvs h1v).mono ?_;rintro e w' ⟨q,cap,rfl,ho,hq,hg⟩;refine⟨_,rfl,?_,fun h=>by omega,fun b hb=> ?_,hg⟩
   .rw[<-hxl,List.take_length,aWl,List.append_nil];exact ho
   .have hb:q=b:=by simpa[Value.ownBlock] using hb
    exact hb▸hq
theorem aEL {α:Type}{R:α->pN->Prop}{c:Nat}: ∀{l:List α}{cs:pN}(i:Nat),uE R c l cs->uE R c (l.take i) (cs.take (i*c))
 |_,_,0,_=>by simp [uE]
 |[],_,_+1,h=>by rw[show _=[] from h];simp [uE]
 |x::l,_,i+1,⟨c1,c2,e,h1,h2,h3⟩=>by
  refine⟨c1,c2.take (i*c),?_,h1,h2,aEL i h3⟩;rw[e,aWz,Nat.add_comm,<-h1,List.take_length_add_append]
theorem aEM {α:Type}{R:α->pN->Prop}{c:Nat}: ∀{l:List α}{cs:pN}(i:Nat),uE R c l cs->uE R c (l.drop i) (cs.drop (i*c))
 |_,_,0,h=>by simpa using h
 |[],_,_+1,h=>by rw[show _=[] from h];simp [uE]
 |x::l,_,i+1,⟨c1,c2,e,h1,h2,h3⟩=>by
  rw[e,show (i+1)*c=c1.length+i*c by rw[h1,aWz,Nat.add_comm],List.drop_length_add_append];exact aEM i h3
def BU {t:Type}(l:List t) (i:Int) (v:List t):List t:=List.take i.toNat l++v++List.drop i.toNat l
@[go_sem] def S4:List qC->List qB->Option qI
 |[(.own 0 O,none),(.val (.int .i64) Z,none),(.val (.list (.pair .str (.pair .str .unit))) aA,none)],[.row 111 (.pair .str (.pair .str .unit)) aB aC]=>
  some ⟨[O=aC,0<=Z/\Z<=List.length aB,(List.length aB+List.length aA)*32<=140737488355328],[(.own 0 (List.length (BU aB Z aA)),none)],[.row 111 (.pair .str (.pair .str .unit)) (BU aB Z aA) (List.length (BU aB Z aA))]⟩
 |_,_=>none
theorem a2m:xR Tryz.prog 159 S4:=by
 refine⟨fun _ _=>rfl,fun g w args vals L r hH ha hC hs=> ?_⟩;unfold S4 at hC;split at hC
 .rename_i n iI vl l n2;cases hC;obtain rfl:n=n2:=hs _ pI;obtain⟨hi0,hil⟩:=hs (0<=iI/\iI<=List.length l) pI;have hby:=hs ((List.length l+List.length vl)*32<=140737488355328) pI;clear hs;obtain⟨va,_,rfl,ra,vb,_,rfl,rb,vc,_,rfl,rc,hv⟩:=ha;cases hv;have hg0:qE (qR 0 [qB.row 111 (.pair .str (.pair .str .unit)) l n]) 0=some (.row 111 (.pair .str (.pair .str .unit)) l n):=rfl;obtain⟨hl,v,xs,hcur,hown,hF,hnone,hseal⟩:=hH.blk 0 _ hg0;have hva:va=v:=by
   have:=ra.1.1;rw[hcur] at this;exact(aVx this).symm
  subst hva;obtain⟨i,rfl⟩:=Int.eq_ofNat_of_zero_le hi0;have hvb:vb= .int .i64 i:=wX rb.1;subst hvb;obtain⟨a,cap,rfl,hcap,hlist⟩:=DG rc.1;have hRone: ∀(x:(Ty.pair .str (.pair .str .unit)).den) cs,Rd g w (.pair .str (.pair .str .unit)) x cs->∀v∈cs,v.oneCell'=true:=fun x cs h=>B8 h;obtain⟨vs,hFv,hv0⟩: ∃vs,uE (Rd g w (.pair .str (.pair .str .unit))) 2 vl vs/\(vl.length=0\/∃vb voff,a=some ⟨vb,voff,none⟩/\va.ownBlock≠some vb/\∀j u,vs[j]? =some u->w.cell? ⟨vb,voff+j,none⟩=some u):=by
   rcases hlist with rfl|⟨b,o,rfl,hL⟩
   .exact⟨[],rfl,.inl rfl⟩
   .obtain⟨cs,h1,h2,h3⟩:=O3 hL;rcases Nat.eq_zero_or_pos vl.length with h0|h0
    .exact⟨cs,h1,.inl h0⟩
    .exact⟨cs,h1,.inr ⟨b,o,rfl,fun hb=>hseal b hb _ (h3 0 (Nat.mul_pos h0 pH)),h2⟩⟩
  have hvl:=JA hFv;have hil2:(i:Int)<=(l.length:Int):=hil;have hil':i<=n:=by omega
  subst hl;refine(aOe va l.length i vl.length cap a xs vs w pG hown hby (RF hRone hF) hv0 hvl (RF hRone hFv)).mono ?_;rintro e w' ⟨v',rfl,hown',hm0,hob,hgr⟩;have hlen:(BU l (i:Int) vl).length=l.length+vl.length:=by
   simp only[BU,aWh,aVu,aVQ,aVO];omega
  have hF':uE (Rd g w (.pair .str (.pair .str .unit))) 2 (BU l (i:Int) vl) (xs.take (i*2)++vs++xs.drop (i*2)):=by
   unfold BU;rw[aWh];exact R9 (R9 (aEL i hF) hFv) (aEM i hF)
  have hsl: ∀b o,g.S b o->w'.cell? ⟨b,o,none⟩=w.cell? ⟨b,o,none⟩:=fun b o h=>aVT (a:=⟨b,o,none⟩) (hgr.block b (hH.sl b o h) (fun e=>hseal b e.symm o h));have hE:=sI.row (side:=[]) (rds:=[]) (s:=(.own 0 (BU l (i:Int) vl).length,none)) (val:=v') (k:=0) (g:=g) (w:=w) (H:=qR 0 [qB.row 111 (.pair .str (.pair .str .unit)) l l.length]) hH (e:=111) (t:= .pair .str (.pair .str .unit)) (l:=BU l (i:Int) vl) (n:=(BU l (i:Int) vl).length) (v:=v') rfl (by rw[hlen];exact hown') hF'
   (fun m hm=>hnone m pG) (fun u hu=>by
    rcases Nat.eq_zero_or_pos vl.length with h0|h0
    .rw[hlen,h0,aWr,hcur] at hu;rw[hm0 h0];exact(aVx hu).symm
    .rw[hnone _ pG] at hu;cases hu)
   (.inr ⟨va.ownBlock,hgr,fun b hb o=>⟨0,_,by simp,hg0,va,hcur,hb⟩⟩) hsl
   (fun b hb o hS=>by
    rcases hob b hb with h|h
    .have:=hH.sl b o hS;omega
    .exact hseal b h o hS)
   (fun b hb=>(hob b hb).imp (fun h=>by omega) fun h o=>⟨0,_,by simp,hg0,va,hcur,h⟩)
   ⟨⟨by simp [Gh.tok],by
    rw[hlen];rcases hown'.2 with⟨rfl,h⟩ |⟨b,cap',_,rfl,_,_,h,_⟩
    .exact .inl ⟨rfl,h⟩
    .exact .inr ⟨b,cap',rfl,h⟩⟩,trivial⟩
  refine⟨v',_,rfl,⟨fun b o h=>⟨hE.le.S b o h,hE.le.cell b o h⟩,hE.heap.ext ?_,hE.slot,hE.fr.mono fun b o ⟨i,blk,_,h1,h2⟩=>⟨i,blk,h1,h2⟩,fun i blk b o hi ho=> ?_,fun i t x ts h=> ?_,fun i t x ts u y us h _=> ?_,fun _ _ _ h=>h,fun i m u hi h=> ?_⟩⟩
  .intro i
   match i with
   |0=>rfl
   |i+1=>rfl
  .match i,hi with
   |0,hi=>
    cases hi;exact(hE.perm 0 _ b o (by simp [qH]) rfl ho).imp id fun⟨i,blk,_,h1,h2⟩=>⟨i,blk,h1,h2⟩
   |i+1,hi=>simp at hi
  .match i,h with
   |0,h=>cases h
   |i+1,h=>simp at h
  .match i,h with
   |0,h=>cases h
   |i+1,h=>simp at h
  .exact hE.le.cur i m u h
 .cases hC
end Go.Proofs.YtkpflnijijccpaaGreatDoor
namespace Go.Proofs.YtkpflnijijccpaaGreatDoor.Vc
open Go.RowKit
@[go_sem] def a2n (np:Nat):DV->Bool
 | .any=>true
 | .nilS=>true
 | .val .ref (some (i,_))=>decide (i<np)
 | .val .ref none=>true
 | .val t _=>t.pure
 |_=>false
@[go_sem] def XV (np:Nat):qC->Bool
 |(d,none)=>a2n np d
 |(.val (.list t) _,some k)=>t.pure&&decide (k<np)
 |_=>false
@[go_sem] def JI (np:Nat):List (Nat×qC)->Bool
 |[]=>true
 |(_,s)::r=>XV np s&&JI np r
theorem aEN {np:Nat}: ∀{env:List (Nat×qC)},JI np env=true->∀t,XV np (lk env t)=true
 |[],_,t=>rfl
 |(k,s)::r,h,t=>by
  simp only[JI,aVG] at h;unfold lk;split
  .exact h.1
  .exact aEN h.2 t
theorem aOf {np:Nat}{g g':Gh}{w:pR}(hS:g'.S=g.S) (hJ: ∀i,i<np->g'.J i=g.J i) (hC: ∀i n,i<np->g'.cur i n=g.cur i n) {s:qC}{v:pS}(hp:XV np s=true) (h:rX g w s v):rX g' w s v:=by
 have hV: ∀{t:Ty}{x:t.den},t.pure=true->tX g w t x v->tX g' w t x v:=fun ht hv=>by
  rcases hv with⟨h1,cs,h2,h3⟩ |⟨h1,h2⟩
  .exact .inl ⟨h1,cs,h2,wN hS ht h3⟩
  .exact .inr ⟨h1,wN hS ht h2⟩
 have hD: ∀d,a2n np d=true->AL g w d v->AL g' w d v:=by
  intro d hd hr;unfold a2n at hd;split at hd
  .trivial
  .exact hr
  .rename_i i o;have hi:=aV4 hd;rcases hr with⟨h1,_⟩ |⟨h1,h2⟩
   .cases h1
   .refine .inr ⟨h1,?_⟩;obtain⟨p,hp1,hp2⟩:=h2;exact⟨p,(hJ i hi).trans hp1,hp2⟩
  .rcases hr with⟨h1,_⟩ |⟨h1,h2⟩
   .cases h1
   .exact .inr ⟨h1,h2⟩
  .exact hV hd hr
  .cases hd
 obtain⟨d,k⟩:=s;cases k with
 |none=>exact⟨hD d hp h.1,trivial⟩
 |some k=>
  unfold XV at hp;split at hp
  .rename_i heq;cases heq
  .rename_i t x k' heq;cases heq;simp only[aVG,aVE] at hp;exact⟨hV (t:= .list t) hp.1 h.1,(hC k _ hp.2).trans h.2⟩
  .cases hp
theorem aOg {np:Nat}{g g':Gh}{w w':pR}{env:List (Nat×qC)}{tmps:Array pS}(h:BA g w env tmps) (hp:JI np env=true) (hS: ∀b o,g.S b o->g'.S b o) (hc: ∀b o,g.S b o->w'.cell? ⟨b,o,none⟩=w.cell? ⟨b,o,none⟩)
  (hJ: ∀i p,i<np->g.J i=some p->g'.J i=some p) (hC: ∀i n v,i<np->g.cur i n=some v->g'.cur i n=some v):BA g' w' env tmps:=fun t=>by
 have le:Le g w ⟨g'.S,fun i=>if i<np then g'.J i else g.J i,fun i n=>if i<np then g'.cur i n else g.cur i n⟩ w':=by
  refine⟨hS,hc,fun i p hi=> ?_,fun i n v hi=> ?_⟩
  .show (if i<np then _ else _)=_;split
   .rename_i hlt;exact hJ i p hlt hi
   .exact hi
  .show (if i<np then _ else _)=_;split
   .rename_i hlt;exact hC i n v hlt hi
   .exact hi
 exact aOf (np:=np) (g:=⟨g'.S,fun i=>if i<np then g'.J i else g.J i,fun i n=>if i<np then g'.cur i n else g.cur i n⟩) (g':=g') rfl (fun i hi=>(aVs hi).symm) (fun i n hi=>by show g'.cur i n=(if i<np then g'.cur i n else g.cur i n);rw[aVs hi]) (aEN hp t) (DE le (h t))
theorem uB.inner {A A':Nat->Nat->Prop}{L L':List qB}{g0 g g':Gh}{w0 w w':pR}{H H':sE}(h:uB A L g0 w0 g w H) (k:uB A' L' g w g' w' H') (hA: ∀b o,A' b o->w.heap.size<=b\/yX g H b o) (hl:L.length<=L'.length)
  (hL: ∀i,i<L.length->∀b,L'[i]? =some b->qE H i=some b):uB A L g0 w0 g' w' H':=by
 have own: ∀b o,A' b o->w0.heap.size<=b\/A b o:=fun b o x=>by
  rcases hA b o x with h1|⟨i,blk,h1,h2⟩
  .exact .inl (aWx h.fr.size h1)
  .exact h.perm i blk b o h1 h2
 refine⟨fun b o x=> ?_,h.fr.trans k.fr own,fun i blk b o h1 h2=> ?_,fun i p hi hp=>k.J i p pG (h.J i p hi hp),fun i hi=>k.live i pG,fun i u y us hi hg=> ?_,fun i n v hi hv=>k.cur i n v pG (h.cur i n v hi hv)⟩
 .obtain⟨h1,h2⟩:=h.shut b o x;obtain⟨k1,k2⟩:=k.shut b o h1;exact⟨k1,k2.trans h2⟩
 .rcases k.perm i blk b o h1 h2 with h3|h3
  .exact .inl (aWx h.fr.size h3)
  .exact own b o h3
 .obtain⟨x,ts,hx⟩:=k.ty i u y us pG hg;exact h.ty i u x ts hi (hL i hi _ hx)
theorem uB.start {g:Gh}{w:pR}{H:sE}{L':List qB}(hH:sL g w H) (hL: ∀i b,L'[i]? =some b->qE H i=some b/\b≠.dead) (hty: ∀i,i<L'.length->∀b,qE H i=some b->L'[i]? =some b):uB (yX g H) L' g w g w H:=by
 refine⟨fun b o h=>⟨h,rfl⟩,Fr.refl _ _ _,fun i blk b o hg ho=> .inr ⟨i,blk,hg,ho⟩,fun _ _ _ h=>h,fun i hi=> ?_,fun i u y us hi hg=>⟨y,us,hty i hi _ hg⟩,fun _ _ _ _ h=>h⟩;obtain⟨h1,h2⟩:=hL i L'[i] pI;have hbk:=hH.blk i _ h1;generalize L'[i]=blk at hbk h2;cases blk with
 |cells t x ts=>obtain⟨p,cs,hp,_⟩:=hbk;exact .inl ⟨p,hp⟩
 |grow e c n=>obtain⟨v,xs,hv,_⟩:=hbk;exact .inr ⟨n,v,hv⟩
 |row e t l n=>obtain⟨_,v,xs,hv,_⟩:=hbk;exact .inr ⟨n,v,hv⟩
 |map k v l=>obtain⟨p,es,cl,hp,_⟩:=hbk;exact .inl ⟨p,hp⟩
 |iter s n=>obtain⟨p,hp,_⟩:=hbk;exact .inl ⟨p,hp⟩
 |dead=>exact absurd rfl h2
@[go_sem] def JJ (env:List (Nat×qC)):pQ->List qC->List (Nat×qC)
 |p::ps,s::ss=>JJ (uI (some p) s env) ps ss
 |_,_=>env
theorem aEO {g:Gh}{w:pR}: ∀{ps:pQ}{ss:List qC}{vs:pN}{env:List (Nat×qC)}{tmps:Array pS},BA g w env tmps->(∀p∈ps,p<tmps.size)->vS g w ss vs->ps.length=ss.length->
  BA g w (JJ env ps ss) ((ps.zip vs).foldl (fun t (q:Nat×pS)=>t.setIfInBounds q.1 q.2) tmps)/\((ps.zip vs).foldl (fun t (q:Nat×pS)=>t.setIfInBounds q.1 q.2) tmps).size=tmps.size
 |[],[],vs,env,tmps,h,_,ha,_=>by
  have:vs=[]:=ha;subst this;exact⟨h,rfl⟩
 |p::ps,s::ss,vs,env,tmps,h,hp,ha,hl=>by
  obtain⟨v,vs',rfl,h1,h2⟩:=ha;have hput:BA g w (uI (some p) s env) (tmps.setIfInBounds p v):=a1O (a:={tmps:=tmps,defers:=[]}) (o:=⟨some p,.move (.tmp 0),0, "",#[],none⟩) (N:=tmps.size) h (Le.refl g w) h1 rfl (by simpa[J5] using hp p pI)
  have:=aEO (tmps:=tmps.setIfInBounds p v) hput (fun q hq=>by simpa using hp q (aVB _ hq)) h2 (by simpa using hl);exact⟨this.1,by rw[List.zip_cons_cons,List.foldl_cons];rw[this.2];simp⟩
def S5 (P:Program) (gf:Nat) (u:Ty) {ι:Type}(pre:u.den->Prop) (items:u.den->List ι) (vl:ι->pN):Prop:=
 (∀args w,(callFunc gf args).run P w= .ok (.enter gf args) w)/\
 ∀(l b o:Nat) (x:u.den) (cs:pN) (g:Gh) (W0:pR) (J:Nat->pR->Prop) (Jx:pR->Prop),pre x->Rd g W0 u x cs->
  (∀i W,J i W->W.rangeAt b o cs/\∀b o,g.S b o->W.cell? ⟨b,o,none⟩=W0.cell? ⟨b,o,none⟩)->
  (∀i W W',J i W->Below W.heap.size W W'->J i W')->(∀W W',Jx W->Below W.heap.size W W'->Jx W')->(∀i W,J i W->DA W)->
  (∀i it V W,(items x)[i]? =some it->J i V->Below V.heap.size V W->YieldAt Fence.wide 0 P l (vl it).toArray W fun e W'=>((e= .returned (.bool true)/\J (i+1) W')\/(e= .returned (.bool false)/\Jx W'))/\
   ∀D,V.heap.size<=D->D<W.heap.size->W'.heap[D]? =W.heap[D]?)->
  ∀W,J 0 W->Calls P gf #[.func (.yield l) #[] #[],.pointer (some ⟨b,o,none⟩)] W fun e W'=>(∃v,e= .returned v)/\(J (items x).length W'\/Jx W')
theorem aOh {F:Fence}{m:Nat}{P:Program}{l:Nat}{args:Array pS}{W:pR}{R R':Ending->pR->Prop}(h:YieldAt F m P l args W R) (hr: ∀e W',R e W'->R' e W'):YieldAt F m P l args W R':=by
 obtain⟨fn,tmps,assign,body,h1,h2⟩:=h;exact⟨fn,tmps,assign,body,h1,h2.mono hr⟩
def zP {ι σ ρ:Type}(f:ι->σ->Option (σ⊕ρ)):List ι->σ->Option (σ⊕ρ)
 |[],x=>some (.inl x)
 |it::r,x=>(f it x).bind fun w=>match w with
  | .inl x'=>zP f r x'
  | .inr y=>some (.inr y)
theorem aOi {ι σ ρ:Type}{f:ι->σ->Option (σ⊕ρ)}{it:ι}{r:List ι}{x:σ}{y:σ⊕ρ}(h:zP f (it::r) x=some y): ∃w,f it x=some w/\(∀x',w= .inl x'->zP f r x'=some y)/\(∀z,w= .inr z->y= .inr z):=by
 unfold zP at h;cases hf:f it x with
 |none=>rw[hf] at h;cases h
 |some w=>
  rw[hf] at h;refine⟨w,rfl,fun x' e=> ?_,fun z e=> ?_⟩
  .subst e;exact h
  .subst e;exact(aVx h).symm
def qA (st:St):Ex->St->Prop
 | .normal,s=> ∃k:wV,s.keep k=st
 |_,_=>False
def qF {σ ρ:Type}(encH:σ->List qB) (E0:List (Nat×qC)) (N np np':Nat) (w:σ⊕ρ) (Q:Ex->St->Prop):Ex->St->Prop
 | .normal,s=> ∃(k:wV) (x:σ),w= .inl x/\s.keep k=⟨[],qR 0 (encH x),qZ (encH x),N,np'⟩
 |e,s=> ∃(k:wV) (B:List qB),s.keep k=⟨[],qR 0 B,qZ B,N,np'⟩/\(∃z,w= .inr z)/\Q e ⟨E0,qR 0 B,qZ B,N,np⟩
section
variable {B:Nat}{A:Nat->Nat->Prop}{L:List qB}{g0 g:Gh}{w0 w:pR}{b0 o0 n0:Nat}{cs:pN}{E0:List (Nat×qC)}{tmps:Array pS}{ds:List Deferred}
structure EO (B:Nat) (A:Nat->Nat->Prop) (L:List qB) (g0:Gh) (w0:pR) (g:Gh) (w:pR) (b0 o0 n0:Nat) (cs:pN) (E0:List (Nat×qC)) (tmps:Array pS) (ds:List Deferred) (g1:Gh) (W:pR) (H:sE):Prop where
 env:BA g1 W E0 tmps
 heap:sL g1 W H
 good:uB A L g0 w0 g1 W H
 sld: ∀b o,g.S b o->g1.S b o/\W.cell? ⟨b,o,none⟩=w.cell? ⟨b,o,none⟩
 rng:W.rangeAt b0 o0 cs
 len:cs.length=n0
 lt:0<n0->b0<W.heap.size
 out: ∀o,o0<=o->o<o0+n0->¬yX g1 H b0 o
 defs:A7 B W ds
theorem EO.turn {g1:Gh}{W W2:pR}{H:sE}(h:EO B A L g0 w0 g w b0 o0 n0 cs E0 tmps ds g1 W H) (t:vT w0.heap.size W W2) {ds':List Deferred}(hd:A7 B W2 ds'):EO B A L g0 w0 g w b0 o0 n0 cs E0 tmps ds' g1 W2 H:=by
 refine⟨fun x=>DE (t.le h.heap.sl) (h.env x),t.heapOk h.heap,h.good.turn h.heap.sl t,fun b o x=>⟨(h.sld b o x).1,(t.cell (h.heap.sl b o (h.sld b o x).1) o).1.trans (h.sld b o x).2⟩,fun j v hv=> ?_,h.len,fun x=>aV7 (h.lt x) t.size,h.out,hd⟩;have hj:j<cs.length:=(aVK.1 hv).1;have:=h.len;exact(t.cell (h.lt pG) _).1.trans (h.rng j v hv)
theorem EO.inner {g1 g2:Gh}{W W2:pR}{H H2:sE}{L':List qB}{np':Nat}(h:EO B A L g0 w0 g w b0 o0 n0 cs E0 tmps ds g1 W H) (k:uB (yX g1 H) L' g1 W g2 W2 H2) (hH:sL g2 W2 H2) (hpin:JI np' E0=true) (hnp:np'=L'.length) (hl:L.length<=L'.length)
  (hL: ∀i,i<L.length->∀b,L'[i]? =some b->qE H i=some b):EO B A L g0 w0 g w b0 o0 n0 cs E0 tmps ds g2 W2 H2:=by
 subst hnp;refine⟨aOg h.env hpin (fun b o x=>(k.shut b o x).1) (fun b o x=>(k.shut b o x).2) (fun i p hi x=>k.J i p hi x) (fun i n v hi x=>k.cur i n v hi x),hH,h.good.inner k (fun b o x=> .inr x) hl hL,fun b o x=> ?_,fun j v hv=> ?_,h.len,fun x=>aV7 (h.lt x) k.fr.size,fun o h1 h2 ⟨i,blk,h3,h4⟩=> ?_,h.defs.same fun D hD=> ?_⟩
 .obtain⟨h1,h2⟩:=h.sld b o x;exact⟨(k.shut b o h1).1,(k.shut b o h1).2.trans h2⟩
 .have hj:j<cs.length:=(aVK.1 hv).1;have:=h.len;exact(k.fr.cell _ _ (h.lt pG) (h.out _ pG pG)).1.trans (h.rng j v hv)
 .rcases k.perm i blk _ _ h3 h4 with h5|h5
  .have:=h.lt pG;omega
  .exact h.out o h1 h2 h5
 .rw[k.fr.blk D (aVW.1 hD).1 (fun o ⟨i,blk,h1,h2⟩=>XB (h.heap.blk i blk h1) h2 hD rfl)];exact hD
theorem aEP {g1 g2:Gh}{W W2:pR}{H H2:sE}{L':List qB}(hH:sL g1 W H) (k:uB (yX g1 H) L' g1 W g2 W2 H2) {D:Nat}{ob:Obj}(hD:W.heap[D]? =some ob) (hm:HH ob=true):W2.heap[D]? =some ob:=by
 rw[k.fr.blk D (aVW.1 hD).1 (fun o ⟨i,blk,h1,h2⟩=>XB (hH.blk i blk h1) h2 hD hm)];exact hD
end
theorem vT.put {B:Nat}{W:pR}{l:Nat}{o o':Obj}(h:W.heap[l]? =some o) (hB:B<=l) (hN:NG<=l) (hm:HH o=true) (hm':HH o'=true):vT B W (W.putObj l o'):=by
 have hlt:=(aVW.1 h).1;refine⟨rfl,rfl,rfl,by simp [World.putObj],fun b hb=> ?_⟩;by_cases e:b=l
 .subst e;exact .inr ⟨hB,hN,_,_,h,World.putObj_heap_same hlt,hm,hm'⟩
 .exact .inl (World.putObj_heap_other e)
theorem vT.new (B:Nat) (W:pR) (o:Obj):vT B W (W.alloc o):=by
 refine⟨rfl,rfl,rfl,by simp,fun b hb=> .inl ?_⟩;exact aV3 W o b hb
theorem aEQ {e:Ex}{x:Exit}(h:G0 x=some e):(x= .normal/\e= .normal)\/(x= .ret/\e= .ret)\/∃id,x= .exit id/\e= .exit id:=by
 cases x<;>simp only[G0,aVr] at h
 .exact .inl ⟨rfl,h.symm⟩
 .exact .inr (.inr ⟨_,rfl,h.symm⟩)
 .cases h
 .exact .inr (.inl ⟨rfl,h.symm⟩)
 .cases h
 .cases h
def aOj:Ex->Option Code
 | .normal=>none
 | .ret=>some .ret
 | .exit id=>some (.exit id)
theorem aER {P:Program}{gf:Nat}{u:Ty}{ι:Type}{pre:u.den->Prop}{items:u.den->List ι}{vl:ι->pN}(hit:S5 P gf u pre items vl) {sl:ι->List qC}(hsl: ∀it g w,vS g w (sl it) (vl it))
  {fo:Operand}{ps:Array Tmp}{assign body:Code}{s:St}{Q:Ex->St->Prop}{c:Nat}{k0:pP}(hf:uO s.env fo=(.val .clo (some (gf,[(c,0)])),k0)) {xc:u.den}{toks:pL}(hc:qE s.H c=some (.cells u xc toks)) (hpre:pre xc)
  {σ ρ:Type}{f:ι->σ->Option (σ⊕ρ)}{x0:σ}{y:σ⊕ρ}(hy:zP f (items xc) x0=some y)
  (E0:List (Nat×qC)) (E1:ι->List (Nat×qC)) (encH:σ->List qB) (encA:ι->σ->List qB) (np':Nat) (k:wV) (hk:xQ s.np k.ids=true) (h0:s.keep k=⟨E0,qR 0 (encH x0),qZ (encH x0),s.N,s.np⟩)
  (hcase:k.ids.all (fun q=>decide (q.2≠c))=true\/c<s.np/\(∀g w cs g2 w2 cs2,Rd g w u xc cs->Rd g2 w2 u xc cs2->cs=cs2)/\∃toksK,∀x,qE (qR 0 (encH x)) c=some (.cells u xc toksK)) (hpin:JI np' E0=true) (hnp:s.np<=np') (hlen: ∀x,np'<=qZ (encH x)) (hdead: ∀x,((encH x).take np').all (fun b=>match b with| .dead=>false|_=>true)=true)
  (hA: ∀it x,(encA it x).take np'=(encH x).take np') (hlenA: ∀it x,np'<=qZ (encA it x))
  (hps: ∀it,ps.toList.length=(sl it).length) (hpN:(ps.toList.all fun p=>decide (p<s.N))=true)
  (hround: ∀it x w,f it x=some w->(∀z,w= .inr z->y= .inr z)->Ev true P assign ⟨JJ E0 ps.toList (sl it),qR 0 (encH x),qZ (encH x),s.N,np'⟩ (qA ⟨E1 it,qR 0 (encA it x),qZ (encA it x),s.N,np'⟩)/\
   Ev true P body ⟨E1 it,qR 0 (encA it x),qZ (encA it x),s.N,np'⟩ (qF encH E0 s.N s.np np' w Q))
  (hdone: ∀x,y= .inl x->Q .normal ⟨E0,qR 0 (encH x),qZ (encH x),s.N,s.np⟩):Ev false P (.rangeFunc fo ps assign body) s Q:=by
 intro ro hro A L g0 w0 g a w B hB hr hg hn;have hN:ro=none:=by cases ro<;>first|rfl|cases hro
 subst hN;have hfv:=AP hr.env fo;rw[hf] at hfv;obtain⟨p,hpJ,hev⟩: ∃p,g.J c=some p/\a.eval fo= .func (.func gf) #[] #[.pointer (some ⟨p.1,p.2,none⟩)]:=by
  rcases hfv.1 with⟨h1,_⟩ |⟨_,vs,⟨p,vs',h4,h5,h6⟩,h3⟩
  .cases h1
  .rw[show vs'=[] from h6] at h5;subst h5;simp only[aWp,and_true] at h3;exact⟨p,h4,h3⟩
 obtain⟨p',cs,hp',hRc,hra,hth,hns,htk⟩:=hr.heap.blk c _ hc;rw[hpJ] at hp';obtain rfl:=aVx hp';obtain⟨hr1,hg1,hn1,_⟩:=a1N hr hg hn k hk;have hpJ1:c<s.np->(vD g s.np k.ids).J c=some p:=fun hcN=>by
  show (if c<s.np then g.J c else _)=_;rw[aVs hcN];exact hpJ
 obtain⟨b0,o0,n0,cI,inv0,hrng⟩: ∃b0 o0 n0 cI,EO B A L g0 w0 g w b0 o0 n0 cI E0 a.tmps a.defers (vD g s.np k.ids) w (qR 0 (encH x0))/\∀{g1:Gh}{W:pR}{x:σ}{dd:List Deferred},EO B A L g0 w0 g w b0 o0 n0 cI E0 a.tmps dd g1 W (qR 0 (encH x))->(c<s.np->g1.J c=some p)->W.rangeAt p.1 p.2 cs:=by
  rcases hcase with hcd|⟨hcN,hu,toksK,hcK⟩
  .have hout: ∀o,p.2<=o->o<p.2+u.cells->¬yX (vD g s.np k.ids) (s.keep k).H p.1 o:=by
    rintro o h1 h2 ⟨i,blk,h3,h4⟩;have h3':qE (R2 s k (xQ s.np k.ids)).H i=some blk:=h3;rw[hk] at h3';obtain⟨o',h5,rfl⟩:=JF h3';obtain⟨c1,h6,h7⟩:=(LP hk h5 fun c1 hc1=>hr.heap.blk o' c1 hc1).2 _ _ h4;exact hr.heap.dis o' c c1 _ p.1 o (aV4 (aWa.1 hcd _ h5)) h6 hc h7 ⟨p,hpJ,rfl,h1,h2⟩
   rw[h0] at hr1 hg1 hout;exact⟨p.1,p.2,u.cells,cs,⟨hr1.env,hr1.heap,hg1,fun b o h=>⟨h,rfl⟩,hra,t7 hRc,fun hpos=>by
    obtain⟨v,hv⟩:=aVt.1 (hth.1 0 hpos).1;exact WP hv,hout,hr.def_⟩,fun h _=>h.rng⟩
  .rw[h0] at hr1 hg1;refine⟨0,0,0,[],⟨hr1.env,hr1.heap,hg1,fun b o h=>⟨h,rfl⟩,fun j v h=>by simp at h,rfl,fun h=>absurd h pG,fun o h1 h2=>by omega,hr1.def_⟩,fun h h2=> ?_⟩;obtain⟨p2,cs2,h3,h4,h5,_⟩:=h.heap.blk c _ (hcK _);rw[h2 hcN] at h3;obtain rfl:=aVx h3;rw[hu _ _ _ _ _ _ hRc h4];exact h5
 rw[h0] at hr1 hg1;have hNG:NG<=w.heap.size:=hr.heap.tab.1.1;have hBw:w0.heap.size<=w.heap.size:=hg.fr.size;refine wpIn_rangeFunc fun fn _=> ?_;obtain⟨rec,hrec⟩: ∃rec:LoopState->Option Code->Loop,rec=fun st pe=>{state:=st,pending:=pe,fn,tmps:=a.tmps,params:=ps,assign,body,defers:=w.heap.size}:=⟨_,rfl⟩;obtain⟨W1,hW1⟩: ∃W1,(w.alloc (.deferred (some []))).alloc (.loop (rec .ready none))=W1:=⟨_,rfl⟩;have hL1:W1.heap[w.heap.size+1]? =some (.loop (rec .ready none)):=by
  rw[<-hW1];have:=World.alloc_heap_new (w.alloc (.deferred (some []))) (.loop (rec .ready none));rwa [World.size_alloc] at this
 have hK1:W1.heap[w.heap.size]? =some (.deferred (some [])):=by
  rw[<-hW1];exact(aV3 _ _ _ pI).trans (World.alloc_heap_new w _)
 have t1:vT w0.heap.size w W1:=by rw[<-hW1];exact(vT.new _ _ _).trans (vT.new _ _ _)
 obtain⟨ds,hds⟩: ∃ds:List Deferred,{target:= .collected w.heap.size,args:= #[]}::a.defers=ds:=⟨_,rfl⟩;have hd1:A7 B W1 ds:=by
  rw[<-hds];refine⟨List.nodup_cons.2 ⟨fun hm=> ?_,hr.def_.1⟩,fun d hd=> ?_⟩
  .obtain⟨D,h1,_,_,h4⟩:=hr.def_.2 _ hm;have h5:w.heap.size=D:=by injection h1 with h1;injection h1
   have:=(aVW.1 h4).1;omega
  .rcases aVH.1 hd with rfl|hd
   .exact⟨_,rfl,pG,hNG,hK1⟩
   .obtain⟨D,h1,h2,h3,h4⟩:=hr.def_.2 _ hd;have hlt:=(aVW.1 h4).1;refine⟨D,h1,h2,h3,?_⟩;rw[<-hW1];exact(aV3 _ _ D pJ).trans ((aV3 _ _ D hlt).trans h4)
 let l:=w.heap.size+1
 let J:Nat->pR->Prop:=fun i W=> ∃g1 x,zP f ((items xc).drop i) x=some y/\EO B A L g0 w0 g w b0 o0 n0 cI E0 a.tmps ds g1 W (qR 0 (encH x))/\
  (∀j,qZ (encH x)<=j->g1.J j=none/\∀n,g1.cur j n=none)/\W.heap[l]? =some (.loop (rec .ready none))/\(c<s.np->g1.J c=some p)
 let Jx:pR->Prop:=fun W=> ∃g1 Bl e cd z,aOj e=some cd/\y= .inr z/\Q e ⟨E0,qR 0 Bl,qZ Bl,s.N,s.np⟩/\EO B A L g0 w0 g w b0 o0 n0 cI E0 a.tmps ds g1 W (qR 0 Bl)/\
  (∀j,qZ Bl<=j->g1.J j=none/\∀n,g1.cur j n=none)/\s.np<=qZ Bl/\W.heap[l]? =some (.loop (rec .done (some cd)))
 have tbel: ∀{W W':pR},Below W.heap.size W W'->vT w0.heap.size W W':=fun hb=>⟨hb.os,hb.tape,hb.output,hb.size,fun b h=> .inl (hb.block b h)⟩;have hob: ∀{W W':pR}{D:Nat}{ob:Obj},Below W.heap.size W W'->W.heap[D]? =some ob->W'.heap[D]? =some ob:=fun hb h=>(hb.block _ (aVW.1 h).1).trans h;have hJd: ∀i W W',J i W->Below W.heap.size W W'->J i W':=fun i W W' ⟨g1,x,h1,h2,h3,h4,h5⟩ hb=>⟨g1,x,h1,h2.turn (tbel hb) (h2.defs.same fun _ h=>hob hb h),h3,hob hb h4,h5⟩;have hJxd: ∀W W',Jx W->Below W.heap.size W W'->Jx W':=fun W W' ⟨g1,Bl,e,cd,z,h1,h2,h3,h4,h5,h6,h7⟩ hb=>⟨g1,Bl,e,cd,z,h1,h2,h3,h4.turn (tbel hb) (h4.defs.same fun _ h=>hob hb h),h5,h6,hob hb h7⟩;have hround2: ∀i it V W,(items xc)[i]? =some it->J i V->Below V.heap.size V W->YieldAt Fence.wide 0 P l (vl it).toArray W fun e W'=>((e= .returned (.bool true)/\J (i+1) W')\/(e= .returned (.bool false)/\Jx W'))/\
   ∀D,V.heap.size<=D->D<W.heap.size->W'.heap[D]? =W.heap[D]? :=by
  rintro i it V W hi ⟨g1,x,hfold,invV,nb,hlV,hgc⟩ hbel;have inv:=invV.turn (tbel hbel) (invV.defs.same fun _ h=>hob hbel h);have hl:=hob hbel hlV;have hVl:l<V.heap.size:=(aVW.1 hlV).1;have hnoV: ∀D,V.heap.size<=D->∀o,¬yX g1 (qR 0 (encH x)) D o:=fun D hD o ⟨i,blk,h1,h2⟩=>by
   have:=NX (invV.heap.blk i blk h1) h2;omega
  have hil:i<(items xc).length:=(aVK.1 hi).1;have hdrop:(items xc).drop i=it::(items xc).drop (i+1):=by
   rw[aV8 hil];congr 1;exact(aVK.1 hi).2
  rw[hdrop] at hfold;obtain⟨wv,hw,hinl,hinr⟩:=aOi hfold;obtain⟨evA,evB⟩:=hround it x wv hw hinr;have hvl:(vl it).toArray.size=ps.size:=by
   rw[aWn,(XM (hsl it g1 W)).1,<-hps it,aV6]
  have hyl:=run_yield (P:=P) (args:=(vl it).toArray) hl (by rw[hrec];exact hvl);rw[hrec] at hyl;refine⟨fn,_,assign,body,hyl,roundIn_of_wpIn trivial ?_⟩;have hz:(ps.zip (vl it).toArray).foldl (fun tmps (t,v)=>tmps.setIfInBounds t v) a.tmps=(ps.toList.zip (vl it)).foldl (fun t (q:Nat×pS)=>t.setIfInBounds q.1 q.2) a.tmps:=by
   rw[<-aXu,Array.toList_zip]
  rw[hz];obtain⟨henv,hsz⟩:=aEO inv.env (fun q hq=>by rw[hr.size];exact aV4 (aWa.1 hpN q hq)) (hsl it g1 W) (hps it);have hL'len:((encH x).take np').length=np':=by
   rw[aVQ];have:=hlen x;rw[XN] at this;omega
  have hLget: ∀i b,((encH x).take np')[i]? =some b->qE (qR 0 (encH x)) i=some b:=fun i b h=>by
   rw[y4];exact(aWI (by have:=(aVK.1 h).1;omega)).symm.trans h
  have hLget2: ∀i b,((encH x).take np')[i]? =some b->qE (qR 0 (encH x)) i=some b/\b≠.dead:=fun i b h=>⟨hLget i b h,fun e=>by
   have:=aWa.1 (hdead x) b (List.mem_of_getElem? h);subst e;cases this⟩
  have hLty: ∀i,i<((encH x).take np').length->∀b,qE (qR 0 (encH x)) i=some b->((encH x).take np')[i]? =some b:=fun i hi b h=>by
   rw[y4] at h;exact(aWI pG).trans h
  have gs:=uB.start inv.heap hLget2 hLty;have rA:w6 W.heap.size g1 W ⟨JJ E0 ps.toList (sl it),qR 0 (encH x),qZ (encH x),s.N,np'⟩ {tmps:=(ps.toList.zip (vl it)).foldl (fun t (q:Nat×pS)=>t.setIfInBounds q.1 q.2) a.tmps,defers:=[]}:=⟨henv,inv.heap,hsz.trans hr.size,nb,aDD _ _,hlen x⟩;have hlow:L.length<=((encH x).take np').length:=by rw[hL'len,<-hn];exact hnp
  refine aXf (evA (some l) rfl _ _ g1 W g1 _ W _ (aVR _) rA gs hL'len.symm) fun e a1 wa hp=> ?_;obtain⟨e',g2,s2,e1,e2,e3,e4,e5⟩:=hp;rcases aEQ e1 with⟨rfl,rfl⟩ |⟨rfl,rfl⟩ |⟨id,rfl,rfl⟩
  .obtain⟨kA,hkA⟩:=e2;obtain⟨g3,k1,k2,k3,_⟩:=HI e3 e4 e5 kA;rw[hkA] at k1 k2;have inva:=inv.inner k2 k1.heap hpin hL'len.symm hlow (fun i hi b h=>hLget i b h);have hla:=aEP inv.heap k2 hl rfl;refine⟨_,run_beginRound hla (by rw[hrec]),?_⟩;obtain⟨Wb,hWb⟩: ∃Wb,wa.putObj l (.loop {rec .ready none with state:= .busy})=Wb:=⟨_,rfl⟩
   have tb:vT w0.heap.size wa Wb:=by rw[<-hWb];exact vT.put hla (by show w0.heap.size<=w.heap.size+1;omega) (by show NG<=w.heap.size+1;omega) rfl rfl
   have hlt:=(aVW.1 hla).1;have other: ∀{W:pR}{o o':Obj}{D:Nat},W.heap[l]? =some (.loop (rec .ready none))\/W.heap[l]? =some (.loop {rec .ready none with state:= .busy})->W.heap[D]? =some (.deferred (some []))->(W.putObj l o').heap[D]? =some (.deferred (some [])):=by
    intro W o o' D h1 h2;rw[World.putObj_heap_other (fun e=>by subst e;rcases h1 with h1|h1<;>(rw[h1] at h2;cases h2))]
    exact h2
   have invb:=inva.turn tb (inva.defs.same fun D hD=>by rw[<-hWb];exact other (o:= .loop (rec .ready none)) (.inl hla) hD);have hlb:Wb.heap[l]? =some (.loop {rec .ready none with state:= .busy}):=by rw[<-hWb];exact World.putObj_heap_same hlt
   have hkA: ∀D,V.heap.size<=D->D<W.heap.size->Wb.heap[D]? =W.heap[D]? :=fun D h1 h2=>by
    rw[<-hWb,World.putObj_heap_other pG];exact k2.fr.blk D h2 (hnoV D h1)
   rw[hWb];have hAg: ∀i,i<np'->qE (qR 0 (encA it x)) i=qE (qR 0 (encH x)) i:=fun i hi=>by
    rw[y4,y4,<-aWI hi,hA it x,aWI hi]
   have hltL: ∀i b,((encH x).take np')[i]? =some b->i<np':=fun i b h=>by
    have:=(aVK.1 h).1;omega
   have gsb:=uB.start invb.heap (fun i b h=>by rw[hAg i (hltL i b h)];exact hLget2 i b h) (fun i hi b h=>hLty i hi b (by rw[<-hAg i pG];exact h));have rB:w6 W.heap.size g3 Wb ⟨E1 it,qR 0 (encA it x),qZ (encA it x),s.N,np'⟩ a1:=⟨fun t=>DE (tb.le k1.heap.sl) (k1.env t),invb.heap,k1.size,k1.nb,k1.def_.same fun D hD=>by rw[<-hWb];exact other (o:= .loop (rec .ready none)) (.inl hla) hD,hlenA it x⟩;have hWW:W.heap.size<=Wb.heap.size:=aWx k2.fr.size tb.size;refine aXf (evB (some l) rfl _ _ g3 Wb g3 a1 Wb _ hWW rB gsb hL'len.symm) fun e a2 wc hp=> ?_;obtain⟨e',g4,s4,e1,e2,e3,e4,e5⟩:=hp;have wS: ∀(kB:wV) (Bl:List qB),s4.keep kB=⟨[],qR 0 Bl,qZ Bl,s.N,np'⟩->∀jump:Option Code,∃g5,EO B A L g0 w0 g w b0 o0 n0 cI E0 a.tmps ds g5 (wc.putObj l (.loop (rec (if jump.isNone then .ready else .done) jump))) (qR 0 Bl)/\
     (∀j,qZ Bl<=j->g5.J j=none/\∀n,g5.cur j n=none)/\np'<=qZ Bl/\(wc.putObj l (.loop (rec (if jump.isNone then .ready else .done) jump))).heap[l]? =some (.loop (rec (if jump.isNone then .ready else .done) jump))/\
     (Instr.endRound l jump).run P wc= .ok (.bool jump.isNone) (wc.putObj l (.loop (rec (if jump.isNone then .ready else .done) jump)))/\(c<s.np->g5.J c=some p)/\
     ∀D,V.heap.size<=D->D<W.heap.size->(wc.putObj l (.loop (rec (if jump.isNone then .ready else .done) jump))).heap[D]? =W.heap[D]? :=by
    intro kB Bl hkB jump;obtain⟨g5,j1,j2,j3,_⟩:=HI e3 e4 e5 kB;rw[hkB] at j1 j2;have invc:=invb.inner j2 j1.heap hpin hL'len.symm hlow (fun i hi b h=>by rw[hAg i pG];exact hLget i b h);have hlc:=aEP invb.heap j2 hlb rfl;have hltc:=(aVW.1 hlc).1;have tc:vT w0.heap.size wc (wc.putObj l (.loop (rec (if jump.isNone then .ready else .done) jump))):=vT.put hlc (by show w0.heap.size<=w.heap.size+1;omega) (by show NG<=w.heap.size+1;omega) rfl rfl;refine⟨g5,invc.turn tc (invc.defs.same fun D hD=>other (o:= .loop (rec .ready none)) (.inr hlc) hD),j1.nb,j1.np,World.putObj_heap_same hltc,?_,fun hcN=>j2.J c p pG (k2.J c p pG (hgc hcN)),fun D h1 h2=> ?_⟩
    .have:=run_endRound (P:=P) jump hlc;rw[this,hrec]
    .rw[World.putObj_heap_other pG,j2.fr.blk D pG (fun o ⟨i,blk,h3,h4⟩=>by
      rcases k2.perm i blk D o h3 h4 with h5|h5
      .omega
      .exact hnoV D h1 o h5),hkA D h1 h2]
   rcases aEQ e1 with⟨rfl,rfl⟩ |⟨rfl,rfl⟩ |⟨id,rfl,rfl⟩
   .obtain⟨kB,x',rfl,hkB⟩:=e2;obtain⟨g5,q1,q2,q3,q4,q5,q6,q7⟩:=wS kB _ hkB none;exact⟨_,_,q5,.inl ⟨rfl,g5,x',hinl x' rfl,q1,q2,q4,q6⟩,q7⟩
   .obtain⟨kB,Bl,hkB,⟨z,rfl⟩,hq⟩:=e2;obtain⟨g5,q1,q2,q3,q4,q5,q6,q7⟩:=wS kB _ hkB (some .ret);exact⟨_,_,q5,.inr ⟨rfl,g5,Bl,.ret,.ret,z,rfl,hinr z rfl,hq,q1,q2,aWx hnp q3,q4⟩,q7⟩
   .obtain⟨kB,Bl,hkB,⟨z,rfl⟩,hq⟩:=e2;obtain⟨g5,q1,q2,q3,q4,q5,q6,q7⟩:=wS kB _ hkB (some (.exit id));exact⟨_,_,q5,.inr ⟨rfl,g5,Bl,.exit id,.exit id,z,rfl,hinr z rfl,hq,q1,q2,aWx hnp q3,q4⟩,q7⟩
  .exact e2.elim
  .exact e2.elim
 refine⟨l,[{target:= .collected w.heap.size,args:= #[]}],W1,{target:= .fn (.func gf) #[.pointer (some ⟨p.1,p.2,none⟩)],args:= #[.func (.yield l) #[] #[]]},W1,gf,#[.func (.yield l) #[] #[]]++ #[.pointer (some ⟨p.1,p.2,none⟩)],W1,?_,?_,fun _ _=>trivial,?_,fun h=>(by cases h),?_⟩
 .rw[<-hW1,hrec];exact run_enterLoop_outer _ _ _ _ _
 .simp only[resolve,hev];simp [go_sem]
 .simp [invoke,go_sem,hit.1]
 .have inv1:=inv0.turn t1 hd1;refine(aDM (ro:=none) (n:=0-1) (hit.2 l p.1 p.2 xc cs g w J Jx hpre hRc (fun i W ⟨g1,x,_,h2,_,_,h5⟩=>⟨hrng h2 h5,fun b o hb=>(h2.sld b o hb).2⟩) hJd hJxd (fun i W ⟨g1,x,_,h2,_⟩=>h2.heap.tab.1) hround2 W1 ⟨_,x0,hy,inv1,hr1.nb,hL1,hpJ1⟩)).mono ?_;have hend: ∀{W:pR}{r:Loop},W.heap[l]? =some (.loop r)->∀{ds0:List Deferred},A7 B W ds0->A7 B (W.putObj l (.loop {r with state:= .exhausted})) ds0:=by
   intro W r h1 ds0 h2;refine h2.same fun D hD=> ?_;rw[World.putObj_heap_other (fun e=>by subst e;rw[h1] at hD;cases hD)];exact hD
  rintro e W2 ⟨⟨v,rfl⟩,(⟨g1,x,h1,h2,h3,h4,_⟩ |⟨g1,Bl,e,cd,z,h1,h2,h3,h4,h5,h6,h7⟩)⟩
  .rw[aWl] at h1;have hyx:y= .inl x:=(aVx h1).symm;have hin:=h2.turn (vT.put (o':= .loop {rec .ready none with state:= .exhausted}) h4 (by show w0.heap.size<=w.heap.size+1;omega) (by show NG<=w.heap.size+1;omega) rfl rfl) (hend h4 h2.defs)
   refine⟨none,W2.putObj l (.loop {rec .ready none with state:= .exhausted}),by have:=run_endLoop (P:=P) h4 (by rw[hrec];simp);rw[hrec] at this|-;exact this,?_⟩
   refine⟨.normal,g1,_,rfl,hdone x hyx,⟨hin.env,hin.heap,hr.size,h3,?_,aWx hnp (hlen x)⟩,hin.good,hn⟩;have:=hin.defs;rw[<-hds] at this;exact this
  .have hin:=h4.turn (vT.put (o':= .loop {rec .done (some cd) with state:= .exhausted}) h7 (by show w0.heap.size<=w.heap.size+1;omega) (by show NG<=w.heap.size+1;omega) rfl rfl) (hend h7 h4.defs)
   refine⟨some cd,W2.putObj l (.loop {rec .done (some cd) with state:= .exhausted}),by have:=run_endLoop (P:=P) h7 (by rw[hrec];simp);rw[hrec] at this|-;exact this,?_⟩
   have hdef:=hin.defs;rw[<-hds] at hdef;have hrel:w6 B g1 (W2.putObj l (.loop {rec .done (some cd) with state:= .exhausted})) ⟨E0,qR 0 Bl,qZ Bl,s.N,s.np⟩ {a with defers:=[{target:= .collected w.heap.size,args:= #[]}]++a.defers}:=⟨hin.env,hin.heap,hr.size,h5,hdef,h6⟩
   cases e with
   |normal=>cases h1
   |ret=>
    obtain rfl:=aVx h1;exact wpIn_ret ⟨.ret,g1,_,rfl,h3,hrel,hin.good,hn⟩
   |exit id=>
    obtain rfl:=aVx h1;exact wpIn_exit ⟨.exit id,g1,_,rfl,h3,hrel,hin.good,hn⟩
theorem aOk {P:Program}{gf:Nat}{u:Ty}{ι:Type}{pre:u.den->Prop}{items:u.den->List ι}{vl:ι->pN}(hit:S5 P gf u pre items vl) {sl:ι->List qC}(hsl: ∀it g w,vS g w (sl it) (vl it))
  {fo:Operand}{ps:Array Tmp}{assign body:Code}{s:St}{Q:Ex->St->Prop}{c:Nat}{k0:pP}(hf:uO s.env fo=(.val .clo (some (gf,[(c,0)])),k0)) {xc:u.den}{toks:pL}(hc:qE s.H c=some (.cells u xc toks)) (hpre:pre xc)
  {σ ρ:Type}{f:ι->σ->Option (σ⊕ρ)}{x0:σ}{y:σ⊕ρ}(hy:zP f (items xc) x0=some y)
  (E0:List (Nat×qC)) (E1:ι->List (Nat×qC)) (encH:σ->List qB) (np':Nat) (k:wV) (hk:xQ s.np k.ids=true) (h0:s.keep k=⟨E0,qR 0 (encH x0),qZ (encH x0),s.N,s.np⟩)
  (hcd:k.ids.all (fun q=>decide (q.2≠c))=true) (hpin:JI np' E0=true) (hnp:s.np<=np') (hlen: ∀x,np'<=qZ (encH x)) (hdead: ∀x,((encH x).take np').all (fun b=>match b with| .dead=>false|_=>true)=true)
  (hps: ∀it,ps.toList.length=(sl it).length) (hpN:(ps.toList.all fun p=>decide (p<s.N))=true)
  (hround: ∀it x w,f it x=some w->(∀z,w= .inr z->y= .inr z)->Ev true P assign ⟨JJ E0 ps.toList (sl it),qR 0 (encH x),qZ (encH x),s.N,np'⟩ (qA ⟨E1 it,qR 0 (encH x),qZ (encH x),s.N,np'⟩)/\
   Ev true P body ⟨E1 it,qR 0 (encH x),qZ (encH x),s.N,np'⟩ (qF encH E0 s.N s.np np' w Q))
  (hdone: ∀x,y= .inl x->Q .normal ⟨E0,qR 0 (encH x),qZ (encH x),s.N,s.np⟩):Ev false P (.rangeFunc fo ps assign body) s Q:=
 aER hit hsl hf hc hpre hy E0 E1 encH (fun _=>encH) np' k hk h0 (.inl hcd) hpin hnp hlen hdead (fun _ _=>rfl) (fun _=>hlen) hps hpN hround hdone
theorem aOl {P:Program}{gf:Nat}{ι:Type}{pre:pD->Prop}{items:pD->List ι}{vl:ι->pN}(hit:S5 P gf .str pre items vl) {sl:ι->List qC}(hsl: ∀it g w,vS g w (sl it) (vl it))
  {fo:Operand}{ps:Array Tmp}{assign body:Code}{s:St}{Q:Ex->St->Prop}{c:Nat}{k0:pP}(hf:uO s.env fo=(.val .clo (some (gf,[(c,0)])),k0)) {xc:pD}{toks:pL}(hc:qE s.H c=some (.cells .str xc toks)) (hpre:pre xc)
  {σ ρ:Type}{f:ι->σ->Option (σ⊕ρ)}{x0:σ}{y:σ⊕ρ}(hy:zP f (items xc) x0=some y)
  (E0:List (Nat×qC)) (E1:ι->List (Nat×qC)) (encH:σ->List qB) (encA:ι->σ->List qB) (np':Nat) (k:wV) (hk:xQ s.np k.ids=true) (h0:s.keep k=⟨E0,qR 0 (encH x0),qZ (encH x0),s.N,s.np⟩)
  (hcN:c<s.np) {toksK:pL}(hcK: ∀x,qE (qR 0 (encH x)) c=some (.cells .str xc toksK)) (hpin:JI np' E0=true) (hnp:s.np<=np') (hlen: ∀x,np'<=qZ (encH x)) (hdead: ∀x,((encH x).take np').all (fun b=>match b with| .dead=>false|_=>true)=true)
  (hA: ∀it x,(encA it x).take np'=(encH x).take np') (hlenA: ∀it x,np'<=qZ (encA it x))
  (hps: ∀it,ps.toList.length=(sl it).length) (hpN:(ps.toList.all fun p=>decide (p<s.N))=true)
  (hround: ∀it x w,f it x=some w->(∀z,w= .inr z->y= .inr z)->Ev true P assign ⟨JJ E0 ps.toList (sl it),qR 0 (encH x),qZ (encH x),s.N,np'⟩ (qA ⟨E1 it,qR 0 (encA it x),qZ (encA it x),s.N,np'⟩)/\
   Ev true P body ⟨E1 it,qR 0 (encA it x),qZ (encA it x),s.N,np'⟩ (qF encH E0 s.N s.np np' w Q))
  (hdone: ∀x,y= .inl x->Q .normal ⟨E0,qR 0 (encH x),qZ (encH x),s.N,s.np⟩):Ev false P (.rangeFunc fo ps assign body) s Q:=
 aER (u:= .str) hit hsl hf hc hpre hy E0 E1 encH encA np' k hk h0 (.inr ⟨hcN,fun _ _ _ _ _ _ h h2=>Eq.trans h (Eq.symm h2),toksK,hcK⟩) hpin hnp hlen hdead hA hlenA hps hpN hround hdone
section
variable {σ ρ:Type}{encH:σ->List qB}{E0:List (Nat×qC)}{N np np':Nat}{w:σ⊕ρ}{Q:Ex->St->Prop}{st s:St}
theorem aES (k:wV) (h:s.keep k=st):qA st .normal s:=⟨k,h⟩
theorem aET (k:wV) (x:σ) (hw:w= .inl x) (h:s.keep k=⟨[],qR 0 (encH x),qZ (encH x),N,np'⟩):qF encH E0 N np np' w Q .normal s:=⟨k,x,hw,h⟩
end
end Go.Proofs.YtkpflnijijccpaaGreatDoor.Vc
namespace Go.Proofs.YtkpflnijijccpaaGreatDoor
open Go.RowKit Go.Shelf Vc
section
attribute [local go_sem] Oper.semAt_some
def CR (d:(Ty.pair .str (.pair (.list .str) (.pair .str .unit))).den):List (Int×pD):=
 (0,d.1)::((List.range d.2.1.length).map fun j:Nat=>((j:Int)+1,d.2.1.getD j []))++[((d.2.1.length:Int)+1,d.2.2.1)]
def S6 (it:Int×pD):pN:=[.int .i64 it.1,.string ⟨it.2.toArray⟩]
@[go_sem] def aEU (it:Int×pD):List qC:=[(.val (.int .i64) it.1,none),(.val .str it.2,none)]
theorem aOm (it:Int×pD) (g:Gh) (w:pR):vS g w (aEU it) (S6 it):=⟨_,_,rfl,⟨wY _ _ _ _,trivial⟩,_,_,rfl,⟨BR _ _ _,trivial⟩,rfl⟩
theorem aOn (d:(Ty.pair .str (.pair (.list .str) (.pair .str .unit))).den):(CR d).length=d.2.1.length+2:=by simp [CR]
theorem aOo (d:(Ty.pair .str (.pair (.list .str) (.pair .str .unit))).den):(CR d)[0]? =some (0,d.1):=by simp [CR]
theorem aOp (d:(Ty.pair .str (.pair (.list .str) (.pair .str .unit))).den) {j:Nat}(h:j<d.2.1.length):(CR d)[j+1]? =some ((j:Int)+1,d.2.1.getD j []):=by
 simp [CR,aVN,h]
theorem aOq (d:(Ty.pair .str (.pair (.list .str) (.pair .str .unit))).den):(CR d)[d.2.1.length+1]? =some ((d.2.1.length:Int)+1,d.2.2.1):=by
 simp [CR]
theorem aOr:S5 Tryz.prog 57 (.pair .str (.pair (.list .str) (.pair .str .unit))) (fun d=>d.2.1.length<=4611686018427387904) CR S6:=by
 refine⟨fun _ _=>rfl,?_⟩;intro l b o d cs g W0 J Jx hpre hR hrd hJd hJxd hJt hY W h0;replace hY:=fun i it W h1 h2=>aOh (hY i it W W h1 h2 (Below.refl _ _)) (R':=fun e W'=>(e= .returned (.bool true)/\J (i+1) W')\/(e= .returned (.bool false)/\Jx W')) (fun _ _ h=>h.1);obtain⟨c1,c2,rfl,hh,c3,c4,rfl,hl,c5,c6,rfl,ht,hu⟩:=hR;rw[show c1=[.string ⟨d.1.toArray⟩] from hh] at hrd;rw[show c5=[.string ⟨d.2.2.1.toArray⟩] from ht,show c6=[] from hu] at hrd;obtain⟨a,cap,rfl,hcap,hel⟩:=hl;have r0: ∀i W,J i W->W.cell? ⟨b,o,none⟩=some (.string ⟨d.1.toArray⟩):=fun i W h=>by simpa using(hrd i W h).1 0 _ rfl
 have r1: ∀i W,J i W->W.cell? ⟨b,o+1,none⟩=some (.slice a d.2.1.length cap):=fun i W h=>(hrd i W h).1 1 _ rfl;have r2: ∀i W,J i W->W.cell? ⟨b,o+2,none⟩=some (.string ⟨d.2.2.1.toArray⟩):=fun i W h=>(hrd i W h).1 2 _ rfl;have re: ∀j,j<d.2.1.length->∃b' o',a=some ⟨b',o',none⟩/\∀i W,J i W->W.cell? ⟨b',o'+j,none⟩=some (.string ⟨(d.2.1.getD j []).toArray⟩):=by
  intro j hj;rcases hel with h|⟨b',o',h1,h2⟩
  .rw[h] at hj;cases hj
  .refine⟨b',o',h1,fun i W h=> ?_⟩;have hg:d.2.1[j]? =some (d.2.1.getD j []):=by rw[aVY,aVF hj];rfl
   obtain⟨cs,k1,k2,k3,k4⟩:=O0 h2 hg;rw[show cs=[.string ⟨(d.2.1.getD j []).toArray⟩] from k4] at k2;have k5:=k2 0 _ rfl;have k6:=k3 0 pH;rw[aWr,show j*Ty.str.cells=j from aXg j] at k5 k6;rw[(hrd i W h).2 _ _ k6];exact k5
 have q0:=aOo d;have qm:=fun j=>aOp d (j:=j);have ql:=aOq d;have qn:=aOn d;generalize hn:d.2.1.length=n at*;refine(callsIn_wide (n:=0)).1 (callsIn_of_wp Tryz.func57 rfl trivial ?_);simp only[Tryz.ntmps57,aWn,aVw,aVD,Nat.reduceAdd,Nat.reduceSub,Array.replicate_succ,Array.replicate_zero,List.push_toArray,List.append_toArray,List.nil_append,List.cons_append];have c0:=r0 0 W h0;obtain⟨fn,tmps,assign,body,hy,hQ⟩:=hY 0 _ W q0 h0;dsimp only[S6] at hy
 gi_wp2
 refine⟨rfl,hQ.mono ?_⟩;clear hQ hy;rintro e W1 (⟨rfl,hJ1⟩ |⟨rfl,hJx⟩)
 .have s1:=r1 _ W1 hJ1
  gi_wp2
  gi_loopw [13] (fun i wr=> ∃k:Nat,k<=n/\i= .int .i64 k/\J (k+1) wr) (fun i _=>n- (RowKit.intOf i).toNat)
  case atStart=>exact⟨0,aWC _,rfl,hJ1⟩
  case round=>
   obtain⟨k,hk,rfl,hJs⟩:=hrel;by_cases hlt:k<n
   .obtain⟨b',o',rfl,hce⟩:=re k hlt;have hc':=hce _ _ hJs;have hq:=qm k hlt;clear re qm ql q0 hce;generalize d.2.1.getD k []=x at hc' hq;obtain⟨fn,tmps,assign,body,hy,hQ⟩:=hY _ _ wr hq hJs;dsimp only[S6] at hy
    gi_wp2
    refine⟨rfl,hQ.mono ?_⟩;clear hQ hy;rintro e W2 (⟨rfl,hJ2⟩ |⟨rfl,hJx⟩)
    .gi_wp2
     go_roundw
     case rel=>exact⟨k+1,pG,by simp,hJ2⟩
     case measure=>
      show n- (k+1)<n-k;omega
    .gi_wp2
     refine bodyPost_ret (results_none rfl _ _ _) rfl ?_;exact⟨⟨_,rfl⟩,.inr hJx⟩
   .obtain rfl:k=n:=by omega
    have s1:=r1 _ _ hJs;have s2:=r2 _ _ hJs;obtain⟨fn,tmps,assign,body,hy,hQ⟩:=hY _ _ wr ql hJs;dsimp only[S6] at hy
    gi_wp2
    refine⟨rfl,hQ.mono ?_⟩;clear hQ hy;rintro e W2 (⟨rfl,hJ2⟩ |⟨rfl,hJx⟩)
    .gi_wp2
     go_end0
     exact⟨⟨_,rfl⟩,.inl (by rw[qn];exact hJ2)⟩
    .gi_wp2
     go_end0
     exact⟨⟨_,rfl⟩,.inr hJx⟩
 .gi_wp2
  refine bodyPost_ret (results_none rfl _ _ _) rfl ?_;exact⟨⟨_,rfl⟩,.inr hJx⟩
theorem XW: ∀(s:pD) (c:UInt8),Lib.indexByte s c<s.length/\ -1<=Lib.indexByte s c
 |[],_=>by simp [Lib.indexByte]
 |b::l,c=>by
  have:=XW l c;unfold Lib.indexByte;split
  .simp
  .split
   .simp;omega
   .simp only[aVw];omega
theorem aOs (l:pD) (m n:Nat):(⟨l.toArray⟩:ByteArray).extract m n=⟨((l.drop m).take (n-m)).toArray⟩:=by
 apply ByteArray.ext;apply aWF.1;simp
end
end Go.Proofs.YtkpflnijijccpaaGreatDoor
namespace Go.Proofs.YtkpflnijijccpaaGreatDoor
open Vc Go.RowKit
def HL (g:Gh) (k n:Nat) (v:pS):Gh:={g with cur:=fun i m=>if i=k then(if m=n then some v else none) else g.cur i m}
theorem DK (g:Gh) (k n:Nat) (v:pS):(HL g k n v).cur k n=some v:=by simp [HL]
theorem a2o (g:Gh) (k n:Nat) (v:pS) {m:Nat}(h:n<m):(HL g k n v).cur k m=none:=by
 simp only[HL,aW8];rw[aVv pG]
theorem aOt {g:Gh}{w w':pR}{e:TypeId}{l l':pE}{n m b cap:Nat}{cur':Array pS}{side:List Prop}
  (hH:sL g w (qR 0 [.row e .str l n])) (hcur:g.cur 0 n=some (.slice (some ⟨b,0,none⟩) n cap))
  (hcm:cap<=maxLen) (hmc:m<=cap) (hl':l'.length=m)
  (hnew:w'.heap[b]? =some (.cells cur' e (0,0))) (hcs':cur'.size=cap) (htk:cur'.toList.take m=l'.map Go.Proofs.encStr) (hgr:w.grownBy w' (some b)):
  ∃g',EL g w [.row e .str l n] ⟨side,[(.own 1 m,none)],[.dead,.row e .str l' m]⟩ g' w' (.slice (some ⟨b,0,none⟩) m cap):=by
 have hg0:qE (qR 0 [qB.row e .str l n]) 0=some (.row e .str l n):=rfl;obtain⟨hl,v,xs,hc2,hown,hF,hnone,hseal⟩:=hH.blk 0 _ hg0;rw[hcur] at hc2;obtain rfl:=aVx hc2;have hb0: ∀o,yX g (qR 0 [qB.row e .str l n]) b o:=fun o=>⟨0,_,hg0,_,hcur,rfl⟩;have hNG:NG<=b:=hH.tab.2 0 _ b 0 hg0 ⟨_,hcur,rfl⟩;have hS: ∀b' o,g.S b' o->b'≠b:=fun b' o h e1=>hseal b rfl o (e1▸h);have hcell: ∀b' o,g.S b' o->w'.cell? ⟨b',o,none⟩=w.cell? ⟨b',o,none⟩:=fun b' o h=>aVT (a:=⟨b',o,none⟩) (hgr.block b' (hH.sl b' o h) (fun e1=>hS b' o h (aVx e1)));refine⟨HL g 1 m (.slice (some ⟨b,0,none⟩) m cap),fun b' o h=>⟨h,hcell b' o h⟩,⟨fun i blk h=> ?_,fun i j bi bj b' o hij hi hj ho hp=> ?_,fun b' o h=>aV7 (hH.sl b' o h) hgr.size,KY hH.tab.1 hgr.size fun b' h=>hgr.block b' (aV7 h hH.tab.1.1) (fun e1=>by have:=aVx e1;omega),fun i blk b' o h ho=> ?_⟩,⟨⟨DK ..,.inr ⟨b,cap,rfl,hmc⟩⟩,trivial⟩,⟨hgr.os,hgr.tape,hgr.output,hgr.size,fun b' hb hn=>hgr.block b' hb fun e1=>hn 0 (by rw[aVx e1];exact hb0 0),fun b' o hb hn=> ?_,fun b' o h=> .inl h,fun b' s h=> ?_⟩,fun i blk b' o h ho=> ?_,fun _ _ _ _ _=>rfl,fun i t x ts u y us h=> ?_,fun i p hi h=>h,fun i q u hi h=> ?_⟩
 .match i,h with
  |0,h=>cases h;trivial
  |1,h=>
   cases h;refine⟨hl',_,l'.map Go.Proofs.encStr,DK ..,⟨by simp [hl',Ty.cells],.inr ⟨b,cap,cur',rfl,aWC _,hnew,hmc,hcm,by simpa[Ty.cells] using hcs',by simpa[Ty.cells] using htk⟩⟩,XT _,fun q hq=>a2o g 1 m _ hq,fun b' hb o hs=> ?_⟩;cases hb;exact hseal b rfl o hs
  |i+2,h=>simp [qR,qE] at h
 .match i,j,hi,hj with
  |0,_,hi,_=>cases hi;exact ho
  |_,0,_,hj=>cases hj;exact hp
  |1,1,_,_=>exact hij rfl
  |i+2,_,hi,_=>simp [qR,qE] at hi
  |1,j+2,_,hj=>simp [qR,qE] at hj
 .match i,h with
  |0,h=>cases h;exact ho.elim
  |1,h=>
   cases h;obtain⟨v,h1,h2⟩:=ho;rw[DK] at h1;obtain rfl:=aVx h1;cases h2;exact hNG
  |i+2,h=>simp [qR,qE] at h
 .have hne:b'≠b:=fun e1=>hn (e1▸hb0 o);have:=hgr.block b' hb (fun e1=>hne (aVx e1));exact⟨aVT (a:=⟨b',o,none⟩) this,aWm (a:=⟨b',o,none⟩) this⟩
 .by_cases e1:b'=b
  .exact .inr fun o=>e1▸hb0 o
  .exact .inl ((CP (hgr.block b' (CO h) (fun e2=>e1 (aVx e2)))).trans h)
 .match i,h with
  |0,h=>cases h;exact ho.elim
  |1,h=>
   cases h;obtain⟨v,h1,h2⟩:=ho;rw[DK] at h1;obtain rfl:=aVx h1;cases h2;exact .inr (hb0 o)
  |i+2,h=>simp at h
 .match i,h with
  |0,h=>cases h
  |i+1,h=>simp at h
 .match i,hi with
  |0,_=>simpa[HL] using h
theorem aOu {g:Gh}{w:pR}{e:TypeId}{l:pE}{side:List Prop}
  (hH:sL g w (qR 0 [.row e .str l 0])) {v:pS}(hcur:g.cur 0 0=some v):
  ∃g',EL g w [.row e .str l 0] ⟨side,[(.own 1 0,none)],[.dead,.row e .str [] 0]⟩ g' w v:=by
 have hg0:qE (qR 0 [qB.row e .str l 0]) 0=some (.row e .str l 0):=rfl;obtain⟨hl,v',xs,hc2,hown,hF,hnone,hseal⟩:=hH.blk 0 _ hg0;rw[hcur] at hc2;obtain rfl:=aVx hc2;have hb0: ∀b o,v.ownBlock=some b->yX g (qR 0 [qB.row e .str l 0]) b o:=fun b o h=>⟨0,_,hg0,_,hcur,h⟩;have hv:(v= .slice none 0 0/\0=0)\/∃b cap,v= .slice (some ⟨b,0,none⟩) 0 cap/\0<=cap:=by
  rcases hown.2 with⟨h1,h2⟩ |⟨b,cap,cur,h1,_,_,h2,_⟩
  .exact .inl ⟨h1,rfl⟩
  .exact .inr ⟨b,cap,h1,h2⟩
 refine⟨HL g 1 0 v,fun b' o h=>⟨h,rfl⟩,⟨fun i blk h=> ?_,fun i j bi bj b' o hij hi hj ho hp=> ?_,hH.sl,hH.tab.1,fun i blk b' o h ho=> ?_⟩,⟨⟨DK ..,hv⟩,trivial⟩,Fr.refl _ _ _,fun i blk b' o h ho=> ?_,fun _ _ _ _ _=>rfl,fun i t x ts u y us h=> ?_,fun i p hi h=>h,fun i q u hi h=> ?_⟩
 .match i,h with
  |0,h=>cases h;trivial
  |1,h=>
   cases h;have hx:xs=[]:=by
    have:=hown.1;simpa using this
   subst hx;exact⟨rfl,v,[],DK ..,hown,rfl,fun q hq=>a2o g 1 0 _ hq,hseal⟩
  |i+2,h=>simp [qR,qE] at h
 .match i,j,hi,hj with
  |0,_,hi,_=>cases hi;exact ho
  |_,0,_,hj=>cases hj;exact hp
  |1,1,_,_=>exact hij rfl
  |i+2,_,hi,_=>simp [qR,qE] at hi
  |1,j+2,_,hj=>simp [qR,qE] at hj
 .match i,h with
  |0,h=>cases h;exact ho.elim
  |1,h=>
   cases h;obtain⟨v',h1,h2⟩:=ho;rw[DK] at h1;obtain rfl:=aVx h1;exact hH.tab.2 0 _ b' o hg0 ⟨_,hcur,h2⟩
  |i+2,h=>simp [qR,qE] at h
 .match i,h with
  |0,h=>cases h;exact ho.elim
  |1,h=>
   cases h;obtain⟨v',h1,h2⟩:=ho;rw[DK] at h1;obtain rfl:=aVx h1;exact .inr (hb0 b' o h2)
  |i+2,h=>simp at h
 .match i,h with
  |0,h=>cases h
  |i+1,h=>simp at h
 .match i,hi with
  |0,_=>simpa[HL] using h
theorem aEV {g:Gh}{w w':pR}{e:TypeId}{l:pE}{n b:Nat}{side:List Prop}
  (hH:sL g w (qR 0 [])) (hb:Below w.heap.size w w') (hbb:w.heap.size<=b) (hl:l.length=n) (hnm:n<=maxLen)
  (hnew:w'.heap[b]? =some (.cells (l.map Go.Proofs.encStr).toArray e (0,0))):
  ∃g',EL g w [] ⟨side,[(.own 0 n,none)],[.row e .str l n]⟩ g' w' (.slice (some ⟨b,0,none⟩) n n):=by
 have hlt: ∀b' o,g.S b' o->b'≠b:=fun b' o h e1=>by have:=hH.sl b' o h;omega
 refine⟨HL g 0 n (.slice (some ⟨b,0,none⟩) n n),fun b' o h=>⟨h,aVT (a:=⟨b',o,none⟩) (hb.block b' (hH.sl b' o h))⟩,⟨fun i blk h=> ?_,fun i j bi bj b' o hij hi hj ho hp=> ?_,fun b' o h=>aV7 (hH.sl b' o h) hb.size,KY hH.tab.1 hb.size fun b' h=>hb.block b' (aV7 h hH.tab.1.1),fun i blk b' o h ho=> ?_⟩,⟨⟨DK ..,.inr ⟨b,n,rfl,aVR _⟩⟩,trivial⟩,⟨hb.os,hb.tape,hb.output,hb.size,fun b' hb' _=>hb.block b' hb',fun b' o hb' _=>⟨aVT (a:=⟨b',o,none⟩) (hb.block b' hb'),aWm (a:=⟨b',o,none⟩) (hb.block b' hb')⟩,fun b' o h=> .inl h,fun b' s h=> .inl ((CP (hb.block b' (CO h))).trans h)⟩,fun i blk b' o h ho=> ?_,fun _ _ _ _ h=>(by cases h),fun i t x ts u y us h=>(by cases h),fun i p hi h=>h,fun i q u hi h=>(by simp at hi)⟩
 .match i,h with
  |0,h=>
   cases h;refine⟨hl,_,l.map Go.Proofs.encStr,DK ..,⟨by simp [hl,Ty.cells],.inr ⟨b,n,_,rfl,aWC _,hnew,aVR _,hnm,by simp [hl,Ty.cells],?_⟩⟩,XT _,fun q hq=>a2o g 0 n _ hq,fun b' hb' o hs=> ?_⟩
   .exact List.take_of_length_le (by simp [hl,Ty.cells])
   .cases hb';exact hlt b o hs rfl
  |i+1,h=>simp [qR,qE] at h
 .match i,j,hi,hj with
  |0,0,_,_=>exact hij rfl
  |i+1,_,hi,_=>simp [qR,qE] at hi
  |0,j+1,_,hj=>simp [qR,qE] at hj
 .match i,h with
  |0,h=>
   cases h;obtain⟨v',h1,h2⟩:=ho;rw[DK] at h1;obtain rfl:=aVx h1;cases h2;exact aWx hH.tab.1.1 hbb
  |i+1,h=>simp [qR,qE] at h
 .match i,h with
  |0,h=>
   cases h;obtain⟨v',h1,h2⟩:=ho;rw[DK] at h1;obtain rfl:=aVx h1;cases h2;exact .inl hbb
  |i+1,h=>simp at h
end Go.Proofs.YtkpflnijijccpaaGreatDoor
namespace Go.Proofs
open Go.RowKit Go.Lib
def Tryz.lays160_ren:Go.Shelf.Ren:=⟨fun|160=>85|232=>118|231=>117|227=>119|234=>121|233=>120|236=>123|235=>122|228=>160|271=>163|151=>162|197=>161|120=>196|152=>195|260=>194|137=>108|119=>219|224=>187|225=>186|217=>149|266=>185|n=>n,fun|9=>9|4=>4|3=>3|5=>5|117=>162|116=>161|0=>0|124=>165|21=>21|105=>191|46=>175|119=>182|139=>230|138=>229|n=>n,fun|3=>3|4=>4|n=>n⟩
theorem Tryz.lays160:Go.Proofs.Lays.n160 Tryz.prog Tryz.lays160_ren:={
 mixed:=by kernel_rfl
 f119:=Tryz.func219.trans (aVL some pU)
 f120:=Tryz.func196.trans (aVL some pU)
 f137:=Tryz.func108.trans (aVL some pU)
 f151:=Tryz.func162.trans (aVL some pU)
 f152:=Tryz.func195.trans (aVL some pU)
 f160:=Tryz.func85.trans (aVL some pU)
 f197:=Tryz.func161.trans (aVL some pU)
 f217:=Tryz.func149.trans (aVL some pU)
 f224:=Tryz.func187.trans (aVL some pU)
 f225:=Tryz.func186.trans (aVL some pU)
 f227:=Tryz.func119.trans (aVL some pU)
 f228:=Tryz.func160.trans (aVL some pU)
 f231:=Tryz.func117.trans (aVL some pU)
 f232:=Tryz.func118.trans (aVL some pU)
 f233:=Tryz.func120.trans (aVL some pU)
 f234:=Tryz.func121.trans (aVL some pU)
 f235:=Tryz.func122.trans (aVL some pU)
 f236:=Tryz.func123.trans (aVL some pU)
 f260:=Tryz.func194.trans (aVL some pU)
 f266:=Tryz.func185.trans (aVL some pU)
 f271:=Tryz.func163.trans (aVL some pU)
 t0:=Tryz.underlying0
 a0:=Tryz.isAgg0
 z0:=Tryz.sizeOf0
 v0:=Tryz.zeroValue0
 t3:=Tryz.underlying3
 a3:=Tryz.isAgg3
 z3:=Tryz.sizeOf3
 v3:=Tryz.zeroValue3
 t4:=Tryz.underlying4
 a4:=Tryz.isAgg4
 z4:=Tryz.sizeOf4
 v4:=Tryz.zeroValue4
 t5:=Tryz.underlying5
 a5:=Tryz.isAgg5
 z5:=Tryz.sizeOf5
 v5:=Tryz.zeroValue5
 t9:=Tryz.underlying9
 a9:=Tryz.isAgg9
 z9:=Tryz.sizeOf9
 v9:=Tryz.zeroValue9
 t21:=Tryz.underlying21
 a21:=Tryz.isAgg21
 z21:=Tryz.sizeOf21
 v21:=Tryz.zeroValue21
 t46:=Tryz.underlying175
 a46:=Tryz.isAgg175
 z46:=Tryz.sizeOf175
 v46:=Tryz.zeroValue175
 t105:=Tryz.underlying191
 a105:=Tryz.isAgg191
 z105:=Tryz.sizeOf191
 v105:=Tryz.zeroValue191
 t116:=Tryz.underlying161
 a116:=Tryz.isAgg161
 z116:=Tryz.sizeOf161
 t117:=Tryz.underlying162
 a117:=Tryz.isAgg162
 z117:=Tryz.sizeOf162
 v117:=Tryz.zeroValue162
 t119:=Tryz.underlying182
 a119:=Tryz.isAgg182
 z119:=Tryz.sizeOf182
 t124:=Tryz.underlying165
 a124:=Tryz.isAgg165
 z124:=Tryz.sizeOf165
 v124:=Tryz.zeroValue165
 t138:=Tryz.underlying229
 a138:=Tryz.isAgg229
 z138:=Tryz.sizeOf229
 v138:=Tryz.zeroValue229
 t139:=Tryz.underlying230
 a139:=Tryz.isAgg230
 z139:=Tryz.sizeOf230
 v139:=Tryz.zeroValue230
 g3:=by kernel_rfl
 g4:=by kernel_rfl}
def Tryz.lays146_ren:Go.Shelf.Ren:=⟨fun|146=>131|221=>167|268=>199|138=>200|143=>110|195=>220|197=>161|218=>221|219=>151|260=>194|217=>149|225=>186|224=>187|267=>188|266=>185|314=>211|n=>n,fun|9=>9|31=>24|3=>3|4=>4|0=>0|105=>191|21=>21|5=>5|46=>175|119=>182|139=>230|138=>229|146=>233|51=>205|n=>n,fun|1=>1|3=>3|4=>4|n=>n⟩
theorem Tryz.lays146:Go.Proofs.Lays.n146 Tryz.prog Tryz.lays146_ren:={
 mixed:=by kernel_rfl
 f138:=Tryz.func200.trans (aVL some pU)
 f143:=Tryz.func110.trans (aVL some pU)
 f146:=Tryz.func131.trans (aVL some pU)
 f195:=Tryz.func220.trans (aVL some pU)
 f197:=Tryz.func161.trans (aVL some pU)
 f217:=Tryz.func149.trans (aVL some pU)
 f218:=Tryz.func221.trans (aVL some pU)
 f219:=Tryz.func151.trans (aVL some pU)
 f221:=Tryz.func167.trans (aVL some pU)
 f224:=Tryz.func187.trans (aVL some pU)
 f225:=Tryz.func186.trans (aVL some pU)
 f260:=Tryz.func194.trans (aVL some pU)
 f266:=Tryz.func185.trans (aVL some pU)
 f267:=Tryz.func188.trans (aVL some pU)
 f268:=Tryz.func199.trans (aVL some pU)
 f314:=Tryz.func211.trans (aVL some pU)
 t0:=Tryz.underlying0
 a0:=Tryz.isAgg0
 z0:=Tryz.sizeOf0
 v0:=Tryz.zeroValue0
 t3:=Tryz.underlying3
 a3:=Tryz.isAgg3
 z3:=Tryz.sizeOf3
 v3:=Tryz.zeroValue3
 t4:=Tryz.underlying4
 a4:=Tryz.isAgg4
 z4:=Tryz.sizeOf4
 v4:=Tryz.zeroValue4
 t5:=Tryz.underlying5
 a5:=Tryz.isAgg5
 z5:=Tryz.sizeOf5
 v5:=Tryz.zeroValue5
 t9:=Tryz.underlying9
 a9:=Tryz.isAgg9
 z9:=Tryz.sizeOf9
 v9:=Tryz.zeroValue9
 t21:=Tryz.underlying21
 a21:=Tryz.isAgg21
 z21:=Tryz.sizeOf21
 v21:=Tryz.zeroValue21
 t31:=Tryz.underlying24
 a31:=Tryz.isAgg24
 z31:=Tryz.sizeOf24
 v31:=Tryz.zeroValue24
 t46:=Tryz.underlying175
 a46:=Tryz.isAgg175
 z46:=Tryz.sizeOf175
 v46:=Tryz.zeroValue175
 t51:=Tryz.underlying205
 a51:=Tryz.isAgg205
 z51:=Tryz.sizeOf205
 v51:=Tryz.zeroValue205
 t105:=Tryz.underlying191
 a105:=Tryz.isAgg191
 z105:=Tryz.sizeOf191
 v105:=Tryz.zeroValue191
 t119:=Tryz.underlying182
 a119:=Tryz.isAgg182
 z119:=Tryz.sizeOf182
 t138:=Tryz.underlying229
 a138:=Tryz.isAgg229
 z138:=Tryz.sizeOf229
 v138:=Tryz.zeroValue229
 t139:=Tryz.underlying230
 a139:=Tryz.isAgg230
 z139:=Tryz.sizeOf230
 v139:=Tryz.zeroValue230
 t146:=Tryz.underlying233
 a146:=Tryz.isAgg233
 z146:=Tryz.sizeOf233
 v146:=Tryz.zeroValue233
 g1:=by kernel_rfl
 g3:=by kernel_rfl
 g4:=by kernel_rfl}
def Tryz.lays157_ren:Go.Shelf.Ren:=⟨fun|157=>113|229=>152|199=>153|261=>189|311=>212|312=>213|n=>n,fun|9=>9|31=>24|3=>3|5=>5|4=>4|119=>182|0=>0|40=>184|152=>211|21=>21|154=>213|51=>205|141=>215|196=>238|193=>235|198=>241|49=>239|194=>236|201=>244|226=>254|46=>175|227=>255|n=>n,fun|0=>0|6=>2|n=>n⟩
theorem Tryz.lays157:Go.Proofs.Lays.n157 Tryz.prog Tryz.lays157_ren:={
 mixed:=by kernel_rfl
 f157:=Tryz.func113.trans (aVL some pU)
 f199:=Tryz.func153.trans (aVL some pU)
 f229:=Tryz.func152.trans (aVL some pU)
 f261:=Tryz.func189.trans (aVL some pU)
 f311:=Tryz.func212.trans (aVL some pU)
 f312:=Tryz.func213.trans (aVL some pU)
 t0:=Tryz.underlying0
 a0:=Tryz.isAgg0
 z0:=Tryz.sizeOf0
 v0:=Tryz.zeroValue0
 t3:=Tryz.underlying3
 a3:=Tryz.isAgg3
 z3:=Tryz.sizeOf3
 v3:=Tryz.zeroValue3
 t4:=Tryz.underlying4
 a4:=Tryz.isAgg4
 z4:=Tryz.sizeOf4
 v4:=Tryz.zeroValue4
 t5:=Tryz.underlying5
 a5:=Tryz.isAgg5
 z5:=Tryz.sizeOf5
 v5:=Tryz.zeroValue5
 t9:=Tryz.underlying9
 a9:=Tryz.isAgg9
 z9:=Tryz.sizeOf9
 v9:=Tryz.zeroValue9
 t21:=Tryz.underlying21
 a21:=Tryz.isAgg21
 z21:=Tryz.sizeOf21
 v21:=Tryz.zeroValue21
 t31:=Tryz.underlying24
 a31:=Tryz.isAgg24
 z31:=Tryz.sizeOf24
 v31:=Tryz.zeroValue24
 t40:=Tryz.underlying184
 a40:=Tryz.isAgg184
 z40:=Tryz.sizeOf184
 v40:=Tryz.zeroValue184
 t46:=Tryz.underlying175
 a46:=Tryz.isAgg175
 z46:=Tryz.sizeOf175
 v46:=Tryz.zeroValue175
 t49:=Tryz.underlying239
 a49:=Tryz.isAgg239
 z49:=Tryz.sizeOf239
 v49:=Tryz.zeroValue239
 t51:=Tryz.underlying205
 a51:=Tryz.isAgg205
 z51:=Tryz.sizeOf205
 v51:=Tryz.zeroValue205
 t119:=Tryz.underlying182
 a119:=Tryz.isAgg182
 z119:=Tryz.sizeOf182
 t141:=Tryz.underlying215
 a141:=Tryz.isAgg215
 z141:=Tryz.sizeOf215
 v141:=Tryz.zeroValue215
 t152:=Tryz.underlying211
 a152:=Tryz.isAgg211
 z152:=Tryz.sizeOf211
 v152:=Tryz.zeroValue211
 t154:=Tryz.underlying213
 a154:=Tryz.isAgg213
 z154:=Tryz.sizeOf213
 v154:=Tryz.zeroValue213
 t193:=Tryz.underlying235
 a193:=Tryz.isAgg235
 z193:=Tryz.sizeOf235
 v193:=Tryz.zeroValue235
 t194:=Tryz.underlying236
 a194:=Tryz.isAgg236
 z194:=Tryz.sizeOf236
 v194:=Tryz.zeroValue236
 t196:=Tryz.underlying238
 a196:=Tryz.isAgg238
 z196:=Tryz.sizeOf238
 v196:=Tryz.zeroValue238
 t198:=Tryz.underlying241
 a198:=Tryz.isAgg241
 z198:=Tryz.sizeOf241
 v198:=Tryz.zeroValue241
 t201:=Tryz.underlying244
 a201:=Tryz.isAgg244
 z201:=Tryz.sizeOf244
 v201:=Tryz.zeroValue244
 t226:=Tryz.underlying254
 a226:=Tryz.isAgg254
 z226:=Tryz.sizeOf254
 v226:=Tryz.zeroValue254
 t227:=Tryz.underlying255
 a227:=Tryz.isAgg255
 z227:=Tryz.sizeOf255
 v227:=Tryz.zeroValue255
 g0:=by kernel_rfl
 g6:=by kernel_rfl}
def Tryz.lays194_ren:Go.Shelf.Ren:=⟨fun|194=>91|n=>n,fun|31=>24|9=>9|3=>3|4=>4|0=>0|n=>n,fun|n=>n⟩
theorem Tryz.lays194:Go.Proofs.Lays.n194 Tryz.prog Tryz.lays194_ren:={
 mixed:=by kernel_rfl
 f194:=Tryz.func91.trans (aVL some pU)
 t0:=Tryz.underlying0
 a0:=Tryz.isAgg0
 z0:=Tryz.sizeOf0
 v0:=Tryz.zeroValue0
 t3:=Tryz.underlying3
 a3:=Tryz.isAgg3
 z3:=Tryz.sizeOf3
 v3:=Tryz.zeroValue3
 t4:=Tryz.underlying4
 a4:=Tryz.isAgg4
 z4:=Tryz.sizeOf4
 v4:=Tryz.zeroValue4
 t9:=Tryz.underlying9
 a9:=Tryz.isAgg9
 z9:=Tryz.sizeOf9
 v9:=Tryz.zeroValue9
 t31:=Tryz.underlying24
 a31:=Tryz.isAgg24
 z31:=Tryz.sizeOf24
 v31:=Tryz.zeroValue24}
def Tryz.lays171M_ren:Go.Shelf.Ren:=⟨fun|171=>181|243=>208|246=>223|283=>229|284=>230|285=>231|286=>232|129=>178|317=>236|318=>237|319=>238|320=>239|337=>242|338=>243|n=>n,fun|3=>3|9=>9|2=>2|4=>4|171=>259|0=>0|53=>207|37=>22|5=>5|173=>261|212=>267|51=>205|20=>20|213=>268|46=>175|232=>271|233=>272|n=>n,fun|17=>5|18=>6|19=>7|n=>n⟩
theorem Tryz.lays171M:Go.Proofs.LaysM.n171 Tryz.prog Tryz.lays171M_ren:={
 mixed:=by kernel_rfl
 f129:=Tryz.func178.trans (aVL some pU)
 f171:=Tryz.func181.trans (aVL some pU)
 f243:=Tryz.func208.trans (aVL some pU)
 f246:=Tryz.func223.trans (aVL some pU)
 f283:=Tryz.func229.trans (aVL some pU)
 f284:=Tryz.func230.trans (aVL some pU)
 f285:=Tryz.func231.trans (aVL some pU)
 f286:=Tryz.func232.trans (aVL some pU)
 f317:=Tryz.func236.trans (aVL some pU)
 f318:=Tryz.func237.trans (aVL some pU)
 f319:=Tryz.func238.trans (aVL some pU)
 f320:=Tryz.func239.trans (aVL some pU)
 f337:=Tryz.func242.trans (aVL some pU)
 f338:=Tryz.func243.trans (aVL some pU)
 t0:=Tryz.underlying0
 a0:=Tryz.isAgg0
 z0:=Tryz.sizeOf0
 v0:=Tryz.zeroValue0
 t2:=Tryz.underlying2
 a2:=Tryz.isAgg2
 z2:=Tryz.sizeOf2
 v2:=Tryz.zeroValue2
 t3:=Tryz.underlying3
 a3:=Tryz.isAgg3
 z3:=Tryz.sizeOf3
 v3:=Tryz.zeroValue3
 t4:=Tryz.underlying4
 a4:=Tryz.isAgg4
 z4:=Tryz.sizeOf4
 v4:=Tryz.zeroValue4
 t5:=Tryz.underlying5
 a5:=Tryz.isAgg5
 z5:=Tryz.sizeOf5
 v5:=Tryz.zeroValue5
 t9:=Tryz.underlying9
 a9:=Tryz.isAgg9
 z9:=Tryz.sizeOf9
 v9:=Tryz.zeroValue9
 t20:=Tryz.underlying20
 a20:=Tryz.isAgg20
 z20:=Tryz.sizeOf20
 v20:=Tryz.zeroValue20
 t37:=Tryz.underlying22
 a37:=Tryz.isAgg22
 z37:=Tryz.sizeOf22
 v37:=Tryz.zeroValue22
 t46:=Tryz.underlying175
 a46:=Tryz.isAgg175
 z46:=Tryz.sizeOf175
 v46:=Tryz.zeroValue175
 t51:=Tryz.underlying205
 a51:=Tryz.isAgg205
 z51:=Tryz.sizeOf205
 v51:=Tryz.zeroValue205
 t53:=Tryz.underlying207
 a53:=Tryz.isAgg207
 z53:=Tryz.sizeOf207
 v53:=Tryz.zeroValue207
 t171:=Tryz.underlying259
 a171:=Tryz.isAgg259
 z171:=Tryz.sizeOf259
 v171:=Tryz.zeroValue259
 t173:=Tryz.underlying261
 a173:=Tryz.isAgg261
 z173:=Tryz.sizeOf261
 v173:=Tryz.zeroValue261
 t212:=Tryz.underlying267
 a212:=Tryz.isAgg267
 z212:=Tryz.sizeOf267
 v212:=Tryz.zeroValue267
 t213:=Tryz.underlying268
 a213:=Tryz.isAgg268
 z213:=Tryz.sizeOf268
 t232:=Tryz.underlying271
 a232:=Tryz.isAgg271
 z232:=Tryz.sizeOf271
 v232:=Tryz.zeroValue271
 t233:=Tryz.underlying272
 a233:=Tryz.isAgg272
 z233:=Tryz.sizeOf272
 v233:=Tryz.zeroValue272
 g17:=by kernel_rfl
 g18:=by kernel_rfl
 g19:=by kernel_rfl
 i0:=by kernel_rfl
 i2:=by kernel_rfl
 i3:=by kernel_rfl
 i4:=by kernel_rfl
 i5:=by kernel_rfl
 i9:=by kernel_rfl
 i20:=by kernel_rfl
 i37:=by kernel_rfl
 i46:=by kernel_rfl
 i51:=by kernel_rfl
 i53:=by kernel_rfl
 i171:=by kernel_rfl
 i173:=by kernel_rfl
 i212:=by kernel_rfl
 i232:=by kernel_rfl
 i233:=by kernel_rfl
 m17:=by kernel_rfl
 m18:=by kernel_rfl
 m19:=by kernel_rfl}
def Tryz.laysDf_ren:Go.Shelf.Ren:=⟨fun|10=>130|6=>137|n=>n,fun|22=>24|23=>9|25=>58|3=>3|4=>4|0=>0|n=>n,fun|n=>n⟩
theorem Tryz.laysDf:Go.Proofs.SlLaysH.n10 Tryz.prog Tryz.laysDf_ren:={
 mixed:=by kernel_rfl
 f6:=⟨Tryz.f137.name,pH,Tryz.func137.trans (aVL some pU)⟩
 f10:=⟨Tryz.f130.name,pH,Tryz.func130.trans (aVL some pU)⟩
 t0:=Tryz.underlying0
 a0:=Tryz.isAgg0
 z0:=Tryz.sizeOf0
 v0:=Tryz.zeroValue0
 t3:=Tryz.underlying3
 a3:=Tryz.isAgg3
 z3:=Tryz.sizeOf3
 v3:=Tryz.zeroValue3
 t4:=Tryz.underlying4
 a4:=Tryz.isAgg4
 z4:=Tryz.sizeOf4
 v4:=Tryz.zeroValue4
 t22:=Tryz.underlying24
 a22:=Tryz.isAgg24
 z22:=Tryz.sizeOf24
 v22:=Tryz.zeroValue24
 a23:=Tryz.isAgg9
 z23:=Tryz.sizeOf9
 t25:=Tryz.underlying58
 a25:=Tryz.isAgg58
 z25:=Tryz.sizeOf58
 v25:=Tryz.zeroValue58}
def Tryz.lays156_ren:Go.Shelf.Ren:=⟨fun|156=>70|165=>101|166=>30|169=>31|240=>58|241=>142|276=>94|277=>183|n=>n,fun|31=>24|9=>9|3=>3|4=>4|0=>0|20=>20|72=>73|76=>76|70=>71|37=>22|75=>75|127=>106|164=>142|5=>5|80=>78|n=>n,fun|n=>n⟩
theorem Tryz.lays156:Go.Proofs.Lays.n156 Tryz.prog Tryz.lays156_ren:={
 mixed:=by kernel_rfl
 f156:=Tryz.func70.trans (aVL some pU)
 f165:=Tryz.func101.trans (aVL some pU)
 f166:=Tryz.func30.trans (aVL some pU)
 f169:=Tryz.func31.trans (aVL some pU)
 f240:=Tryz.func58.trans (aVL some pU)
 f241:=Tryz.func142.trans (aVL some pU)
 f276:=Tryz.func94.trans (aVL some pU)
 f277:=Tryz.func183.trans (aVL some pU)
 t0:=Tryz.underlying0
 a0:=Tryz.isAgg0
 z0:=Tryz.sizeOf0
 v0:=Tryz.zeroValue0
 t3:=Tryz.underlying3
 a3:=Tryz.isAgg3
 z3:=Tryz.sizeOf3
 v3:=Tryz.zeroValue3
 t4:=Tryz.underlying4
 a4:=Tryz.isAgg4
 z4:=Tryz.sizeOf4
 v4:=Tryz.zeroValue4
 t9:=Tryz.underlying9
 a9:=Tryz.isAgg9
 z9:=Tryz.sizeOf9
 v9:=Tryz.zeroValue9
 t20:=Tryz.underlying20
 a20:=Tryz.isAgg20
 z20:=Tryz.sizeOf20
 v20:=Tryz.zeroValue20
 t31:=Tryz.underlying24
 a31:=Tryz.isAgg24
 z31:=Tryz.sizeOf24
 v31:=Tryz.zeroValue24
 t37:=Tryz.underlying22
 a37:=Tryz.isAgg22
 z37:=Tryz.sizeOf22
 v37:=Tryz.zeroValue22
 t70:=Tryz.underlying71
 a70:=Tryz.isAgg71
 z70:=Tryz.sizeOf71
 v70:=Tryz.zeroValue71
 t72:=Tryz.underlying73
 a72:=Tryz.isAgg73
 z72:=Tryz.sizeOf73
 v72:=Tryz.zeroValue73
 t75:=Tryz.underlying75
 a75:=Tryz.isAgg75
 z75:=Tryz.sizeOf75
 v75:=Tryz.zeroValue75
 t76:=Tryz.underlying76
 a76:=Tryz.isAgg76
 z76:=Tryz.sizeOf76
 v76:=Tryz.zeroValue76
 t127:=Tryz.underlying106
 a127:=Tryz.isAgg106
 z127:=Tryz.sizeOf106
 v127:=Tryz.zeroValue106
 t164:=Tryz.underlying142
 a164:=Tryz.isAgg142
 z164:=Tryz.sizeOf142
 v164:=Tryz.zeroValue142}
def Tryz.lays219_ren:Go.Shelf.Ren:=⟨fun|219=>151|217=>149|225=>186|224=>187|267=>188|266=>185|314=>211|n=>n,fun|9=>9|3=>3|4=>4|5=>5|46=>175|146=>233|51=>205|n=>n,fun|1=>1|n=>n⟩
theorem Tryz.lays219:Go.Proofs.Lays.n219 Tryz.prog Tryz.lays219_ren:={
 mixed:=by kernel_rfl
 f217:=Tryz.func149.trans (aVL some pU)
 f219:=Tryz.func151.trans (aVL some pU)
 f224:=Tryz.func187.trans (aVL some pU)
 f225:=Tryz.func186.trans (aVL some pU)
 f266:=Tryz.func185.trans (aVL some pU)
 f267:=Tryz.func188.trans (aVL some pU)
 f314:=Tryz.func211.trans (aVL some pU)
 t3:=Tryz.underlying3
 a3:=Tryz.isAgg3
 z3:=Tryz.sizeOf3
 v3:=Tryz.zeroValue3
 t4:=Tryz.underlying4
 a4:=Tryz.isAgg4
 z4:=Tryz.sizeOf4
 v4:=Tryz.zeroValue4
 t5:=Tryz.underlying5
 a5:=Tryz.isAgg5
 z5:=Tryz.sizeOf5
 v5:=Tryz.zeroValue5
 t9:=Tryz.underlying9
 a9:=Tryz.isAgg9
 z9:=Tryz.sizeOf9
 v9:=Tryz.zeroValue9
 t46:=Tryz.underlying175
 a46:=Tryz.isAgg175
 z46:=Tryz.sizeOf175
 v46:=Tryz.zeroValue175
 t51:=Tryz.underlying205
 a51:=Tryz.isAgg205
 z51:=Tryz.sizeOf205
 v51:=Tryz.zeroValue205
 t146:=Tryz.underlying233
 a146:=Tryz.isAgg233
 z146:=Tryz.sizeOf233
 v146:=Tryz.zeroValue233
 g1:=by kernel_rfl}
theorem Tryz.builderExtraJ:Builder.Extra Tryz.prog Tryz.lays156_ren:={
 sizeBuilder:=by kernel_rfl
 liesBuilder:=by kernel_rfl
 t5:=Tryz.underlying5
 a5:=Tryz.isAgg5
 z5:=Tryz.sizeOf5
 v5:=Tryz.zeroValue5
 infoByte:=by kernel_rfl
 cellsByte:=by kernel_rfl
 sizeByte:=by kernel_rfl
 neB5:=by decide}
end Go.Proofs
namespace Go.Proofs.YtkpflnijijccpaaGreatDoor
open Vc Go.RowKit
theorem aEW {g:Gh}{w:pR}{e:TypeId}{l:pE}{n:Nat}{v:pS}(hH:sL g w (qR 0 [.row e .str l n])) (hv:rX g w (.own 0 n,none) v):
  l.length=n/\g.cur 0 n=some v/\((v= .slice none 0 0/\n=0)\/∃b cap cur,v= .slice (some ⟨b,0,none⟩) n cap/\w.heap[b]? =some (.cells cur e (0,0))/\n<=cap/\cap<=maxLen/\cur.size=cap/\Go.Sort.Holds Go.Proofs.encStr w b 0 l.toArray/\b<w.heap.size):=by
 have hg0:qE (qR 0 [qB.row e .str l n]) 0=some (.row e .str l n):=rfl;obtain⟨hl,v',xs,hcur,hown,hF,hnone,hseal⟩:=hH.blk 0 _ hg0;have hva:v=v':=by
  have:=hv.1.1;rw[hcur] at this;exact(aVx this).symm
 subst hva;subst hl;refine⟨rfl,hcur,?_⟩;obtain⟨hx,⟨rfl,h0⟩ |⟨b,cap,cur,rfl,hb0,hbk,hnc,hcm,hcs,htk⟩⟩:=hown
 .exact .inl ⟨rfl,h0⟩
 .have hxs:=a2g hF;subst hxs;have hc1:(Ty.str).cells=1:=rfl;rw[hc1,aXg] at hcs htk;refine .inr ⟨b,cap,cur,rfl,hbk,hnc,hcm,hcs,?_,?_⟩
  .intro j hj;have hj':j<l.length:=by simpa using hj
   refine⟨?_,Lib.frozen_of_heap hbk _⟩;rw[Lib.cell_of_heap hbk,aV5];have h2:(cur.toList.take l.length)[j]? =(l.map Go.Proofs.encStr)[j]? :=by rw[htk]
   rw[aWI hj',aWB] at h2;rw[h2];simp [hj']
  .rcases aWA b w.heap.size with h|h
   .exact h
   .rw[Array.getElem?_eq_none h] at hbk;cases hbk
theorem aEX {g:Gh}{w:pR}{e:TypeId}{l l':pE}{n q b cap:Nat}{cur:Array pS}{side:List Prop}{pad:pE}
  (hH:sL g w (qR 0 [.row e .str l n])) (hcur:g.cur 0 n=some (.slice (some ⟨b,0,none⟩) n cap)) (hbk:w.heap[b]? =some (.cells cur e (0,0))) (hcs:cur.size=cap)
  (hcm:cap<=maxLen) (hp:l'.length+pad.length<=cap):
  ∃g',EL g w [.row e .str l n] ⟨side,[(.own 1 l'.length,none)],[.dead,.row e .str l' l'.length]⟩ g' (Go.Sort.putRow Go.Proofs.encStr (Go.Sort.ahead w q) b 0 (l'++pad).toArray) (.slice (some ⟨b,0,none⟩) l'.length cap):=by
 refine aOt (cur':=Go.Sort.putCells Go.Proofs.encStr 0 (l'++pad).toArray cur) hH hcur hcm pG rfl ?_ (by simpa[Go.Sort.putCells] using hcs) ?_ ⟨rfl,rfl,rfl,by simp,fun k hk hne=> ?_⟩
 .simp [Go.Sort.putRow,Go.Sort.mapBlock,aWJ,hbk,Go.Sort.onCells]
 .have h1:=aEG (l'++pad) cur (by rw[aVu];omega);have h2:=aVL (List.take l'.length) h1;rw[List.take_take,aVu,Nat.min_eq_left (Nat.le_add_right _ _),List.map_append,aWk pI] at h2;exact h2.trans (List.take_of_length_le pI)
 .have hkb:b≠k:=fun h=>hne (by rw[h]);simp [Go.Sort.putRow,Go.Sort.mapBlock,aWJ,hkb]
@[go_sem] def S7:List qC->List qB->Option qI
 |[(.own 0 n,none)],[.row 9 .str l n2]=>some ⟨[n=n2,n2<=9223372036854775807],[(.own 1 (List.length (Lib.compact l)),none)],[.dead,.row 9 .str (Lib.compact l) (List.length (Lib.compact l))]⟩
 |_,_=>none
theorem a2p:xR Tryz.prog 91 S7:=by
 refine⟨fun _ _=>rfl,fun g w args vals L r hH ha hC hs=> ?_⟩;unfold S7 at hC;split at hC
 .rename_i n l n2;cases hC;obtain rfl:n=n2:=hs _ pI;have hn:=hs (n<=9223372036854775807) pI;clear hs;obtain⟨va,_,rfl,ra,hv⟩:=ha;cases hv;obtain⟨hl,hcur,⟨rfl,rfl⟩ |⟨b,cap,cur,rfl,hbk,hnc,hcm,hcs,hho,hb⟩⟩:=aEW hH ra
  .obtain rfl:l=[]:=aW1.1 hl;refine(Any.slices_Compact_string_empty Tryz.lays194 none 0 w).mono ?_;rintro en w' ⟨rfl,rfl⟩;obtain⟨g',hg⟩:=aOu (side:=[]) hH hcur;exact⟨_,g',rfl,hg.shut,hg.heap,hg.ret,hg.fr,hg.perm,hg.J,hg.ty,hg.Jt,hg.cur⟩
  .subst hl;refine(Any.slices_Compact_string Tryz.lays194 b 0 cap l w hho hn hnc).mono ?_;rintro en w' ⟨rfl,q,rfl⟩;obtain⟨g',hg⟩:=aEX (side:=[]) (q:=q) (l':=Lib.compact l) (pad:=List.replicate (l.length- (Lib.compact l).length) []) hH hcur hbk hcs hcm (by have:=Lib.compact_length_le l;simp;omega);exact⟨_,g',rfl,hg.shut,hg.heap,hg.ret,hg.fr,hg.perm,hg.J,hg.ty,hg.Jt,hg.cur⟩
 .cases hC
def uK (l:pE):pE:=l.filter fun x=> !decide (x=[])
@[go_sem] def S8:List qC->List qB->Option qI
 |[(.own 0 n,none),(.val .clo (some (132,[])),none)],[.row 9 .str l n2]=>some ⟨[n=n2,0<n2/\n2<=9223372036854775807],[(.own 1 (List.length (uK l)),none)],[.dead,.row 9 .str (uK l) (List.length (uK l))]⟩
 |_,_=>none
theorem aEY (x:pD) (W:pR):FnGives Tryz.prog 132 #[] #[Go.Proofs.encStr x] (.bool (decide (x=[]))) W:=by
 show Calls Tryz.prog 132 #[.string ⟨x.toArray⟩] W _
 go_enter Tryz.func132,Tryz.ntmps132
 go_wp2
 all_goals (go_ret;refine⟨?_,0,rfl⟩;cases x<;>simp_all)
theorem a2q:xR Tryz.prog 130 S8:=by
 refine⟨fun _ _=>rfl,fun g w args vals L r hH ha hC hs=> ?_⟩;unfold S8 at hC;split at hC
 .rename_i n l n2;cases hC;obtain rfl:n=n2:=hs _ pI;obtain⟨hn0,hn⟩:=hs (0<n/\n<=9223372036854775807) pI;clear hs;obtain⟨va,_,rfl,ra,vb,_,rfl,rb,hv⟩:=ha;cases hv;obtain rfl:vb= .func (.func 132) #[] #[]:=by
   rcases rb.1 with⟨h1,_⟩ |⟨_,vs,h2,h3⟩
   .cases h1
   .rw[show vs=[] from h2] at h3;simpa using h3
  obtain⟨hl,hcur,⟨rfl,rfl⟩ |⟨b,cap,cur,rfl,hbk,hnc,hcm,hcs,hho,hb⟩⟩:=aEW hH ra
  .omega
  .subst hl;refine(AnyE.slices_DeleteFunc Tryz.laysDf Go.Proofs.encStr (fun _=>rfl) (fun x=>decide (x=[])) 132 #[] (fun _ _=>rfl) [] Tryz.zeroValue9 b 0 cap l.toArray w (fun W x _=>aEY x W) (fun n os dk x _=>aEY x _) hho (by simpa using hn) (by simpa using hnc)).mono ?_;rintro en w' ⟨rfl,q,rfl⟩;obtain⟨g',hg⟩:=aEX (side:=[]) (q:=q) (l':=uK l) (pad:=List.replicate (l.length- (uK l).length) []) hH hcur hbk hcs hcm (by have:(uK l).length<=l.length:=List.length_filter_le _ _;simp;omega);exact⟨_,g',rfl,hg.shut,hg.heap,hg.ret,hg.fr,hg.perm,hg.J,hg.ty,hg.Jt,hg.cur⟩
 .cases hC
theorem aOv {w:pR}(h:DA w):Lib.TabIs Tryz.prog w "internal/strconv.uint64pow10" .u64 Lib.pow10Tab:=by
 obtain⟨_,e,fz,h1⟩:=h.2.2.2 _ (aVz);unfold Lib.TabIs World.var?;rw[show Tryz.prog.globalNamed "internal/strconv.uint64pow10" =some 5 from by kernel_rfl]
 simp only[aVq];rw[h1]
theorem aOw {w:pR}(h:DA w):Lib.TabIs Tryz.prog w "strings.asciiSpace" .u8 Lib.asciiSpaceTab:=by
 obtain⟨_,e,fz,h1⟩:=h.2.2.2 _ (aVB _ aVz);unfold Lib.TabIs World.var?;rw[show Tryz.prog.globalNamed "strings.asciiSpace" =some 0 from by kernel_rfl]
 simp only[aVq];rw[h1]
@[go_sem] def S9:List qC->List qB->Option qI
 |[(.val .str O,none),(.val .str Z,none)],[]=>some ⟨[(List.all Z fun b=>decide (b.toNat<128))=true/\List.length Z<4294967281,List.length O<=9223372036854775807],[(.val .str (Lib.trimS O Z),none)],[]⟩
 |_,_=>none
theorem a2r:xR Tryz.prog 85 S9:=by
 refine JH (fun _ _=>rfl) fun g w args vals L r hT ha hC hs=> ?_;unfold S9 at hC;split at hC
 .rename_i s c;cases hC;obtain⟨h1,h2⟩:=hs _ aVz;have h3:=hs (List.length s<=9223372036854775807) pI;obtain⟨va,_,rfl,ra,vb,_,rfl,rb,hv⟩:=ha;obtain rfl:=xA ra.1;obtain rfl:=xA rb.1;cases hv;exact⟨rfl,rfl,(Any.strings_Trim_laid Tryz.lays160 pU ⟨List.toArray s⟩ ⟨List.toArray c⟩ w h3 h2 (ascii_of_all h1)).mono fun e w' ⟨he,hb⟩=>⟨_,he,hb,BR _ _ _,trivial⟩⟩
 .cases hC
@[go_sem] def SA:List qC->List qB->Option qI
 |[(.val (.int .i64) n,none)],[]=>some ⟨[-9223372036854775808<=n/\n<=9223372036854775807],[(.val .str (Lib.itoa n),none)],[]⟩
 |_,_=>none
theorem a2s:xR Tryz.prog 181 SA:=by
 refine JH (fun _ _=>rfl) fun g w args vals L r hT ha hC hs=> ?_;unfold SA at hC;split at hC
 .rename_i n;cases hC;obtain⟨h1,h2⟩:=hs _ aVz;obtain⟨va,_,rfl,ra,hv⟩:=ha;obtain rfl:=wX ra.1;cases hv;refine⟨rfl,rfl,(Any.strconv_Itoa Tryz.lays171M n h1 h2 w (aOv hT)).mono fun e w' ⟨he,k,os,hw⟩=>⟨_,he,?_,BR _ _ _,trivial⟩⟩;subst hw;exact⟨rfl,rfl,rfl,by show w.heap.size<=(w.heap++os).size;rw[aXj];omega,fun _ hj=>Sort.heap_grow_old (w.drewN k) os hj⟩
 .cases hC
@[go_sem] def SB:List qC->List qB->Option qI
 |[(.val .str s,none)],[]=>some ⟨[(List.all s fun b=>decide (b.toNat<128))=true/\List.length s<4294967281],[(.own 0 (List.length (Lib.fields s)),none)],[.row 9 .str (Lib.fields s) (List.length (Lib.fields s))]⟩
 |_,_=>none
theorem aEZ: ∀(ws:Bool) (s:pD),Lib.cntF ws s<=s.length
 |_,[]=>aVR _
 |ws,b::l=>by
  have:=aEZ (Lib.isSp b) l;simp only[Lib.cntF,aVw];split<;>omega
theorem a2t:xR Tryz.prog 113 SB:=by
 refine⟨fun _ _=>rfl,fun g w args vals L r hH ha hC hs=> ?_⟩;unfold SB at hC;split at hC
 .rename_i s;cases hC;obtain⟨h1,h2⟩:=hs _ aVz;obtain⟨va,_,rfl,ra,hv⟩:=ha;obtain rfl:=xA ra.1;cases hv;refine(Any.strings_Fields Tryz.lays157 pU pU ⟨List.toArray s⟩ w h2 (ascii_of_all h1) (aOw hH.tab.1)).mono fun e w' ⟨he,hw⟩=> ?_;subst hw;obtain⟨g',hg⟩:=aEV (side:=[]) (w':=w.alloc (.cells ((Lib.fields s).map fun l=>Value.string ⟨l.toArray⟩).toArray 9)) (e:=9) (l:=Lib.fields s) (b:=w.heap.size) hH ((Below.refl _ _).alloc (aVR _) _) (aVR _) rfl (by rw[Lib.fields_length];have:=aEZ true s;have:maxLen=9223372036854775807:=rfl;omega) (World.alloc_heap_new _ _);exact⟨_,g',he,hg.shut,hg.heap,hg.ret,hg.fr,hg.perm,hg.J,hg.ty,hg.Jt,hg.cur⟩
 .cases hC
def tC (s c:pD):pE:=(Lib.splitB ⟨List.toArray c⟩ 0 (Lib.countB ⟨List.toArray s⟩ ⟨List.toArray c⟩) ⟨List.toArray s⟩).map (·.data.toList)
@[go_sem] def SC:List qC->List qB->Option qI
 |[(.val .str s,none),(.val .str c,none)],[]=>some ⟨[0<List.length c/\List.length s<4294967281],[(.own 0 (List.length (tC s c)),none)],[.row 9 .str (tC s c) (List.length (tC s c))]⟩
 |_,_=>none
theorem a2u:xR Tryz.prog 131 SC:=by
 refine⟨fun _ _=>rfl,fun g w args vals L r hH ha hC hs=> ?_⟩;unfold SC at hC;split at hC
 .rename_i s c;cases hC;obtain⟨h1,h2⟩:=hs _ aVz;obtain⟨va,_,rfl,ra,vb,_,rfl,rb,hv⟩:=ha;obtain rfl:=xA ra.1;obtain rfl:=xA rb.1;cases hv;obtain⟨m,hm⟩:=hH.tab.1.2.2.1;refine(Any.strings_Split Tryz.lays146 pU ⟨List.toArray s⟩ ⟨List.toArray c⟩ m w h2 hm h1).mono fun e w' ⟨he,hw⟩=> ?_;subst hw;have hlen:=Lib.splitB_all ⟨List.toArray c⟩ h1 0 _ ⟨List.toArray s⟩ rfl;have hle:=Lib.countB_le ⟨List.toArray c⟩ h1 (List.length s) ⟨List.toArray s⟩ (aVR _);have hls:(tC s c).length=Lib.countB ⟨List.toArray s⟩ ⟨List.toArray c⟩+1:=by unfold tC;rw[aWD,hlen]
  obtain⟨g',hg⟩:=aEV (side:=[]) (w':=w.alloc (.cells ((Lib.splitB ⟨List.toArray c⟩ 0 (Lib.countB ⟨List.toArray s⟩ ⟨List.toArray c⟩) ⟨List.toArray s⟩).map Value.string).toArray 9)) (e:=9) (l:=tC s c) (b:=w.heap.size) hH ((Below.refl _ _).alloc (aVR _) _) (aVR _) rfl (by rw[hls];have:(⟨List.toArray s⟩:ByteArray).size=List.length s:=rfl;have:maxLen=9223372036854775807:=rfl;omega) (by
   rw[World.alloc_heap_new];unfold tC;rw[List.map_map];rfl)
  exact⟨_,g',he,hg.shut,hg.heap,by rw[<-hls];exact hg.ret,hg.fr,hg.perm,hg.J,hg.ty,hg.Jt,hg.cur⟩
 .cases hC
@[go_sem] def SD:List qC->List qB->Option qI
 |[(.val .str O,none),(.val .str Z,none)],[]=>some ⟨[List.length O<4294967281],[(.val (.int .i64) (yY O Z),none)],[]⟩
 |_,_=>none
theorem a2v:xR Tryz.prog 151 SD:=by
 refine JH (fun _ _=>rfl) fun g w args vals L r hT ha hC hs=> ?_;unfold SD at hC;split at hC
 .rename_i s c;cases hC;have h1:=hs _ aVz;obtain⟨va,_,rfl,ra,vb,_,rfl,rb,hv⟩:=ha;obtain rfl:=xA ra.1;obtain rfl:=xA rb.1;cases hv;obtain⟨m,hm⟩:=hT.2.2.1;exact⟨rfl,rfl,(XQ (Any.stringslite_Index Tryz.lays219 ⟨List.toArray s⟩ ⟨List.toArray c⟩ m w h1 hm)).mono fun e w' ⟨he,hb⟩=>⟨_,he,hb,wY _ _ _ _,trivial⟩⟩
 .cases hC
def vZ (l:pE) (sep:pD):pD:=Lib.join l sep
@[go_sem] def SE:List qC->List qB->Option qI
 |[(.val (.list .str) l,none),(.val .str c,none)],[]=>some ⟨[List.length l<=140737488355328/\List.length (vZ l c)<=140737488355328],[(.val .str (vZ l c),none)],[]⟩
 |_,_=>none
theorem a2w:xR Tryz.prog 70 SE:=by
 refine JH (fun _ _=>rfl) fun g w args vals L r hT ha hC hs=> ?_;unfold SE at hC;split at hC
 .rename_i l c;cases hC;obtain⟨h1,h2⟩:=hs _ aVz;obtain⟨va,_,rfl,ra,vb,_,rfl,rb,hv⟩:=ha;obtain⟨a,cap,rfl,hcap,hlist⟩:=DG ra.1;obtain rfl:=xA rb.1;cases hv;refine⟨rfl,rfl,?_⟩;unfold vZ at h2;have hxm:(l.map fun x=>(⟨x.toArray⟩:ByteArray)).map (·.data.toList)=l:=by
   rw[List.map_map];exact(List.map_congr_left fun x _=>rfl).trans (List.map_id l)
  rcases l with _|⟨x,_|⟨y,r⟩⟩
  .exact(XQ (Any.strings_Join_none Tryz.lays156 Tryz.builderExtraJ a cap ⟨List.toArray c⟩ w)).mono fun e w' ⟨he,hb⟩=>⟨_,he,hb,BR _ _ _,trivial⟩
  .rcases hlist with h|⟨b,o,rfl,hL⟩
   .cases h
   .obtain⟨cs,k1,k2,k3,k4⟩:=O0 hL (i:=0) (x:=x) rfl;rw[show cs=[.string ⟨List.toArray x⟩] from k4] at k2;have k5:=k2 0 _ rfl;rw[Nat.zero_mul,aWr] at k5;exact(XQ (Any.strings_Join_one Tryz.lays156 Tryz.builderExtraJ b o cap ⟨List.toArray x⟩ ⟨List.toArray c⟩ w k5)).mono fun e w' ⟨he,hb⟩=>⟨_,he,hb,(by rw[show vZ [x] c=x from Lib.join_one x c];exact BR _ _ _),trivial⟩
  .rcases hlist with h|⟨b,o,rfl,hL⟩
   .cases h
   .have hc: ∀(j:Nat) z,((x::y::r).map fun x=>(⟨List.toArray x⟩:ByteArray))[j]? =some z->w.cell? ⟨b,o+j,none⟩=some (.string z):=by
     intro j z hz;rw[List.getElem?_map] at hz;obtain⟨u,hu,rfl⟩:=aVA.1 hz;obtain⟨cs,k1,k2,k3,k4⟩:=O0 hL hu;rw[show cs=[.string ⟨List.toArray u⟩] from k4] at k2;have k5:=k2 0 _ rfl;rw[aWr,show j*Ty.str.cells=j from aXg j] at k5;exact k5
    have h0:=hc 0 _ rfl;have:=Any.strings_Join_many Tryz.lays156 Tryz.builderExtraJ b o cap ((x::y::r).map fun x=>(⟨List.toArray x⟩:ByteArray)) ⟨List.toArray c⟩ w hc (World.block_lt_of_cell? _ _ h0) pI (by simpa using h1) (by simpa using hcap) (by rw[hxm];exact h2);rw[hxm] at this;rw[aWD] at this;exact this.mono fun e w' ⟨he,hb⟩=>⟨_,he,hb,BR _ _ _,trivial⟩
 .cases hC
def SF (_a _b:Int):pD:=[]
def JK (_a:Int):pD:=[]
@[go_sem] def SG:List qC->List qB->Option qI
 |[(.val (.int .u8) a,none),(.val (.int .i64) b,none)],[]=>some ⟨[False],[(.val .str (SF a b),none)],[]⟩
 |_,_=>none
theorem a2x:xR Tryz.prog 182 SG:=by
 refine JH (fun _ _=>rfl) fun g w args vals L r hT ha hC hs=> ?_;unfold SG at hC;split at hC
 .cases hC;exact(hs _ aVz).elim
 .cases hC
@[go_sem] abbrev a2y:Nat×TI:=(3,⟨(.int .i64),0,0,true,[]⟩)
theorem aOx:uF Tryz.prog a2y.1 a2y.2:=⟨pU,(show Tryz.prog.underlying _=_ from by kernel_rfl)⟩
end Go.Proofs.YtkpflnijijccpaaGreatDoor
namespace Go.Proofs.YtkpflnijijccpaaGreatDoor
open Vc
namespace Gf
noncomputable section
@[go_sem] abbrev s7:Ty:=(.pair .str (.pair .str (.pair .str (.pair (.list .str) (.pair (.list .str) (.pair (.int .i64) (.pair (.list (.pair .str (.pair .str .unit))) .unit)))))))
@[go_sem] abbrev xG:Ty:=(.pair .str (.pair (.list .str) (.pair (.list (.pair .str (.pair .str .unit))) (.pair (.list s7) .unit))))
@[go_sem] abbrev EP:Ty:=(.pair .str (.pair (.list .str) (.pair .str .unit)))
@[go_sem] abbrev wO:Ty:=(.pair .mref (.pair (.list (.int .u8)) .unit))
abbrev r6:Type:=(pD×(pD×Unit))
abbrev s0:Type:=(pD×(pD×(pD×(pE×(pE×(Int×((List r6)×Unit)))))))
abbrev G2:Type:=(pD×(pE×(pD×Unit)))
abbrev sD:Type:=(pD×(pE×((List r6)×((List s0)×Unit))))
@[go_sem] abbrev sW:Ty:=(.pair (.int .i64) (.pair .str (.pair (.int .i64) .unit)))
@[go_sem] abbrev sJ:Nat×TI:=(9,⟨.str,0,0,false,[]⟩)
theorem sM:uF Tryz.prog sJ.1 sJ.2:=⟨pU,(show Tryz.prog.underlying _=_ from by kernel_rfl)⟩
@[go_sem] abbrev AQ:Nat×TI:=(94,⟨sW,0,1,false,[]⟩)
theorem G3:uF Tryz.prog AQ.1 AQ.2:=⟨pU,(show ((_/\∃_,_/\_)\/_)/\_ from⟨.inl ⟨rfl,_,Tryz.underlying94,(show _/\_/\_/\_ from⟨rfl,pU,pU,(show _/\_/\_/\_ from⟨rfl,pU,pU,(show _/\_/\_/\_ from⟨rfl,pU,pU,trivial⟩)⟩)⟩)⟩,(fun _=>⟨pU,1,pH,(.struct rfl Tryz.underlying94 pU (.cons pH rfl pU pU (.int Tryz.underlying3) (.cons pH rfl pU pU (.str Tryz.underlying9) (.cons pH rfl pU pU (.int Tryz.underlying3) .nil))))⟩)⟩)⟩
theorem rH:Tryz.prog.follows .mixedOrders=true:=by kernel_rfl
@[go_sem] abbrev G4:Nat×qW:=(108,⟨[.v,.v],RZ,[],[],none⟩)
theorem LV:r5 Tryz.prog G4:=⟨a2d,fun _ h=>by cases h⟩
@[go_sem] abbrev OH:Nat×qW:=(127,⟨[.v,.v],S0,[],[],none⟩)
theorem a2z:r5 Tryz.prog OH:=⟨a2e,fun _ h=>by cases h⟩
@[go_sem] abbrev LW:Nat×qW:=(85,⟨[.v,.v],S9,[],[],none⟩)
theorem XX:r5 Tryz.prog LW:=⟨a2r,fun _ h=>by cases h⟩
@[go_sem] abbrev OI:Nat×qW:=(179,⟨[.v],S1,[],[],none⟩)
theorem a2A:r5 Tryz.prog OI:=⟨a2f,fun _ h=>by cases h⟩
@[go_sem] abbrev OJ:Nat×qW:=(181,⟨[.v],SA,[],[],none⟩)
theorem a2B:r5 Tryz.prog OJ:=⟨a2s,fun _ h=>by cases h⟩
@[go_sem] abbrev OK:Nat×qW:=(182,⟨[.v,.v],SG,[],[],none⟩)
theorem a2C:r5 Tryz.prog OK:=⟨a2x,fun _ h=>by cases h⟩
@[go_sem] abbrev JL:Nat×qW:=(58,⟨[.p wO [1]],S2,[],[],none⟩)
theorem SH:r5 Tryz.prog JL:=⟨a2i,fun _ h=>by cases h⟩
@[go_sem] abbrev HM:Nat×qW:=(31,⟨[.p wO [1]],S3,[],[],none⟩)
theorem OL:r5 Tryz.prog HM:=⟨a2l,fun _ h=>by cases h⟩
@[go_sem] abbrev LX:Nat×qW:=(113,⟨[.v],SB,[],[],none⟩)
theorem XY:r5 Tryz.prog LX:=⟨a2t,fun _ h=>by cases h⟩
@[go_sem] abbrev OM:Nat×qW:=(131,⟨[.v,.v],SC,[],[],none⟩)
theorem a2D:r5 Tryz.prog OM:=⟨a2u,fun _ h=>by cases h⟩
@[go_sem] abbrev LY:Nat×qW:=(91,⟨[.r],S7,[],[],none⟩)
theorem XZ:r5 Tryz.prog LY:=⟨a2p,fun _ h=>by cases h⟩
@[go_sem] abbrev ON:Nat×qW:=(130,⟨[.r,.v],S8,[],[],none⟩)
theorem a2E:r5 Tryz.prog ON:=⟨a2q,fun _ h=>by cases h⟩
@[go_sem] abbrev OO:Nat×qW:=(159,⟨[.r,.v,.v],S4,[],[],none⟩)
theorem a2F:r5 Tryz.prog OO:=⟨a2m,fun _ h=>by cases h⟩
@[go_sem] abbrev LZ:Nat×qW:=(151,⟨[.v,.v],SD,[],[],none⟩)
theorem Y0:r5 Tryz.prog LZ:=⟨a2v,fun _ h=>by cases h⟩
@[go_sem] abbrev OP:Nat×qW:=(70,⟨[.v,.v],SE,[],[],none⟩)
theorem a2G:r5 Tryz.prog OP:=⟨a2w,fun _ h=>by cases h⟩
@[go_sem] abbrev M0:Nat×qW:=(88,⟨[.v],XR,[],[],some XS⟩)
theorem Y1:r5 Tryz.prog M0:=a2h
end
end Gf
namespace Gf
noncomputable section
def elements_closing_step1 (O:pD):(Bool×Int)→Option ((Bool×Int)⊕(Unit⊕Int)):=fun(Z,aA)=>
 if (decide (aA<(List.length O:Int)))=true then
  if 0≤aA∧aA<(List.length O:Int) then
   if (decide ((sF O aA)=(34:Int)))=true then
    if qD (aA+(1:Int)) then
     some (.inl ((!Z),(aA+(1:Int))))
    else none
   else
    if 0≤aA∧aA<(List.length O:Int) then
     if ((decide ((sF O aA)=(62:Int)))&&(!Z))=true then
      some (.inr (.inr (aA)))
     else
      if qD (aA+(1:Int)) then
       some (.inl (Z,(aA+(1:Int))))
      else none
    else none
  else none
 else
  some (.inr (.inl ()))
def elements_closing (O:pD):Option Int:=
 tY (rO (elements_closing_step1 O) (false,(0:Int))) fun _=>
 some ((-1:Int))
section
variable (O:pD)
abbrev a2H:List qC:=[(.val .str O,none)]
abbrev a2I:List qB:=[]
@[go_sem] def a2J:qI:=⟨[((elements_closing O)).isSome=true],[(.val (.int .i64) (val (elements_closing O)),none)],[]⟩
def aE0:List qC→List qB→Option qI:=rM (V:=pD) (fun x=>a2H x) (fun x=>a2I) fun x=>a2J x
@[go_sem] theorem aTt:aE0 (no_index (a2H O)) (no_index a2I)=some (a2J O):=rQ (fun a0 b0 h1 h2=>by cases h1;cases h2;rfl) O
end
@[go_sem] abbrev aE1:Nat×qW:=(111,⟨[.v],aE0,[],[],none⟩)
theorem CS:rF Tryz.prog [sJ] (rG []):=⟨⟨sM,trivial⟩,rJ,rH⟩
theorem aOy:r5 Tryz.prog aE1:=by
 refine rR CS Tryz.func111 (c:=_) rfl (N:=28) pU (ts:=[(2,none)]) rfl (fun _ _=>rfl) ?_;intro O hs hrow;dsimp only[a2H,a2I,a2J,rI,qR,qZ,r8,rL,Nat.reduceAdd] at hs hrow|-;have hz:=hs;obtain⟨z0,hC0⟩:=aVt.1 hz
 try rw[rY hC0]
 clear hz hs;unfold elements_closing at hC0;refine q9 CS ?_;refine q9 CS ?_;refine qO ?_;refine q9 CS ?_;refine rP ?_;obtain⟨y1,hy1,hC0⟩:=uV hC0;refine tV 0 (fun s=> ∃v,y1= .inl v∧s=(fun _=>⟨[],[],0,28,0⟩) v) ?_ ?_
 .refine tP hy1 (fun x=>⟨[(0,(.val .str O,none)),(3,(.val .bool x.1,none)),(6,(.val (.int .i64) (List.length O:Int),none)),(7,(.val (.int .i64) x.2,none))],[],0,28,0⟩) ⟨[0,3,6,7],[]⟩ pV ?_;intro x1 w1 n1 hC1 hN1;obtain⟨Z,aA⟩:=x1;unfold elements_closing_step1 at hC1;dsimp only at hC1|-;refine q9 CS ?_;refine qO ?_;refine qS hC1 (fun hC1 hc1=> ?_) (fun hC1 hc1=> ?_)
  .refine r7 (qJ (qO (rP ?_)));refine q9 CS ?_;refine rP ?_;obtain⟨hg1,hC1⟩:=qG hC1;refine q9 CS ?_ (hp:=by exact hg1);refine qS hC1 (fun hC1 hc2=> ?_) (fun hC1 hc2=> ?_)
   .refine rC CS ?_;refine rU (rU (qJ ?_));obtain⟨hg2,hC1⟩:=qG hC1;refine rC CS ?_ (hp:=by exact hg2);cases hC1;exact sU ⟨⟨[0,3,6,7],[]⟩,_,by rfl,hN1⟩
   .obtain⟨hg3,hC1⟩:=qG hC1;refine q9 CS ?_ (hp:=by exact⟨hg3,fun hh=>hh,(fun hh=>sB hh)⟩);refine qS hC1 (fun hC1 hc3=> ?_) (fun hC1 hc3=> ?_)
    .refine q9 CS ?_;refine qP (rT (rT (rD (uX (uZ (rT (rD ?_)))))));cases hC1;cases hN1;dsimp only at hC0;cases hC0;exact pF []
    .refine r7 (rU (rU (qJ ?_)));obtain⟨hg4,hC1⟩:=qG hC1;refine rC CS ?_ (hp:=by exact hg4);cases hC1;exact sU ⟨⟨[0,3,6,7],[]⟩,_,by rfl,hN1⟩
  .refine tK (tJ (tN ?_));cases hC1;cases hN1;exact tM ⟨⟨[],[]⟩,_,rfl,by rfl⟩
 .rintro _ ⟨v,rfl,rfl⟩;dsimp only at hC0|-;refine tU (qJ ?_);refine q9 CS ?_;refine qP ?_;cases hC0;exact pF []
attribute [irreducible] elements_closing
def strings_Index (O:pD) (Z:pD):Option Unit:=
 if List.length O<4294967281 then
  some (())
 else none
section
variable (O:pD) (Z:pD)
abbrev a2K:List qC:=[(.val .str O,none),(.val .str Z,none)]
abbrev a2L:List qB:=[]
@[go_sem] def a2M:qI:=⟨[((strings_Index O Z)).isSome=true],[(.val (.int .i64) (yY O Z),none)],[]⟩
def aE2:List qC→List qB→Option qI:=rM (V:=(pD×pD)) (fun x=>a2K x.1 x.2) (fun x=>a2L) fun x=>a2M x.1 x.2
@[go_sem] theorem aTu:aE2 (no_index (a2K O Z)) (no_index a2L)=some (a2M O Z):=rQ (fun⟨a0,a1⟩ ⟨b0,b1⟩ h1 h2=>by cases h1;cases h2;rfl) (O,Z)
end
@[go_sem] abbrev aE3:Nat×qW:=(110,⟨[.v,.v],aE2,[],[],none⟩)
theorem a2N:rF Tryz.prog [] (rG [LZ]):=⟨trivial,qK Y0 rJ,rH⟩
theorem aOz:r5 Tryz.prog aE3:=by
 refine rR a2N Tryz.func110 (c:=_) rfl (N:=8) pU (ts:=[(4,none)]) rfl (fun _ _=>rfl) ?_;intro⟨O,Z⟩ hs hrow;dsimp only[a2K,a2L,a2M,rI,qR,qZ,r8,rL,Nat.reduceAdd] at hs hrow|-;have hz:=hs;obtain⟨z0,hC0⟩:=aVt.1 hz
 try rw[rY hC0]
 clear hz hs;unfold strings_Index at hC0;refine q9 a2N ?_;obtain⟨hg1,hC0⟩:=qG hC0;refine q9 a2N ?_ (hp:=by exact hg1);refine qP ?_;cases hC0;exact pF []
attribute [irreducible] strings_Index
def internal_stringslite_HasPrefix (O:pD) (Z:pD):Option Unit:=
 if (((decide ((List.length Z:Int)≤(List.length O:Int)))==true)=true→0≤(0:Int)∧(0:Int)≤(List.length Z:Int)∧(List.length Z:Int)≤(List.length O:Int)) then
  some (())
 else none
section
variable (O:pD) (Z:pD)
abbrev M1:List qC:=[(.val .str O,none),(.val .str Z,none)]
abbrev M2:List qB:=[]
@[go_sem] def M3:qI:=⟨[((internal_stringslite_HasPrefix O Z)).isSome=true],[(.val .bool ((decide ((List.length Z:Int)≤(List.length O:Int)))&&(decide ((sO O (0:Int) (List.length Z:Int))=Z))),none)],[]⟩
def SI:List qC→List qB→Option qI:=rM (V:=(pD×pD)) (fun x=>M1 x.1 x.2) (fun x=>M2) fun x=>M3 x.1 x.2
@[go_sem] theorem aOA:SI (no_index (M1 O Z)) (no_index M2)=some (M3 O Z):=rQ (fun⟨a0,a1⟩ ⟨b0,b1⟩ h1 h2=>by cases h1;cases h2;rfl) (O,Z)
end
@[go_sem] abbrev SJ:Nat×qW:=(150,⟨[.v,.v],SI,[],[],none⟩)
theorem M4:rF Tryz.prog [sJ] (rG []):=⟨⟨sM,trivial⟩,rJ,rH⟩
theorem a2O:r5 Tryz.prog SJ:=by
 refine rR M4 Tryz.func150 (c:=_) rfl (N:=18) pU (ts:=[(4,none)]) rfl (fun _ _=>rfl) ?_;intro⟨O,Z⟩ hs hrow;dsimp only[M1,M2,M3,rI,qR,qZ,r8,rL,Nat.reduceAdd] at hs hrow|-;have hz:=hs;obtain⟨z0,hC0⟩:=aVt.1 hz
 try rw[rY hC0]
 clear hz hs;unfold internal_stringslite_HasPrefix at hC0;refine q9 M4 ?_;obtain⟨hg1,hC0⟩:=qG hC0;refine q9 M4 ?_ (hp:=by exact⟨fun hh=>hh,fun hh=>hh,fun hh=>hh,hg1,fun hh=>hh,fun hh=>hh,(fun hh=>sB hh)⟩);refine qP ?_;cases hC0;exact pF []
attribute [irreducible] internal_stringslite_HasPrefix
def strings_HasPrefix (O:pD) (Z:pD):Option Unit:=
 (internal_stringslite_HasPrefix O Z).bind fun aA=>
 some (())
section
variable (O:pD) (Z:pD)
abbrev a2P:List qC:=[(.val .str O,none),(.val .str Z,none)]
abbrev a2Q:List qB:=[]
@[go_sem] def a2R:qI:=⟨[((strings_HasPrefix O Z)).isSome=true],[(.val .bool ((decide ((List.length Z:Int)≤(List.length O:Int)))&&(decide ((sO O (0:Int) (List.length Z:Int))=Z))),none)],[]⟩
def aE4:List qC→List qB→Option qI:=rM (V:=(pD×pD)) (fun x=>a2P x.1 x.2) (fun x=>a2Q) fun x=>a2R x.1 x.2
@[go_sem] theorem aTv:aE4 (no_index (a2P O Z)) (no_index a2Q)=some (a2R O Z):=rQ (fun⟨a0,a1⟩ ⟨b0,b1⟩ h1 h2=>by cases h1;cases h2;rfl) (O,Z)
end
@[go_sem] abbrev aE5:Nat×qW:=(109,⟨[.v,.v],aE4,[],[],none⟩)
theorem a2S:rF Tryz.prog [] (rG [SJ]):=⟨trivial,qK a2O rJ,rH⟩
theorem aOB:r5 Tryz.prog aE5:=by
 refine rR a2S Tryz.func109 (c:=_) rfl (N:=8) pU (ts:=[(4,none)]) rfl (fun _ _=>rfl) ?_;intro⟨O,Z⟩ hs hrow;dsimp only[a2P,a2Q,a2R,rI,qR,qZ,r8,rL,Nat.reduceAdd] at hs hrow|-;have hz:=hs;obtain⟨z0,hC0⟩:=aVt.1 hz
 try rw[rY hC0]
 clear hz hs;unfold strings_HasPrefix at hC0;refine q9 a2S ?_;obtain⟨aA,hv1,hw1,hC0⟩:=qV hC0
 try simp only[go_sem] at hw1
 refine q9 a2S ?_ (hp:=by exact(qU hv1)) (h:=by simp only[go_sem,hw1];rfl);refine qP ?_;cases hC0;exact pF []
attribute [irreducible] strings_HasPrefix
def elements_first (O:pD) (Z:Int):Option (Int×pD):=
 sQ (σ:=(Int×Int)) (
   (strings_HasPrefix O ([60,33,45,45]:pD)).bind fun aA=>
   if ((decide ((List.length ([60,33,45,45]:pD):Int)≤(List.length O:Int)))&&(decide ((sO O (0:Int) (List.length ([60,33,45,45]:pD):Int))=([60,33,45,45]:pD))))=true then
    if 0≤(4:Int)∧(4:Int)≤(List.length O:Int)∧(List.length O:Int)≤(List.length O:Int) then
     (strings_Index (sO O (4:Int) (List.length O:Int)) ([45,45,62]:pD)).bind fun aB=>
     if (decide ((0:Int)≤(yY (sO O (4:Int) (List.length O:Int)) ([45,45,62]:pD))))=true then
      if qD ((yY (sO O (4:Int) (List.length O:Int)) ([45,45,62]:pD))+(7:Int)) then
       some (((1:Int),((yY (sO O (4:Int) (List.length O:Int)) ([45,45,62]:pD))+(7:Int))))
      else none
     else
      some (((1:Int),(yY (sO O (4:Int) (List.length O:Int)) ([45,45,62]:pD))))
    else none
   else
    if 0≤(0:Int)∧(0:Int)<(List.length O:Int) then
     if (decide ((sF O (0:Int))=(60:Int)))=true then
      (elements_closing O).bind fun aC=>
      if qD (aC+(1:Int)) then
       if (decide ((aC+(1:Int))=(0:Int)))=true then
        some (((2:Int),(-1:Int)))
       else
        some (((2:Int),(aC+(1:Int))))
      else none
     else
      if (decide ((vE O (60:Int))<(0:Int)))=true then
       some (((3:Int),(List.length O:Int)))
      else
       some (((3:Int),(vE O (60:Int))))
    else none
  ) fun(aD,aE)=>
 if (decide (aE<(0:Int)))=true then
  some (((0:Int),([]:pD)))
 else
  if 0≤(0:Int)∧(0:Int)≤aE∧aE≤(List.length O:Int) then
   some ((aD,(sO O (0:Int) aE)))
  else none
section
variable (O:pD) (Z:Int)
abbrev a2T:List qC:=[(.val .str O,none),(.val (.int .i64) Z,none)]
abbrev a2U:List qB:=[]
@[go_sem] def elements_firstR:qI:=⟨[((elements_first O Z)).isSome=true],[(.val sW ((val (elements_first O Z)).1,((val (elements_first O Z)).2,(Z,()))),none)],[]⟩
def aE6:List qC→List qB→Option qI:=rM (V:=(pD×Int)) (fun x=>a2T x.1 x.2) (fun x=>a2U) fun x=>elements_firstR x.1 x.2
@[go_sem] theorem elements_firstC_eq:aE6 (no_index (a2T O Z)) (no_index a2U)=some (elements_firstR O Z):=rQ (fun⟨a0,a1⟩ ⟨b0,b1⟩ h1 h2=>by cases h1;cases h2;rfl) (O,Z)
end
@[go_sem] abbrev aOC:Nat×qW:=(79,⟨[.v,.v],aE6,[],[],none⟩)
theorem AR:rF Tryz.prog [sJ,AQ] (rG [G4,aE5,aE3,aE1]):=⟨⟨sM,⟨G3,trivial⟩⟩,qK LV (qK aOB (qK aOz (qK aOy rJ))),rH⟩
theorem elements_first_con:r5 Tryz.prog aOC:=by
 refine rR AR Tryz.func79 (c:=_) rfl (N:=43) pU (ts:=[(4,some 94)]) rfl (fun _ _=>rfl) ?_;intro⟨O,Z⟩ hs hrow;dsimp only[a2T,a2U,elements_firstR,rI,qR,qZ,r8,rL,Nat.reduceAdd] at hs hrow|-;have hz:=hs;obtain⟨z0,hC0⟩:=aVt.1 hz
 try rw[rY hC0]
 clear hz hs;unfold elements_first at hC0;refine q9 AR ?_;refine q9 AR ?_;refine qO ?_;obtain⟨y1,hC1,hC0⟩:=qM hC0;refine yM (fun s=>s=(fun x=>⟨[(0,(.val .str O,none)),(1,(.val (.int .i64) Z,none)),(4,(.val .ref (some (0,0)),none)),(5,(.val (.int .i64) x.1,none)),(6,(.val (.int .i64) x.2,none))],[(0,.cells sW ((0:Int),(([]:pD),((0:Int),()))) [])],1,43,0⟩) y1) ?_ ?_
 .refine rP ?_;obtain⟨aA,hv1,hw1,hC1⟩:=qV hC1
  try simp only[go_sem] at hw1
  refine q9 AR ?_ (hp:=by exact(qU hv1)) (h:=by simp only[go_sem,hw1];rfl);refine qS hC1 (fun hC1 hc1=> ?_) (fun hC1 hc1=> ?_)
  .obtain⟨hg2,hC1⟩:=qG hC1;obtain⟨aB,hv3,hw3,hC1⟩:=qV hC1
   try simp only[go_sem] at hw3
   refine q9 AR ?_ (hp:=by exact⟨hg2,(qU hv3)⟩) (h:=by simp only[go_sem,hw3];rfl);refine q9 AR ?_;refine qS hC1 (fun hC1 hc2=> ?_) (fun hC1 hc2=> ?_)
   .obtain⟨hg4,hC1⟩:=qG hC1;refine rC AR ?_ (hp:=by exact hg4);refine rU ?_;cases hC1;exact u6 ⟨⟨[0,1,4,5,6],[(0,0)]⟩,by rfl⟩
   .refine r7 (rU ?_);cases hC1;exact u6 ⟨⟨[0,1,4,5,6],[(0,0)]⟩,by rfl⟩
  .obtain⟨hg5,hC1⟩:=qG hC1;refine q9 AR ?_ (hp:=by exact hg5);refine qS hC1 (fun hC1 hc3=> ?_) (fun hC1 hc3=> ?_)
   .obtain⟨aC,hv6,hw6,hC1⟩:=qV hC1
    try simp only[go_sem] at hw6
    obtain⟨hg7,hC1⟩:=qG hC1;refine q9 AR ?_ (hp:=by exact⟨qU hv6,hg7⟩) (h:=by simp only[go_sem,hw6];rfl);refine q9 AR ?_;refine qS hC1 (fun hC1 hc4=> ?_) (fun hC1 hc4=> ?_)
    .refine rC AR ?_;refine rU ?_;cases hC1;exact u6 ⟨⟨[0,1,4,5,6],[(0,0)]⟩,by rfl⟩
    .refine r7 (rU ?_);cases hC1;exact u6 ⟨⟨[0,1,4,5,6],[(0,0)]⟩,by rfl⟩
   .refine q9 AR ?_;refine qS hC1 (fun hC1 hc5=> ?_) (fun hC1 hc5=> ?_)
    .refine rC AR ?_;refine rU ?_;cases hC1;exact u6 ⟨⟨[0,1,4,5,6],[(0,0)]⟩,by rfl⟩
    .refine r7 (rU ?_);cases hC1;exact u6 ⟨⟨[0,1,4,5,6],[(0,0)]⟩,by rfl⟩
 .rintro _ rfl;obtain⟨aD,aE⟩:=y1;dsimp only at hC0|-;refine qJ (qO ?_);refine q9 AR ?_;refine qS hC0 (fun hC0 hc6=> ?_) (fun hC0 hc6=> ?_)
  .refine q9 AR ?_;refine qP (rD ?_);cases hC0;exact pF []
  .refine r7 (qJ ?_);obtain⟨hg8,hC0⟩:=qG hC0;refine q9 AR ?_ (hp:=by exact hg8);refine qP ?_;cases hC0;exact pF []
attribute [irreducible] elements_first
end
end Gf
end Go.Proofs.YtkpflnijijccpaaGreatDoor
section
end
namespace Go.Proofs.YtkpflnijijccpaaGreatDoor
open Go.RowKit Go.Shelf Vc
theorem aOD {f:FuncId}{C:List qC→List qB→Option qI}{args:List qC}{vals:pN}{r:qI}{t:Ty}{x:t.den}{w:pR}(h:xR Tryz.prog f C) (hT:DA w)
    (ha: ∀g,vS g w args vals) (hC:C args []=some r) (hs: ∀p∈r.side,p) (hr:r.ret=[(.val t x,none)]):
    Calls Tryz.prog f vals.toArray w fun e w'=> ∃v,e= .returned v∧Below w.heap.size w w'∧∃g',tX g' w' t x v:=by
  have hH:sL ⟨fun _ _=>False,fun _=>none,fun _ _=>none⟩ w (qR 0 []):=⟨fun _ _ h=>(by cases h),fun _ _ _ _ _ _ _ h=>(by cases h),fun _ _ h=>h.elim,⟨hT,fun _ _ _ _ h=>(by cases h)⟩⟩;refine(h.2 _ w args vals [] r hH (ha _) hC hs).mono ?_;rintro e w' ⟨v,g',he,ho⟩;refine⟨v,he,⟨ho.fr.os,ho.fr.tape,ho.fr.output,ho.fr.size,fun b hb=>ho.fr.blk b hb fun o ⟨i,blk,h1,_⟩=>(by cases h1)⟩,g',?_⟩;have:=ho.ret;rw[hr] at this;exact this.1
def clo:Bool→pD→pP
  |_,[]=>none
  |q,b::r=>if b=34 then(clo (!q) r).map (· +1) else if b=62∧q=false then some 0 else(clo q r).map (· +1)
def BE (s:pD):Int:=match clo false s with
  |some k=>k
  |none=> -1
theorem Y2: ∀{s:pD}{q:Bool}{k:Nat},clo q s=some k→k<s.length
  |[],_,_,h=>by cases h
  | b::r,q,k,h=>by
    unfold clo at h;split at h
    · obtain⟨j,h1,rfl⟩:=aVA.1 h
      have:=Y2 h1;simp only[aVw];omega
    · split at h
      .cases h;simp
      · obtain⟨j,h1,rfl⟩:=aVA.1 h
        have:=Y2 h1;simp only[aVw];omega
theorem Y3 {l:pD}{i:Nat}(h:i<l.length):sF l (i:Int)=(l[i].toNat:Int):=by
  unfold sF;rw[aWh,aVY,aVF h];rfl
theorem a2V (b:UInt8) (n:Nat) (hn:n<256):decide ((b.toNat:Int)=(n:Int))=decide (b=n.toUInt8):=by
  rw[aWT];constructor
  · intro h
    have:b.toNat=n:=by omega
    rw[←this];simp
  · rintro rfl
    simp only[Nat.toUInt8,UInt8.toNat_ofNat'];omega
theorem a2W (s:pD) (hs:s.length≤4294967281): ∀(n i:Nat) (q:Bool),i+n=s.length→rO (Gf.elements_closing_step1 s) (q,(i:Int))=some (match clo q (s.drop i) with
    |some k=> .inr ((i+k:Nat):Int)
    |none=> .inl ())
  | 0,i,q,hi=>by
    have:i=s.length:=by omega
    subst this;rw[aWl];refine uL ?_;unfold Gf.elements_closing_step1;dsimp only;rw[aVv pI];rfl
  | n+1,i,q,hi=>by
    have h:i<s.length:=by omega
    rw[aV8 h];have h34:decide ((s[i].toNat:Int)=34)=decide (s[i]=34):=a2V s[i] 34 pH;have h62:decide ((s[i].toNat:Int)=62)=decide (s[i]=62):=a2V s[i] 62 pH;have hr:0≤(i:Int)∧(i:Int)<(s.length:Int):=⟨pG,pG⟩;have hi64:qD ((i:Int)+1):=by unfold qD;omega
    unfold clo;by_cases e34:s[i]=34
    · have hst:Gf.elements_closing_step1 s (q,(i:Int))=some (.inl (!q,((i+1:Nat):Int))):=by
        unfold Gf.elements_closing_step1;dsimp only;rw[aVs (by simpa using h),aVs hr,Y3 h,h34,aVs (by simpa using e34),aVs hi64];rfl
      rw[vP hst,a2W s hs n (i+1) (!q) pG,aVs e34];cases clo (!q) (s.drop (i+1)) with
      |none=>rfl
      |some k=>simp only[Option.map_some];rw[show i+1+k=i+(k+1) by omega]
    · by_cases e62:s[i]=62∧q=false
      · obtain⟨e1,rfl⟩:=e62
        have hst:Gf.elements_closing_step1 s (false,(i:Int))=some (.inr (.inr (i:Int))):=by
          unfold Gf.elements_closing_step1;dsimp only;rw[aVs (by simpa using h),aVs hr,Y3 h,h34,aVv (by simpa using e34),aVs hr,h62,aVs (by simpa using e1)]
        rw[uL hst,aVv e34,aVs ⟨e1,rfl⟩];rfl
      · have hst:Gf.elements_closing_step1 s (q,(i:Int))=some (.inl (q,((i+1:Nat):Int))):=by
          unfold Gf.elements_closing_step1;dsimp only;rw[aVs (by simpa using h),aVs hr,Y3 h,h34,aVv (by simpa using e34),aVs hr,h62,aVv (by simpa using e62),aVs hi64];rfl
        rw[vP hst,a2W s hs n (i+1) q pG,aVv e34,aVv e62];cases clo q (s.drop (i+1)) with
        |none=>rfl
        |some k=>simp only[Option.map_some];rw[show i+1+k=i+(k+1) by omega]
theorem aOE (s:pD) (hs:s.length≤4294967281):Gf.elements_closing s=some (BE s):=by
  have h:=a2W s hs s.length 0 false pG;rw[aWH] at h;have h':rO (Gf.elements_closing_step1 s) (false,(0:Int))=_:=h;unfold Gf.elements_closing BE;rw[h'];cases clo false s with
  |none=>rfl
  |some k=>simp only[aV5];rfl
theorem a2X (s:pD): -1≤BE s∧BE s<s.length:=by
  unfold BE;cases h:clo false s with
  |none=>exact⟨pH,by show (-1:Int)<_;omega⟩
  |some k=>have:=Y2 h;exact⟨by show (-1:Int)≤(k:Int);omega,by show (k:Int)<_;omega⟩
abbrev M5:pD:=[60,33,45,45]
def xH (s:pD):Bool:=decide (s.take 4=M5)
def wA (s:pD):Int×Int:=
  if xH s=true then(1,if 0≤Lib.index (s.drop 4) [45,45,62] then Lib.index (s.drop 4) [45,45,62]+7 else Lib.index (s.drop 4) [45,45,62])
  else if s.head? =some 60 then(2,if BE s+1=0 then-1 else BE s+1)
  else(3,if Lib.indexByte s 60<0 then s.length else Lib.indexByte s 60)
def s9 (s:pD):Int×pD:=if (wA s).2<0 then(0,[]) else((wA s).1,s.take (wA s).2.toNat)
theorem a2Y (s:pD) (hs:s≠[]):(wA s).2≤s.length∧((wA s).2<0∨0<(wA s).2):=by
  unfold wA;split
  · rename_i hn
    have h4:4≤s.length:=by
      have:=aVL List.length (aV4 hn);rw[aVQ] at this;simp only[aVw,aVD] at this;omega
    dsimp only;split
    · rename_i h0
      have:=Lib.index_room (s.drop 4) [45,45,62] h0;rw[aVO] at this;simp only[aVw,aVD] at this;omega
    .omega
  · split
    · have:=a2X s
      dsimp only;split<;>omega
    · rename_i h60
      have:=XW s 60;dsimp only;split
      · have:s.length≠0:=by simpa using hs
        omega
      · cases s with
        |nil=>exact absurd rfl hs
        | cons b r=>
          have hb:b≠60:=fun e=>h60 (by rw[e];rfl);rename_i h0
          have hne:Lib.indexByte (b::r) 60≠0:=by
            unfold Lib.indexByte;rw[aVv (by simpa using hb)];have h2:=XW r 60;split
            .simp
            · rename_i h5
              have h6:Lib.indexByte r 60≠ -1:=by simpa using h5
              omega
          rcases Int.lt_or_gt_of_ne hne with h9|h9
          .exact absurd h9 h0
          .exact⟨pG,.inr h9⟩
theorem aE7 {α:Type}(s:List α) (n:Int):sO s 0 n=s.take n.toNat:=by unfold sO;simp
theorem aOF (s:pD) (hs:s≠[]) (hl:s.length<4294967281) (fr:Int):Gf.elements_first s fr=some (s9 s):=by
  have hpos:0<s.length:=aVX.2 hs;have h0:sF s 0=(s[0].toNat:Int):=Y3 (i:=0) hpos;have hhd:s.head? =some s[0]:=by rw[List.head?_eq_getElem?,aVF hpos]
  have h60:decide ((s[0].toNat:Int)=60)=decide (s[0]=60):=a2V s[0] 60 pH;have hle:=a2Y s hs
  have hp:Gf.strings_HasPrefix s ([60,33,45,45]:pD)=some ():=by
    unfold Gf.strings_HasPrefix Gf.internal_stringslite_HasPrefix;rw[aVs (fun h=>⟨aWu _,pH,by simpa using h⟩)];rfl
  have hpre:((decide ((List.length ([60,33,45,45]:pD):Int)≤(List.length s:Int)))&&(decide ((sO s (0:Int) (List.length ([60,33,45,45]:pD):Int))=([60,33,45,45]:pD))))=xH s:=by
    rw[aE7];unfold xH;show (_&&decide (s.take 4=M5))=decide (s.take 4=M5);by_cases h:s.take 4=M5
    · have:=aVL List.length h
      rw[aVQ] at this;simp only[aVw,aVD] at this;simp [h];omega
    .simp [h]
  have hsi:vE s (60:Int)=Lib.indexByte s 60:=rfl
  have key:((Gf.strings_HasPrefix s ([60,33,45,45]:pD)).bind fun O=>
   if ((decide ((List.length ([60,33,45,45]:pD):Int)≤(List.length s:Int)))&&(decide ((sO s (0:Int) (List.length ([60,33,45,45]:pD):Int))=([60,33,45,45]:pD))))=true then
    if 0≤(4:Int)∧(4:Int)≤(List.length s:Int)∧(List.length s:Int)≤(List.length s:Int) then
     (Gf.strings_Index (sO s (4:Int) (List.length s:Int)) ([45,45,62]:pD)).bind fun Z=>
     if (decide ((0:Int)≤(yY (sO s (4:Int) (List.length s:Int)) ([45,45,62]:pD))))=true then
      if qD ((yY (sO s (4:Int) (List.length s:Int)) ([45,45,62]:pD))+(7:Int)) then
       some (((1:Int),((yY (sO s (4:Int) (List.length s:Int)) ([45,45,62]:pD))+(7:Int))))
      else none
     else
      some (((1:Int),(yY (sO s (4:Int) (List.length s:Int)) ([45,45,62]:pD))))
    else none
   else
    if 0≤(0:Int)∧(0:Int)<(List.length s:Int) then
     if (decide ((sF s (0:Int))=(60:Int)))=true then
      (Gf.elements_closing s).bind fun aA=>
      if qD (aA+(1:Int)) then
       if (decide ((aA+(1:Int))=(0:Int)))=true then
        some (((2:Int),(-1:Int)))
       else
        some (((2:Int),(aA+(1:Int))))
      else none
     else
      if (decide ((vE s (60:Int))<(0:Int)))=true then
       some (((3:Int),(List.length s:Int)))
      else
       some (((3:Int),(vE s (60:Int))))
    else none)=some (wA s):=by
    rw[hp,aVq,hpre]
    have hcut:sO s (4:Int) (List.length s:Int)=s.drop 4:=by
      unfold sO;rw[aWh,show (4:Int).toNat=4 from rfl];exact List.take_of_length_le (by rw[aVO];omega)
    by_cases hn:xH s=true
    · have h4:4≤s.length:=by
        have:=aVL List.length (aV4 hn);rw[aVQ] at this;simp only[aVw,aVD] at this;omega
      rw[aVs hn,aVs ⟨pH,pG,aWu _⟩,hcut]
      have hix:Gf.strings_Index (s.drop 4) ([45,45,62]:pD)=some ():=by
        unfold Gf.strings_Index;rw[aVs (by rw[aVO];omega)]
      have hge:=Lib.index_ge (s.drop 4) [45,45,62];have hrm:=Lib.index_room (s.drop 4) [45,45,62];rw[aVO] at hrm;rw[hix,aVq];unfold wA yY;rw[aVs hn];by_cases hq:0≤Lib.index (s.drop 4) [45,45,62]
      .rw[aVs (aVS hq),aVs (by have:=hrm hq;simp only[aVw,aVD] at this;unfold qD;omega),aVs hq]
      .rw[aVv (by simpa using hq),aVv hq]
    · unfold wA
      rw[aVv hn,aVv hn,aVs ⟨aWu _,pG⟩,h0,h60,hhd];by_cases h6:s[0]=60
      · have hc:=a2X s
        have h6':some s[0]=some (60:UInt8):=by rw[h6]
        rw[aVs (aVS h6),aOE s pG,aVq,aVs (by unfold qD;omega),aVs h6'];by_cases hz:BE s+1=0
        .rw[aVs (aVS hz),aVs hz]
        .rw[aVv (by simpa using hz),aVv hz]
      · rw[aVv (by simpa using h6),aVv (fun h=>h6 (aVx h)),hsi]
        by_cases hz:Lib.indexByte s 60<0
        .rw[aVs (aVS hz),aVs hz]
        .rw[aVv (by simpa using hz),aVv hz]
  unfold Gf.elements_first;rw[key];unfold sQ s9;rw[aVq];clear key;generalize wA s=N at hle;obtain⟨k,n⟩:=N;dsimp only at hle|-;by_cases hz:n<0
  .rw[aVs hz,aVs (aVS hz)]
  .rw[aVv hz,aVv (by simpa using hz),aVs ⟨aWu _,pG,hle.1⟩,aE7]
abbrev OQ:=Int×pD×Int×Unit
def xC (s:pD):Nat→Nat→List OQ
  |0,_=>[]
  | n +1,i=>if i<s.length then
      ((s9 (s.drop i)).1,(s9 (s.drop i)).2,(i:Int),())::(if (s9 (s.drop i)).1=0 then[] else xC s n (i+(s9 (s.drop i)).2.length))
    else[(4,[],(s.length:Int),())]
def yZ (s:Ty.str.den):List OQ:=xC s (List.length s+1) 0
def Y4 (it:OQ):pN:=[.agg #[.int .i64 it.1,.string ⟨it.2.1.toArray⟩,.int .i64 it.2.2.1]]
@[go_sem] def aE8 (it:OQ):List qC:=[(.val (.pair (.int .i64) (.pair .str (.pair (.int .i64) .unit))) it,none)]
theorem aOG (it:OQ) (g:Gh) (w:pR):vS g w (aE8 it) (Y4 it):=
  ⟨_,_,rfl,⟨.inl ⟨rfl,[_,_,_],rfl,[_],[_,_],rfl,rfl,[_],[_],rfl,rfl,[_],[],rfl,rfl,rfl⟩,trivial⟩,rfl⟩
theorem aOH {g:Gh}{w:pR}{it:OQ}{v:pS}(h:tX g w (.pair (.int .i64) (.pair .str (.pair (.int .i64) .unit))) it v):v= .agg #[.int .i64 it.1,.string ⟨it.2.1.toArray⟩,.int .i64 it.2.2.1]:=by
  rcases h with⟨_,cs,rfl,c1,c2,rfl,h1,c3,c4,rfl,h2,c5,c6,rfl,h3,h4⟩ |⟨h,_⟩
  .rw[show c1=[.int .i64 it.1] from h1,show c3=[.string ⟨it.2.1.toArray⟩] from h2,show c5=[.int .i64 it.2.2.1] from h3,show c6=[] from h4];rfl
  .cases h
theorem aOI (s:pD) (hs:s≠[]) (hl:s.length<4294967281) (i:Int) (w:pR) (hT:DA w):
    Calls Tryz.prog 79 #[.string ⟨s.toArray⟩,.int .i64 i] w fun e w'=>e= .returned (.agg #[.int .i64 (s9 s).1,.string ⟨(s9 s).2.toArray⟩,.int .i64 i])∧Below w.heap.size w w':=by
  have he:=aOF s hs hl i;refine(aOD (args:=[(.val .str s,none),(.val (.int .i64) i,none)]) (vals:=[.string ⟨s.toArray⟩,.int .i64 i]) (t:= .pair (.int .i64) (.pair .str (.pair (.int .i64) .unit))) (x:=((s9 s).1,(s9 s).2,i,())) Gf.elements_first_con.1 hT (fun g=>⟨_,_,rfl,⟨BR _ _ _,trivial⟩,_,_,rfl,⟨wY _ _ _ _,trivial⟩,rfl⟩) (Gf.elements_firstC_eq s i) ?_ ?_).mono ?_
  · intro p hp
    rcases aVH.1 hp with rfl|hp
    .rw[he];rfl
    .cases hp
  · unfold Gf.elements_firstR
    rw[rY he]
  · rintro e w' ⟨v,rfl,hb,g',hv⟩
    exact⟨by rw[aOH hv],hb⟩
section
attribute [local go_sem] Oper.semAt_some
theorem aOJ:S5 Tryz.prog 78 .str (fun s=>List.length s<4294967281) yZ Y4:=by
  refine⟨fun _ _=>rfl,?_⟩;intro l b o (d:pD) cs g W0 J Jx hpre hR hrd hJd hJxd hJt hY W h0;rw[show cs=[.string ⟨d.toArray⟩] from hR] at hrd;have hl4:d.length<4294967281:=hpre;have r0: ∀i W,J i W→W.cell? ⟨b,o,none⟩=some (.string ⟨d.toArray⟩):=fun i W h=>by simpa using(hrd i W h).1 0 _ rfl
  refine(callsIn_wide (n:=0)).1 (callsIn_of_wp Tryz.func78 rfl trivial ?_);simp only[Tryz.ntmps78,aWn,aVw,aVD,Nat.reduceAdd,Nat.reduceSub,Array.replicate_succ,Array.replicate_zero,List.push_toArray,List.append_toArray,List.nil_append,List.cons_append]
  gi_wp2
  gi_loopw [3] (fun p wr=> ∃i k n:Nat,i≤d.length∧p= .int .i64 i∧d.length<n+i∧(yZ d).drop k=xC d n i∧k≤(yZ d).length∧J k wr) (fun p _=>d.length- (RowKit.intOf p).toNat)
  case atStart=>exact⟨0,0,d.length+1,aWC _,rfl,pG,rfl,aWC _,h0⟩
  case round=>
    obtain⟨i,k,n,hi,rfl,hn,hdrop,hk,hJs⟩:=hrel;have s1:=r0 _ _ hJs;obtain⟨n',rfl⟩: ∃n',n=n'+1:=⟨n-1,pG⟩;by_cases hlt:i<d.length
    · have hu:xC d (n'+1) i=((s9 (d.drop i)).1,(s9 (d.drop i)).2,(i:Int),())::(if (s9 (d.drop i)).1=0 then[] else xC d n' (i+(s9 (d.drop i)).2.length)):=by rw[xC,aVs hlt]
      rw[hu] at hdrop
      have hq:(yZ d)[k]? =some ((s9 (d.drop i)).1,(s9 (d.drop i)).2,(i:Int),()):=by
        have:=aVL (·[0]?) hdrop;simpa using this
      have hd2:(yZ d).drop (k+1)=(if (s9 (d.drop i)).1=0 then[] else xC d n' (i+(s9 (d.drop i)).2.length)):=by
        have:=aVL (List.drop 1) hdrop;simpa[aXa,Nat.add_comm] using this
      have hk2:k+1≤(yZ d).length:=(aVK.1 hq).1
      have hne:d.drop i≠[]:=by
        intro e;have:=aVL List.length e;rw[aVO,aVD] at this;omega
      have hcall:=aOI (d.drop i) hne (by rw[aVO];omega) (i:Int);have hle:=a2Y (d.drop i) hne;rw[aVO] at hle
      have hlen:(s9 (d.drop i)).2.length≤d.length-i∧((s9 (d.drop i)).1≠0→0<(s9 (d.drop i)).2.length):=by
        unfold s9;split
        .exact⟨by simp,fun h=>absurd rfl h⟩
        · rw[aVQ,aVO]
          exact⟨pG,fun _=>by omega⟩
      generalize s9 (d.drop i)=T at hcall hlen hq hd2;obtain⟨kd,tx⟩:=T
      have hext:((⟨d.toArray⟩:ByteArray).extract i d.length)=⟨(d.drop i).toArray⟩:=by
        rw[aOs];congr 2;exact List.take_of_length_le pI
      clear hu hdrop hle
      gi_wp2
      refine⟨trivial,rfl,(callsIn_wide.2 (hcall wr (hJt _ _ hJs))).mono ?_⟩;rintro e w' ⟨rfl,hbl⟩;have hJ1:=hJd _ _ _ hJs hbl;have s2:=r0 _ _ hJ1;have hb2:Below w'.heap.size w' (w'.alloc (.cells #[.int .i64 kd,.string ⟨tx.toArray⟩,.int .i64 i] 94)):=(Below.refl _ _).alloc (aVR _) _;obtain⟨fn,tmps,assign,body,hy,hQ⟩:=hY _ _ _ _ hq hJ1 hb2;dsimp only[Y4] at hy
      gi_wp2
      refine⟨rfl,hQ.mono ?_⟩;clear hQ hy;rintro e W2 ⟨h12,hkeep⟩;have hblk:=(hkeep w'.heap.size (aVR _) pI).trans (World.alloc_heap_new w' _);have hc1:W2.cell? ⟨w'.heap.size,0,none⟩=some (.int .i64 kd):=Lib.cell_of_heap hblk 0;have hc2:W2.cell? ⟨w'.heap.size,1,none⟩=some (.string ⟨tx.toArray⟩):=Lib.cell_of_heap hblk 1;clear hkeep hblk hb2 hcall;rcases h12 with⟨rfl,hJ2⟩ |⟨rfl,hJx⟩
      · by_cases hk0:kd=0
        · subst hk0
          rw[aVs rfl] at hd2
          have hkk:k+1=(yZ d).length:=by
            have h1:=aVL List.length hd2;rw[aVO,aVD] at h1;omega
          gi_wp2
          refine bodyPost_ret (results_none rfl _ _ _) rfl ?_;exact⟨⟨_,rfl⟩,.inl (hkk▸hJ2)⟩
        · rw[aVv hk0] at hd2
          have hpos:=hlen.2 hk0;have hle:=hlen.1;have hkd:decide (kd=0)=false:=decide_eq_false hk0
          gi_wp2
          go_roundw
          case rel=>exact⟨i+tx.length,k+1,n',pG,by simp,pG,hd2,hk2,hJ2⟩
          case measure=>
            show d.length- (i+tx.length)<d.length-i;omega
      · gi_wp2
        refine bodyPost_ret (results_none rfl _ _ _) rfl ?_;exact⟨⟨_,rfl⟩,.inr hJx⟩
    · obtain rfl:i=d.length:=by omega
      have hu:xC d (n'+1) d.length=[(4,[],(d.length:Int),())]:=by rw[xC,aVv (aW5 _)]
      rw[hu] at hdrop
      have hq:(yZ d)[k]? =some (4,[],(d.length:Int),()):=by
        have:=aVL (·[0]?) hdrop;simpa using this
      have hkk:k+1=(yZ d).length:=by
        have h1:=aVL List.length hdrop;rw[aVO] at h1;simp only[aVw,aVD] at h1;omega
      obtain⟨fn,tmps,assign,body,hy,hQ⟩:=hY _ _ _ _ hq hJs (Below.refl _ _);dsimp only[Y4] at hy
      gi_wp2
      refine⟨rfl,hQ.mono ?_⟩;clear hQ hy;rintro e W2 ⟨⟨rfl,hJ2⟩ |⟨rfl,hJx⟩,-⟩
      · gi_wp2
        go_end0
        exact⟨⟨_,rfl⟩,.inl (hkk▸hJ2)⟩
      · gi_wp2
        go_end0
        exact⟨⟨_,rfl⟩,.inr hJx⟩
end
end Go.Proofs.YtkpflnijijccpaaGreatDoor
namespace Go.Proofs.YtkpflnijijccpaaGreatDoor
open Vc
namespace Gs
noncomputable section
@[go_sem] abbrev s7:Ty:=(.pair .str (.pair .str (.pair .str (.pair (.list .str) (.pair (.list .str) (.pair (.int .i64) (.pair (.list (.pair .str (.pair .str .unit))) .unit)))))))
@[go_sem] abbrev xG:Ty:=(.pair .str (.pair (.list .str) (.pair (.list (.pair .str (.pair .str .unit))) (.pair (.list s7) .unit))))
@[go_sem] abbrev EP:Ty:=(.pair .str (.pair (.list .str) (.pair .str .unit)))
@[go_sem] abbrev wO:Ty:=(.pair .mref (.pair (.list (.int .u8)) .unit))
abbrev r6:Type:=(pD×(pD×Unit))
abbrev s0:Type:=(pD×(pD×(pD×(pE×(pE×(Int×((List r6)×Unit)))))))
abbrev G2:Type:=(pD×(pE×(pD×Unit)))
abbrev sD:Type:=(pD×(pE×((List r6)×((List s0)×Unit))))
abbrev sH:Type:=(Int×(pD×(Int×Unit)))
@[go_sem] abbrev sW:Ty:=(.pair (.int .i64) (.pair .str (.pair (.int .i64) .unit)))
@[go_sem] abbrev CT:Nat×TI:=(61,⟨(.list sW),94,32,false,[]⟩)
theorem HN:uF Tryz.prog CT.1 CT.2:=⟨pU,(show _/\_/\_ from⟨pU,pU,pU⟩)⟩
@[go_sem] abbrev AQ:Nat×TI:=(94,⟨sW,0,1,false,[]⟩)
theorem G3:uF Tryz.prog AQ.1 AQ.2:=⟨pU,(show ((_/\∃_,_/\_)\/_)/\_ from⟨.inl ⟨rfl,_,Tryz.underlying94,(show _/\_/\_/\_ from⟨rfl,pU,pU,(show _/\_/\_/\_ from⟨rfl,pU,pU,(show _/\_/\_/\_ from⟨rfl,pU,pU,trivial⟩)⟩)⟩)⟩,(fun _=>⟨pU,1,pH,(.struct rfl Tryz.underlying94 pU (.cons pH rfl pU pU (.int Tryz.underlying3) (.cons pH rfl pU pU (.str Tryz.underlying9) (.cons pH rfl pU pU (.int Tryz.underlying3) .nil))))⟩)⟩)⟩
theorem rH:Tryz.prog.follows .mixedOrders=true:=by kernel_rfl
@[go_sem] abbrev G4:Nat×qW:=(108,⟨[.v,.v],RZ,[],[],none⟩)
theorem LV:r5 Tryz.prog G4:=⟨a2d,fun _ h=>by cases h⟩
@[go_sem] abbrev OH:Nat×qW:=(127,⟨[.v,.v],S0,[],[],none⟩)
theorem a2z:r5 Tryz.prog OH:=⟨a2e,fun _ h=>by cases h⟩
@[go_sem] abbrev LW:Nat×qW:=(85,⟨[.v,.v],S9,[],[],none⟩)
theorem XX:r5 Tryz.prog LW:=⟨a2r,fun _ h=>by cases h⟩
@[go_sem] abbrev OI:Nat×qW:=(179,⟨[.v],S1,[],[],none⟩)
theorem a2A:r5 Tryz.prog OI:=⟨a2f,fun _ h=>by cases h⟩
@[go_sem] abbrev OJ:Nat×qW:=(181,⟨[.v],SA,[],[],none⟩)
theorem a2B:r5 Tryz.prog OJ:=⟨a2s,fun _ h=>by cases h⟩
@[go_sem] abbrev OK:Nat×qW:=(182,⟨[.v,.v],SG,[],[],none⟩)
theorem a2C:r5 Tryz.prog OK:=⟨a2x,fun _ h=>by cases h⟩
@[go_sem] abbrev JL:Nat×qW:=(58,⟨[.p wO [1]],S2,[],[],none⟩)
theorem SH:r5 Tryz.prog JL:=⟨a2i,fun _ h=>by cases h⟩
@[go_sem] abbrev HM:Nat×qW:=(31,⟨[.p wO [1]],S3,[],[],none⟩)
theorem OL:r5 Tryz.prog HM:=⟨a2l,fun _ h=>by cases h⟩
@[go_sem] abbrev LX:Nat×qW:=(113,⟨[.v],SB,[],[],none⟩)
theorem XY:r5 Tryz.prog LX:=⟨a2t,fun _ h=>by cases h⟩
@[go_sem] abbrev OM:Nat×qW:=(131,⟨[.v,.v],SC,[],[],none⟩)
theorem a2D:r5 Tryz.prog OM:=⟨a2u,fun _ h=>by cases h⟩
@[go_sem] abbrev LY:Nat×qW:=(91,⟨[.r],S7,[],[],none⟩)
theorem XZ:r5 Tryz.prog LY:=⟨a2p,fun _ h=>by cases h⟩
@[go_sem] abbrev ON:Nat×qW:=(130,⟨[.r,.v],S8,[],[],none⟩)
theorem a2E:r5 Tryz.prog ON:=⟨a2q,fun _ h=>by cases h⟩
@[go_sem] abbrev OO:Nat×qW:=(159,⟨[.r,.v,.v],S4,[],[],none⟩)
theorem a2F:r5 Tryz.prog OO:=⟨a2m,fun _ h=>by cases h⟩
@[go_sem] abbrev LZ:Nat×qW:=(151,⟨[.v,.v],SD,[],[],none⟩)
theorem Y0:r5 Tryz.prog LZ:=⟨a2v,fun _ h=>by cases h⟩
@[go_sem] abbrev OP:Nat×qW:=(70,⟨[.v,.v],SE,[],[],none⟩)
theorem a2G:r5 Tryz.prog OP:=⟨a2w,fun _ h=>by cases h⟩
@[go_sem] abbrev M0:Nat×qW:=(88,⟨[.v],XR,[],[],some XS⟩)
theorem Y1:r5 Tryz.prog M0:=a2h
end
end Gs
namespace Gs
noncomputable section
def slices_AppendSeq_elements_token_elements_tokensF1_step1:(Int×pD×Int×Unit)→(List sH)→Option ((List sH)⊕(List sH)):=fun O Z=>
 if (List.length Z+List.length ([O]:List sH))*32≤140737488355328 then
  some (.inl (Z++([O]:List sH)))
 else none
def slices_AppendSeq_elements_token_elements_tokensF1 (O:pD):Option (List sH):=
 if List.length O<4294967281 then
  tY (zP (slices_AppendSeq_elements_token_elements_tokensF1_step1) (yZ O) ([]:List sH)) fun Z=>
  some (Z)
 else none
section
variable (O:pD)
abbrev a2Z:List qC:=[(.nilS,none),(.val .clo (some (78,[(0,0)])),none)]
abbrev a24:List qB:=[.cells .str O []]
@[go_sem] def a26:qI:=⟨[((slices_AppendSeq_elements_token_elements_tokensF1 O)).isSome=true],[(.val (.list sW) (val (slices_AppendSeq_elements_token_elements_tokensF1 O)),none)],[.cells .str O []]⟩
def aE9:List qC→List qB→Option qI:=rM (V:=pD) (fun x=>a2Z) (fun x=>a24 x) fun x=>a26 x
@[go_sem] theorem aTw:aE9 (no_index a2Z) (no_index (a24 O))=some (a26 O):=rQ (fun a0 b0 h1 h2=>by cases h1;cases h2;rfl) O
end
@[go_sem] abbrev a27:Nat×qW:=(77,⟨[.v,.f [(.str,[])]],aE9,[],[0],none⟩)
theorem OR:rF Tryz.prog [CT,AQ] (rG []):=⟨⟨HN,⟨G3,trivial⟩⟩,rJ,rH⟩
theorem aFa:r5 Tryz.prog a27:=by
 refine rR OR Tryz.func77 (c:=_) rfl (N:=13) pU (ts:=[(4,none)]) rfl (fun _ _=>rfl) ?_;intro O hs hrow;dsimp only[a2Z,a24,a26,rI,qR,qZ,r8,rL,Nat.reduceAdd] at hs hrow|-;have hz:=hs;obtain⟨z0,hC0⟩:=aVt.1 hz
 try rw[rY hC0]
 clear hz hs;unfold slices_AppendSeq_elements_token_elements_tokensF1 at hC0;refine q9 OR ?_;refine qO ?_;refine q9 OR ?_;refine rP ?_;obtain⟨hgF2,hC0⟩:=qG hC0;obtain⟨y1,hy1,hC0⟩:=uV hC0;refine aOl aOJ aOG pV pV hgF2 hy1 [(2,(.val .ref (some (1,0)),none))] (fun Z=>[(2,(.val .ref (some (1,0)),none)),(5,(.val .ref (some (3,0)),none))]) (fun x=>[.cells .str O [],.cells (.list sW) x [(0,2)],.grow 94 3 (List.length x)]) (fun Z x=>[.cells .str O [],.cells (.list sW) x [(0,2)],.grow 94 3 (List.length x),.cells sW Z []]) 2 ⟨[2],[(0,0),(1,1),(2,2)]⟩ pV pV (aWQ pV) (fun _=>by rfl) pV (aWQ pV) (fun _=>aWQ rfl) (fun _=>by rfl) (fun _ _=>by rfl) (fun _ _=>aWQ rfl) (fun _=>rfl) pV ?_ ?_
 .intro Z aA w1 hC1 hN1;refine⟨?_,?_⟩
  .dsimp only[JJ,aE8,uI,qR,qZ,Nat.reduceAdd,List.toList_toArray];refine rC OR ?_;exact aES ⟨[2,5],[(0,0),(1,1),(2,2),(3,3)]⟩ pV
  .unfold slices_AppendSeq_elements_token_elements_tokensF1_step1 at hC1;dsimp only[qR,qZ,Nat.reduceAdd] at hC1|-;refine rP ?_;obtain⟨hg1,hC1⟩:=qG hC1;refine rC OR ?_ (hp:=by exact⟨pT,hg1⟩)
   refine rU ?_;cases hC1;exact aET ⟨[],[(0,0),(1,1),(2,2)]⟩ _ rfl pV
 .rintro aA rfl;dsimp only[qR,qZ,Nat.reduceAdd] at hC0|-;refine rU (qJ ?_);refine q9 OR ?_;refine qP ?_;cases hC0;exact pF [(0,0)]
attribute [irreducible] slices_AppendSeq_elements_token_elements_tokensF1
def slices_Collect_elements_token_elements_tokensF1 (O:pD):Option (List sH):=
 (slices_AppendSeq_elements_token_elements_tokensF1 O).bind fun Z=>
 some (Z)
section
variable (O:pD)
abbrev a28:List qC:=[(.val .clo (some (78,[(0,0)])),none)]
abbrev a29:List qB:=[.cells .str O []]
@[go_sem] def a3a:qI:=⟨[((slices_Collect_elements_token_elements_tokensF1 O)).isSome=true],[(.val (.list sW) (val (slices_Collect_elements_token_elements_tokensF1 O)),none)],[.cells .str O []]⟩
def aFb:List qC→List qB→Option qI:=rM (V:=pD) (fun x=>a28) (fun x=>a29 x) fun x=>a3a x
@[go_sem] theorem aTx:aFb (no_index a28) (no_index (a29 O))=some (a3a O):=rQ (fun a0 b0 h1 h2=>by cases h1;cases h2;rfl) O
end
@[go_sem] abbrev slices_Collect_elements_token_elements_tokensF1E:Nat×qW:=(49,⟨[.f [(.str,[])]],aFb,[],[0],none⟩)
theorem aFc:rF Tryz.prog [CT] (rG [a27]):=⟨⟨HN,trivial⟩,qK aFa rJ,rH⟩
theorem aOK:rF Tryz.prog [] (rG [a27]):=⟨trivial,qK aFa rJ,rH⟩
theorem slices_Collect_elements_token_elements_tokensF1_con:r5 Tryz.prog slices_Collect_elements_token_elements_tokensF1E:=by
 refine rR aFc Tryz.func49 (c:=_) rfl (N:=5) pU (ts:=[(2,none)]) rfl (fun _ _=>rfl) ?_;intro O hs hrow;dsimp only[a28,a29,a3a,rI,qR,qZ,r8,rL,Nat.reduceAdd] at hs hrow|-;have hz:=hs;obtain⟨z0,hC0⟩:=aVt.1 hz
 try rw[rY hC0]
 clear hz hs;unfold slices_Collect_elements_token_elements_tokensF1 at hC0;refine q9 aFc ?_;obtain⟨Z,hv1,hw1,hC0⟩:=qV hC0
 try simp only[go_sem] at hw1
 refine q9 aOK ?_ (hp:=by exact⟨pT,(qU hv1)⟩) (h:=by simp only[go_sem,hw1];rfl)
 refine qP ?_;cases hC0;exact pF [(0,0)]
attribute [irreducible] slices_Collect_elements_token_elements_tokensF1
end
end Gs
end Go.Proofs.YtkpflnijijccpaaGreatDoor
section
end
namespace Go.Proofs.YtkpflnijijccpaaGreatDoor
open Vc
@[reducible,go_sem] noncomputable def a3b:Nat×qW:=Gs.slices_Collect_elements_token_elements_tokensF1E
theorem aOL:r5 Tryz.prog a3b:=Gs.slices_Collect_elements_token_elements_tokensF1_con
theorem aOM:r5 Tryz.prog a3b:=aOL
noncomputable section
@[go_sem] abbrev s7:Ty:=(.pair .str (.pair .str (.pair .str (.pair (.list .str) (.pair (.list .str) (.pair (.int .i64) (.pair (.list (.pair .str (.pair .str .unit))) .unit)))))))
@[go_sem] abbrev xG:Ty:=(.pair .str (.pair (.list .str) (.pair (.list (.pair .str (.pair .str .unit))) (.pair (.list s7) .unit))))
@[go_sem] abbrev EP:Ty:=(.pair .str (.pair (.list .str) (.pair .str .unit)))
@[go_sem] abbrev wO:Ty:=(.pair .mref (.pair (.list (.int .u8)) .unit))
abbrev r6:Type:=(pD×(pD×Unit))
abbrev s0:Type:=(pD×(pD×(pD×(pE×(pE×(Int×((List r6)×Unit)))))))
abbrev G2:Type:=(pD×(pE×(pD×Unit)))
abbrev sD:Type:=(pD×(pE×((List r6)×((List s0)×Unit))))
abbrev sH:Type:=(Int×(pD×(Int×Unit)))
@[go_sem] abbrev sW:Ty:=(.pair (.int .i64) (.pair .str (.pair (.int .i64) .unit)))
@[go_sem] abbrev sX:Ty:=(.pair (.list sW) (.pair (.int .i64) (.pair (.int .i64) (.pair xG (.pair .mp (.pair (.list (.int .i64)) .unit))))))
@[go_sem] abbrev xD:Ty:=(.pair (.int .i64) (.pair .str (.pair (.list (.pair .str (.pair .str .unit))) (.pair .bool .unit))))
abbrev z6:Type:=(Int×(pD×((List r6)×(Bool×Unit))))
@[go_sem] abbrev wP:Nat×TI:=(3,⟨(.int .i64),0,0,false,[]⟩)
theorem xE:uF Tryz.prog wP.1 wP.2:=⟨pU,(show Tryz.prog.underlying _=_ from by kernel_rfl)⟩
@[go_sem] abbrev G5:Nat×TI:=(5,⟨(.int .u8),0,0,false,[]⟩)
theorem JM:uF Tryz.prog G5.1 G5.2:=⟨pU,(show Tryz.prog.underlying _=_ from by kernel_rfl)⟩
@[go_sem] abbrev sJ:Nat×TI:=(9,⟨.str,0,0,false,[]⟩)
theorem sM:uF Tryz.prog sJ.1 sJ.2:=⟨pU,(show Tryz.prog.underlying _=_ from by kernel_rfl)⟩
@[go_sem] abbrev EQ:Nat×TI:=(22,⟨(.list (.int .u8)),5,1,false,[]⟩)
theorem HO:uF Tryz.prog EQ.1 EQ.2:=⟨pU,(show _/\_/\_ from⟨pU,pU,pU⟩)⟩
@[go_sem] abbrev vU:Nat×TI:=(24,⟨(.list .str),9,16,false,[]⟩)
theorem w7:uF Tryz.prog vU.1 vU.2:=⟨pU,(show _/\_/\_ from⟨pU,pU,pU⟩)⟩
@[go_sem] abbrev OS:Nat×TI:=(26,⟨EP,0,0,false,[(1,9,1)]⟩)
theorem Y5:uF Tryz.prog OS.1 OS.2:=⟨pU,(show ((_/\∃_,_/\_)\/_)/\_ from⟨.inl ⟨rfl,_,Tryz.underlying26,(show _/\_/\_/\_ from⟨rfl,pU,pU,(show _/\_/\_/\_ from⟨rfl,pU,pU,(show _/\_/\_/\_ from⟨rfl,pU,pU,trivial⟩)⟩)⟩)⟩,(fun h=>absurd h pH)⟩)⟩
@[go_sem] abbrev DL:Nat×TI:=(34,⟨(.list s7),53,128,false,[]⟩)
theorem G6:uF Tryz.prog DL.1 DL.2:=⟨pU,(show _/\_/\_ from⟨pU,pU,pU⟩)⟩
@[go_sem] abbrev zQ:Nat×TI:=(36,⟨xG,0,0,false,[(1,9,1),(2,111,2),(3,53,7)]⟩)
theorem AS:uF Tryz.prog zQ.1 zQ.2:=⟨pU,(show ((_/\∃_,_/\_)\/_)/\_ from⟨.inl ⟨rfl,_,Tryz.underlying36,(show _/\_/\_/\_ from⟨rfl,pU,pU,(show _/\_/\_/\_ from⟨rfl,pU,pU,(show _/\_/\_/\_ from⟨rfl,pU,pU,(show _/\_/\_/\_ from⟨rfl,pU,pU,trivial⟩)⟩)⟩)⟩)⟩,(fun h=>absurd h pH)⟩)⟩
@[go_sem] abbrev xI:Nat×TI:=(53,⟨s7,0,0,false,[(3,9,1),(4,9,1),(6,111,2)]⟩)
theorem y5:uF Tryz.prog xI.1 xI.2:=⟨pU,(show ((_/\∃_,_/\_)\/_)/\_ from⟨.inl ⟨rfl,_,Tryz.underlying53,(show _/\_/\_/\_ from⟨rfl,pU,pU,(show _/\_/\_/\_ from⟨rfl,pU,pU,(show _/\_/\_/\_ from⟨rfl,pU,pU,(show _/\_/\_/\_ from⟨rfl,pU,pU,(show _/\_/\_/\_ from⟨rfl,pU,pU,(show _/\_/\_/\_ from⟨rfl,pU,pU,(show _/\_/\_/\_ from⟨rfl,pU,pU,trivial⟩)⟩)⟩)⟩)⟩)⟩)⟩)⟩,(fun h=>absurd h pH)⟩)⟩
@[go_sem] abbrev HP:Nat×TI:=(73,⟨wO,0,0,false,[(1,5,1)]⟩)
theorem M6:uF Tryz.prog HP.1 HP.2:=⟨pU,(show ((_/\∃_,_/\_)\/_)/\_ from⟨.inl ⟨rfl,_,Tryz.underlying73,(show _/\_/\_/\_ from⟨rfl,pU,pU,(show _/\_/\_/\_ from⟨rfl,pU,pU,trivial⟩)⟩)⟩,(fun h=>absurd h pH)⟩)⟩
@[go_sem] abbrev xJ:Nat×TI:=(33,⟨(.list (.pair .str (.pair .str .unit))),111,32,false,[]⟩)
theorem y6:uF Tryz.prog xJ.1 xJ.2:=⟨pU,(show _/\_/\_ from⟨pU,pU,pU⟩)⟩
@[go_sem] abbrev CU:Nat×TI:=(111,⟨(.pair .str (.pair .str .unit)),0,1,false,[]⟩)
theorem ER:uF Tryz.prog CU.1 CU.2:=⟨pU,(show ((_/\∃_,_/\_)\/_)/\_ from⟨.inl ⟨rfl,_,Tryz.underlying111,(show _/\_/\_/\_ from⟨rfl,pU,pU,(show _/\_/\_/\_ from⟨rfl,pU,pU,trivial⟩)⟩)⟩,(fun _=>⟨pU,1,pH,(.struct rfl Tryz.underlying111 pU (.cons pH rfl pU pU (.str Tryz.underlying9) (.cons pH rfl pU pU (.str Tryz.underlying9) .nil)))⟩)⟩)⟩
@[go_sem] abbrev DM:Nat×TI:=(27,⟨(.int .i64),0,0,false,[]⟩)
theorem G7:uF Tryz.prog DM.1 DM.2:=⟨pU,(show Tryz.prog.underlying _=_ from by kernel_rfl)⟩
@[go_sem] abbrev CT:Nat×TI:=(61,⟨(.list sW),94,32,false,[]⟩)
theorem HN:uF Tryz.prog CT.1 CT.2:=⟨pU,(show _/\_/\_ from⟨pU,pU,pU⟩)⟩
@[go_sem] abbrev CV:Nat×TI:=(65,⟨sX,0,0,false,[(0,94,3),(4,9,1),(5,111,2),(6,53,7),(8,3,1)]⟩)
theorem ES:uF Tryz.prog CV.1 CV.2:=⟨pU,(show ((_/\∃_,_/\_)\/_)/\_ from⟨.inl ⟨rfl,_,Tryz.underlying65,(show _/\_/\_/\_ from⟨rfl,pU,pU,(show _/\_/\_/\_ from⟨rfl,pU,pU,(show _/\_/\_/\_ from⟨rfl,pU,pU,(show _/\_/\_/\_ from⟨rfl,pU,pU,(show _/\_/\_/\_ from⟨rfl,pU,pU,(show _/\_/\_/\_ from⟨rfl,pU,pU,trivial⟩)⟩)⟩)⟩)⟩)⟩)⟩,(fun h=>absurd h pH)⟩)⟩
@[go_sem] abbrev AQ:Nat×TI:=(94,⟨sW,0,1,false,[]⟩)
theorem G3:uF Tryz.prog AQ.1 AQ.2:=⟨pU,(show ((_/\∃_,_/\_)\/_)/\_ from⟨.inl ⟨rfl,_,Tryz.underlying94,(show _/\_/\_/\_ from⟨rfl,pU,pU,(show _/\_/\_/\_ from⟨rfl,pU,pU,(show _/\_/\_/\_ from⟨rfl,pU,pU,trivial⟩)⟩)⟩)⟩,(fun _=>⟨pU,1,pH,(.struct rfl Tryz.underlying94 pU (.cons pH rfl pU pU (.int Tryz.underlying3) (.cons pH rfl pU pU (.str Tryz.underlying9) (.cons pH rfl pU pU (.int Tryz.underlying3) .nil))))⟩)⟩)⟩
@[go_sem] abbrev BV:Nat×TI:=(127,⟨(.pair .str (.pair .str .unit)),0,1,false,[]⟩)
theorem DN:uF Tryz.prog BV.1 BV.2:=⟨pU,(show ((_/\∃_,_/\_)\/_)/\_ from⟨.inl ⟨rfl,_,Tryz.underlying127,(show _/\_/\_/\_ from⟨rfl,pU,pU,(show _/\_/\_/\_ from⟨rfl,pU,pU,trivial⟩)⟩)⟩,(fun _=>⟨pU,1,pH,(.struct rfl Tryz.underlying127 pU (.cons pH rfl pU pU (.str Tryz.underlying9) (.cons pH rfl pU pU (.str Tryz.underlying9) .nil)))⟩)⟩)⟩
@[go_sem] abbrev SK:Nat×TI:=(21,⟨(.int .i32),0,0,false,[]⟩)
theorem a3c:uF Tryz.prog SK.1 SK.2:=⟨pU,(show Tryz.prog.underlying _=_ from by kernel_rfl)⟩
@[go_sem] abbrev Y6:Nat×TI:=(205,⟨(.int .u32),0,0,false,[]⟩)
theorem aFd:uF Tryz.prog Y6.1 Y6.2:=⟨pU,(show Tryz.prog.underlying _=_ from by kernel_rfl)⟩
@[go_sem] abbrev Y7:Nat×TI:=(33,⟨(.list (.pair .str (.pair .str .unit))),111,32,true,[]⟩)
theorem aFe:uF Tryz.prog Y7.1 Y7.2:=⟨pU,(show _/\_/\_ from⟨pU,pU,pU⟩)⟩
@[go_sem] abbrev CW:Nat×TI:=(98,⟨(.list (.pair .str (.pair .str .unit))),127,32,false,[]⟩)
theorem ET:uF Tryz.prog CW.1 CW.2:=⟨pU,(show _/\_/\_ from⟨pU,pU,pU⟩)⟩
@[go_sem] abbrev a3d:Nat×TI:=(24,⟨(.list .str),9,16,true,[]⟩)
theorem aON:uF Tryz.prog a3d.1 a3d.2:=⟨pU,(show _/\_/\_ from⟨pU,pU,pU⟩)⟩
@[go_sem] abbrev zI:Nat×TI:=(100,⟨xD,0,0,false,[(2,127,2)]⟩)
theorem A9:uF Tryz.prog zI.1 zI.2:=⟨pU,(show ((_/\∃_,_/\_)\/_)/\_ from⟨.inl ⟨rfl,_,Tryz.underlying100,(show _/\_/\_/\_ from⟨rfl,pU,pU,(show _/\_/\_/\_ from⟨rfl,pU,pU,(show _/\_/\_/\_ from⟨rfl,pU,pU,(show _/\_/\_/\_ from⟨rfl,pU,pU,trivial⟩)⟩)⟩)⟩)⟩,(fun h=>absurd h pH)⟩)⟩
@[go_sem] abbrev G8:Nat×TI:=(123,⟨.mp,9,9,false,[]⟩)
theorem JN:uF Tryz.prog G8.1 G8.2:=⟨pU,(show Tryz.prog.underlying _=_ from by kernel_rfl)⟩
@[go_sem] abbrev BF:Nat×TI:=(4,⟨.bool,0,0,false,[]⟩)
theorem CX:uF Tryz.prog BF.1 BF.2:=⟨pU,(show Tryz.prog.underlying _=_ from by kernel_rfl)⟩
@[go_sem] abbrev G9:Nat×TI:=(63,⟨(.list (.int .i64)),3,8,false,[]⟩)
theorem JO:uF Tryz.prog G9.1 G9.2:=⟨pU,(show _/\_/\_ from⟨pU,pU,pU⟩)⟩
@[go_sem] abbrev JP:Nat×TI:=(62,⟨.mp,9,4,false,[]⟩)
theorem OT:uF Tryz.prog JP.1 JP.2:=⟨pU,(show Tryz.prog.underlying _=_ from by kernel_rfl)⟩
theorem rH:Tryz.prog.follows .mixedOrders=true:=by kernel_rfl
@[go_sem] abbrev G4:Nat×qW:=(108,⟨[.v,.v],RZ,[],[],none⟩)
theorem LV:r5 Tryz.prog G4:=⟨a2d,fun _ h=>by cases h⟩
@[go_sem] abbrev OH:Nat×qW:=(127,⟨[.v,.v],S0,[],[],none⟩)
theorem a2z:r5 Tryz.prog OH:=⟨a2e,fun _ h=>by cases h⟩
@[go_sem] abbrev LW:Nat×qW:=(85,⟨[.v,.v],S9,[],[],none⟩)
theorem XX:r5 Tryz.prog LW:=⟨a2r,fun _ h=>by cases h⟩
@[go_sem] abbrev OI:Nat×qW:=(179,⟨[.v],S1,[],[],none⟩)
theorem a2A:r5 Tryz.prog OI:=⟨a2f,fun _ h=>by cases h⟩
@[go_sem] abbrev OJ:Nat×qW:=(181,⟨[.v],SA,[],[],none⟩)
theorem a2B:r5 Tryz.prog OJ:=⟨a2s,fun _ h=>by cases h⟩
@[go_sem] abbrev OK:Nat×qW:=(182,⟨[.v,.v],SG,[],[],none⟩)
theorem a2C:r5 Tryz.prog OK:=⟨a2x,fun _ h=>by cases h⟩
@[go_sem] abbrev JL:Nat×qW:=(58,⟨[.p wO [1]],S2,[],[],none⟩)
theorem SH:r5 Tryz.prog JL:=⟨a2i,fun _ h=>by cases h⟩
@[go_sem] abbrev HM:Nat×qW:=(31,⟨[.p wO [1]],S3,[],[],none⟩)
theorem OL:r5 Tryz.prog HM:=⟨a2l,fun _ h=>by cases h⟩
@[go_sem] abbrev LX:Nat×qW:=(113,⟨[.v],SB,[],[],none⟩)
theorem XY:r5 Tryz.prog LX:=⟨a2t,fun _ h=>by cases h⟩
@[go_sem] abbrev OM:Nat×qW:=(131,⟨[.v,.v],SC,[],[],none⟩)
theorem a2D:r5 Tryz.prog OM:=⟨a2u,fun _ h=>by cases h⟩
@[go_sem] abbrev LY:Nat×qW:=(91,⟨[.r],S7,[],[],none⟩)
theorem XZ:r5 Tryz.prog LY:=⟨a2p,fun _ h=>by cases h⟩
@[go_sem] abbrev ON:Nat×qW:=(130,⟨[.r,.v],S8,[],[],none⟩)
theorem a2E:r5 Tryz.prog ON:=⟨a2q,fun _ h=>by cases h⟩
@[go_sem] abbrev OO:Nat×qW:=(159,⟨[.r,.v,.v],S4,[],[],none⟩)
theorem a2F:r5 Tryz.prog OO:=⟨a2m,fun _ h=>by cases h⟩
@[go_sem] abbrev LZ:Nat×qW:=(151,⟨[.v,.v],SD,[],[],none⟩)
theorem Y0:r5 Tryz.prog LZ:=⟨a2v,fun _ h=>by cases h⟩
@[go_sem] abbrev OP:Nat×qW:=(70,⟨[.v,.v],SE,[],[],none⟩)
theorem a2G:r5 Tryz.prog OP:=⟨a2w,fun _ h=>by cases h⟩
@[go_sem] abbrev M0:Nat×qW:=(88,⟨[.v],XR,[],[],some XS⟩)
theorem Y1:r5 Tryz.prog M0:=a2h
end
noncomputable section
def a3e (O:Int):Option pD:=if (decide ((10:Int)≤O))=true then if False then if False then if (((JK (IntKind.wrap .i64 (Int.tdiv O (10:Int))))++(JK (Int.tmod O (10:Int)))).length:Int)≤9223372036854775807 then some (((JK (IntKind.wrap .i64 (Int.tdiv O (10:Int))))++(JK (Int.tmod O (10:Int))))) else none else none else none else if qD ((48:Int)+O) then some ((uA ([(IntKind.wrap .u8 ((48:Int)+O))]:pM))) else none
def a3f (O:Int):Option pD:=if (decide ((10:Int)≤O))=true then (a3e (IntKind.wrap .i64 (Int.tdiv O (10:Int)))).bind fun Z=>(a3e (Int.tmod O (10:Int))).bind fun aA=>if ((Z++aA).length:Int)≤9223372036854775807 then some ((Z++aA)) else none else if qD ((48:Int)+O) then some ((uA ([(IntKind.wrap .u8 ((48:Int)+O))]:pM))) else none
def aFf (O:Int):Option pD:=if (decide ((10:Int)≤O))=true then (a3f (IntKind.wrap .i64 (Int.tdiv O (10:Int)))).bind fun Z=>(a3f (Int.tmod O (10:Int))).bind fun aA=>if ((Z++aA).length:Int)≤9223372036854775807 then some ((Z++aA)) else none else if qD ((48:Int)+O) then some ((uA ([(IntKind.wrap .u8 ((48:Int)+O))]:pM))) else none
def SL (O:sD) (Z:pD):Int→Option (Int⊕(Unit⊕(Int×Bool))):=fun aA=>if (decide (aA<(O.2.2.2.1.length:Int)))=true then if 0≤aA∧aA<(O.2.2.2.1.length:Int) then if (decide ((qQ s7 O.2.2.2.1 aA).1=Z))=true then some (.inr (.inr ((aA,true)))) else if qD (aA+(1:Int)) then some (.inl (aA+(1:Int))) else none else none else some (.inr (.inl ()))
def JQ (O:sD) (Z:pD):Option (Int×Bool):=tY (rO (SL O Z) (0:Int)) fun _=>some (((0:Int),false))
section
variable (O:sD) (Z:pD)
abbrev a3g:List qC:=[(.val xG O,none),(.val .str Z,none)]
abbrev a3h:List qB:=[]
@[go_sem] def a3i:qI:=⟨[((JQ O Z)).isSome=true],[(.val (.int .i64) ((val (JQ O Z)).1),none),(.val .bool ((val (JQ O Z)).2),none)],[]⟩
def aFg:List qC→List qB→Option qI:=rM (V:=(sD×pD)) (fun x=>a3g x.1 x.2) (fun x=>a3h) fun x=>a3i x.1 x.2
@[go_sem] def aTy:aFg (no_index (a3g O Z)) (no_index a3h)=some (a3i O Z):=rQ (fun⟨a0,a1⟩ ⟨b0,b1⟩ h1 h2=>by cases h1;cases h2;rfl) (O,Z)
end
@[go_sem] abbrev aFh:Nat×qW:=(25,⟨[.v,.v],aFg,[],[],none⟩)
def JR:rF Tryz.prog [sJ,DL,zQ,xI] (rG []):=⟨⟨sM,⟨G6,⟨AS,⟨y5,trivial⟩⟩⟩⟩,rJ,rH⟩
def aOO:r5 Tryz.prog aFh:=by
 refine rR JR Tryz.func25 (c:=_) rfl (N:=23) pU (ts:=[(4,none),(5,none)]) rfl (fun _ _=>rfl) ?_;intro⟨O,Z⟩ hs hrow;dsimp only[a3g,a3h,a3i,rI,qR,qZ,r8,rL,Nat.reduceAdd] at hs hrow|-;have hz:=hs;obtain⟨z0,e⟩:=aVt.1 hz
 try rw[rY e]
 clear hz hs;unfold JQ at e;refine q9 JR ?_;refine qO ?_;refine q9 JR ?_;refine rP ?_;obtain⟨y1,hy1,e⟩:=uV e;refine tV 0 (fun s=> ∃v,y1= .inl v∧s=(fun _=>⟨[],[],0,23,0⟩) v) ?_ ?_
 .refine tP hy1 (fun x=>⟨[(1,(.val .str Z,none)),(2,(.val .ref (some (0,0)),none)),(6,(.val (.int .i64) x,none))],[(0,.cells xG O [])],1,23,0⟩) ⟨[1,2,6],[(0,0)]⟩ pV ?_;intro aA w1 n1 d f;unfold SL at d;dsimp only at d|-;refine qO ?_;refine q9 JR ?_;refine qS d (fun d hc1=> ?_) (fun d hc1=> ?_)
  .refine r7 (qJ (qO (rP ?_)));obtain⟨hg1,d⟩:=qG d;refine q9 JR ?_ (hp:=by exact hg1);refine qS d (fun d hc2=> ?_) (fun d hc2=> ?_)
   .refine q9 JR ?_;refine qP (rT (rD (uX (uZ (rT (rD ?_))))));cases d;cases f;dsimp only at e;cases e;exact pF []
   .refine r7 (rU (qJ ?_));obtain⟨hg2,d⟩:=qG d;refine rC JR ?_ (hp:=by exact hg2);cases d;exact sU ⟨⟨[1,2,6],[(0,0)]⟩,_,by rfl,f⟩
  .refine tK (tJ (tN ?_));cases d;cases f;exact tM ⟨⟨[],[]⟩,_,rfl,by rfl⟩
 .rintro _ ⟨v,rfl,rfl⟩;dsimp only at e|-;refine tU (qJ ?_);refine q9 JR ?_;refine qP ?_;cases e;exact pF []
def aFi (O:G2):Unit:=()
section
variable (O:G2)
abbrev a3j:List qC:=[(.val EP O,none)]
abbrev a3k:List qB:=[]
@[go_sem] def a3l:qI:=⟨[],[(.val .clo (some (57,[(0,0)])),none)],[.cells EP O []]⟩
def aFj:List qC→List qB→Option qI:=rM (V:=G2) (a3j) (fun x=>a3k) fun x=>a3l x
@[go_sem] def aTz:aFj (no_index (a3j O)) (no_index a3k)=some (a3l O):=rQ (fun a0 b0 h1 h2=>by cases h1;cases h2;rfl) O
end
@[go_sem] abbrev aFk:Nat×qW:=(27,⟨[.v],aFj,[],[],none⟩)
def a3m:rF Tryz.prog [OS] (rG []):=⟨⟨Y5,trivial⟩,rJ,rH⟩
def aOP:r5 Tryz.prog aFk:=by
 refine rR a3m Tryz.func27 (c:=_) rfl (N:=4) pU (ts:=[(2,none)]) rfl (fun _ _=>rfl) ?_;intro O hs hrow;dsimp only[a3j,a3k,a3l,rI,qR,qZ,r8,rL,Nat.reduceAdd] at hs hrow|-;obtain⟨z0,e⟩: ∃z,(aFi O)=z:=⟨_,rfl⟩
 try rw[e]
 unfold aFi at e;refine q9 a3m ?_;refine q9 a3m ?_;refine qP ?_;cases e;exact pF [(0,0)]
def DO (O:(pM×Unit)) (Z:pD):Option Unit:=if List.length O.1+Z.length≤140737488355328 then some (()) else none
section
variable (O:pD) (Z:(pM×Unit)) (aA:Nat)
abbrev a3n:List qC:=[(.val .ref (some (0,0)),none),(.val .str O,none)]
abbrev a3o:List qB:=[.cells wO ((some (0,0)),Z) [(1,1)],.grow 5 1 aA]
@[go_sem] def a3p:qI:=⟨[aA=(Z.1.length),((DO Z O)).isSome=true],[(.val (.int .i64) (O.length:Int),none),(.any,none)],[.cells wO ((some (0,0)),((Z.1++uY O),())) [(1,1)],.grow 5 1 ((Z.1++uY O).length)]⟩
def aFl:List qC→List qB→Option qI:=rM (V:=(pD×(pM×Unit)×Nat)) (fun x=>a3n x.1) (fun x=>a3o x.2.1 x.2.2) fun x=>a3p x.1 x.2.1 x.2.2
@[go_sem] def aTA:aFl (no_index (a3n O)) (no_index (a3o Z aA))=some (a3p O Z aA):=rQ (fun⟨a0,a1,a2⟩ ⟨b0,b1,b2⟩ h1 h2=>by cases h1;cases h2;rfl) (O,Z,aA)
end
@[go_sem] abbrev Y8:Nat×qW:=(30,⟨[.p wO [1],.v],aFl,[],[],none⟩)
def SM:rF Tryz.prog [sJ,EQ,HP] (rG [JL]):=⟨⟨sM,⟨HO,⟨M6,trivial⟩⟩⟩,qK SH rJ,rH⟩
def a3q:r5 Tryz.prog Y8:=by
 refine rR SM Tryz.func30 (c:=_) rfl (N:=19) pU (ts:=[(4,none),(5,none)]) rfl (fun _ _=>rfl) ?_;intro⟨O,Z,aA⟩ hs hrow;dsimp only[a3n,a3o,a3p,rI,qR,qZ,r8,rL,Nat.reduceAdd] at hs hrow|-;obtain⟨rfl,hz⟩:=hs;obtain⟨z0,e⟩:=aVt.1 hz
 try rw[rY e]
 clear hz;unfold DO at e;refine q9 SM ?_;refine q9 SM ?_ (hp:=by first|rfl|trivial)
 obtain⟨hg1,e⟩:=qG e;refine q9 SM ?_ (hp:=by exact⟨pT,hg1⟩)
 refine q9 SM ?_;refine qP ?_;cases e;exact pF [(0,0),(1,1)]
def JS (O:pE):(Int×Int)→Option ((Int×Int)⊕Int):=fun(Z,aA)=>if ((decide (aA<(O.length:Int)))&&(decide (Z<(1099511627776:Int))))=true then if 0≤aA∧aA<(O.length:Int) then if qD (Z+((qQ .str O aA).length:Int)) then if qD (aA+(1:Int)) then some (.inl ((Z+((qQ .str O aA).length:Int)),(aA+(1:Int)))) else none else none else none else some (.inr Z)
def JT (O:(List r6)):(Int×Int)→Option ((Int×Int)⊕Int):=fun(Z,aA)=>if ((decide (aA<(O.length:Int)))&&(decide (Z<(1099511627776:Int))))=true then if 0≤aA∧aA<(O.length:Int) then if qD (Z+(((qQ (.pair .str (.pair .str .unit)) O aA).1).length:Int)) then if 0≤aA∧aA<(O.length:Int) then if qD ((Z+(((qQ (.pair .str (.pair .str .unit)) O aA).1).length:Int))+(((qQ (.pair .str (.pair .str .unit)) O aA).2.1).length:Int)) then if qD (aA+(1:Int)) then some (.inl (((Z+(((qQ (.pair .str (.pair .str .unit)) O aA).1).length:Int))+(((qQ (.pair .str (.pair .str .unit)) O aA).2.1).length:Int)),(aA+(1:Int)))) else none else none else none else none else none else some (.inr Z)
def zR (O:pE) (Z:(List r6)):Option Int:=if qD ((O.length:Int)+(Z.length:Int)) then sQ (rO (JS O) (((O.length:Int)+(Z.length:Int)),(0:Int))) fun aA=>sQ (rO (JT Z) (aA,(0:Int))) fun aB=>some (aB) else none
section
variable (O:pE) (Z:(List r6))
abbrev a3r:List qC:=[(.val (.list .str) O,none),(.val (.list (.pair .str (.pair .str .unit))) Z,none)]
abbrev a3s:List qB:=[]
@[go_sem] def a3t:qI:=⟨[((zR O Z)).isSome=true],[(.val (.int .i64) (val (zR O Z)),none)],[]⟩
def aFm:List qC→List qB→Option qI:=rM (V:=(pE×(List r6))) (fun x=>a3r x.1 x.2) (fun x=>a3s) fun x=>a3t x.1 x.2
@[go_sem] def aTB:aFm (no_index (a3r O Z)) (no_index a3s)=some (a3t O Z):=rQ (fun⟨a0,a1⟩ ⟨b0,b1⟩ h1 h2=>by cases h1;cases h2;rfl) (O,Z)
end
@[go_sem] abbrev a3u:Nat×qW:=(34,⟨[.v,.v],aFm,[],[],none⟩)
def DP:rF Tryz.prog [sJ,vU,xJ,CU] (rG []):=⟨⟨sM,⟨w7,⟨y6,⟨ER,trivial⟩⟩⟩⟩,rJ,rH⟩
def aFn:r5 Tryz.prog a3u:=by
 refine rR DP Tryz.func34 (c:=_) rfl (N:=56) pU (ts:=[(4,none)]) rfl (fun _ _=>rfl) ?_;intro⟨O,Z⟩ hs hrow;dsimp only[a3r,a3s,a3t,rI,qR,qZ,r8,rL,Nat.reduceAdd] at hs hrow|-;have hz:=hs;obtain⟨z0,e⟩:=aVt.1 hz
 try rw[rY e]
 clear hz hs;unfold zR at e;refine q9 DP ?_;obtain⟨hg1,e⟩:=qG e;refine q9 DP ?_ (hp:=by exact hg1);refine qO ?_;refine q9 DP ?_;refine rP ?_;obtain⟨aA,hy1,e⟩:=qM e;refine tV 0 (fun s=>s=(fun x=>⟨[(1,(.val (.list (.pair .str (.pair .str .unit))) Z,none)),(5,(.val (.int .i64) x,none))],[],0,56,0⟩) aA) ?_ ?_
 .refine tP hy1 (fun x=>⟨[(0,(.val (.list .str) O,none)),(1,(.val (.list (.pair .str (.pair .str .unit))) Z,none)),(5,(.val (.int .i64) x.1,none)),(6,(.val (.int .i64) x.2,none))],[],0,56,0⟩) ⟨[0,1,5,6],[]⟩ pV ?_;intro x1 w1 n1 d f;obtain⟨aB,aC⟩:=x1;unfold JS at d;dsimp only at d|-;refine qO ?_;refine q9 DP ?_ (hp:=by exact⟨id,sB⟩);refine qS d (fun d hc1=> ?_) (fun d hc1=> ?_)
  .refine r7 (qJ (qO (rP ?_)));obtain⟨hg2,d⟩:=qG d;obtain⟨hg3,d⟩:=qG d;refine rC DP ?_ (hp:=by exact⟨hg2,hg3⟩);refine rU (qJ ?_);obtain⟨hg4,d⟩:=qG d;refine rC DP ?_ (hp:=by exact hg4);cases d;exact sU ⟨⟨[0,1,5,6],[]⟩,_,by rfl,f⟩
  .refine tK (tJ (tN ?_));cases d;cases f;exact tM ⟨⟨[1,5],[]⟩,by rfl⟩
 .rintro _ rfl;dsimp only at e|-;refine tU (qJ (qO ?_));refine q9 DP ?_;refine rP ?_;obtain⟨aD,hy1,e⟩:=qM e;refine tV 2 (fun s=>s=(fun x=>⟨[(5,(.val (.int .i64) x,none))],[],0,56,0⟩) aD) ?_ ?_
  .refine tP hy1 (fun x=>⟨[(1,(.val (.list (.pair .str (.pair .str .unit))) Z,none)),(5,(.val (.int .i64) x.1,none)),(7,(.val (.int .i64) x.2,none))],[],0,56,0⟩) ⟨[1,5,7],[]⟩ pV ?_;intro x1 w1 n1 d f;obtain⟨aE,aF⟩:=x1;unfold JT at d;dsimp only at d|-;refine qO ?_;refine q9 DP ?_ (hp:=by exact⟨id,sB⟩);refine qS d (fun d hc2=> ?_) (fun d hc2=> ?_)
   .refine r7 (qJ (qO (rP ?_)));obtain⟨hg5,d⟩:=qG d;obtain⟨hg6,d⟩:=qG d;obtain⟨hg7,d⟩:=qG d;obtain⟨hg8,d⟩:=qG d;refine BD DP ?_ (hp:=by exact⟨hg5,hg6,hg7,hg8⟩);refine rU (qJ ?_);obtain⟨hg9,d⟩:=qG d;refine rC DP ?_ (hp:=by exact hg9);cases d;exact sU ⟨⟨[1,5,7],[]⟩,_,by rfl,f⟩
   .refine tK (tJ (tN ?_));cases d;cases f;exact tM ⟨⟨[5],[]⟩,by rfl⟩
  .rintro _ rfl;dsimp only at e|-;refine tU (qJ ?_);refine q9 DP ?_;refine qP ?_;cases e;exact pF []
attribute [irreducible] a3e a3f aFf JQ DO zR
end
noncomputable section
def aFo (O:pD):Unit:=()
section
variable (O:pD)
abbrev a3v:List qC:=[(.val .str O,none)]
abbrev a3w:List qB:=[]
@[go_sem] def a3x:qI:=⟨[],[(.val .clo (some (78,[(0,0)])),none)],[.cells .str O []]⟩
def aFp:List qC→List qB→Option qI:=rM (V:=pD) (a3v) (fun x=>a3w) fun x=>a3x x
@[go_sem] def aTC:aFp (no_index (a3v O)) (no_index a3w)=some (a3x O):=rQ (fun a0 b0 h1 h2=>by cases h1;cases h2;rfl) O
end
@[go_sem] abbrev aFq:Nat×qW:=(50,⟨[.v],aFp,[],[],none⟩)
def a3y:rF Tryz.prog [sJ] (rG []):=⟨⟨sM,trivial⟩,rJ,rH⟩
def aOQ:r5 Tryz.prog aFq:=by
 refine rR a3y Tryz.func50 (c:=_) rfl (N:=4) pU (ts:=[(2,none)]) rfl (fun _ _=>rfl) ?_;intro O hs hrow;dsimp only[a3v,a3w,a3x,rI,qR,qZ,r8,rL,Nat.reduceAdd] at hs hrow|-;obtain⟨z0,e⟩: ∃z,(aFo O)=z:=⟨_,rfl⟩
 try rw[e]
 unfold aFo at e;refine q9 a3y ?_;refine q9 a3y ?_;refine qP ?_;cases e;exact pF [(0,0)]
def zS (O:(List sH)) (Z:Int) (aA:Int) (aB:sD) (aC:(pM×Unit)) (aD:Int) (aE:pK):Option (Int×Int):=if (decide (aA=(0:Int)))=true then if 0≤(0:Int)∧(0:Int)<(O.length:Int) then some (((qQ sW O (0:Int)).2.2.1,aD)) else none else some ((Z,aA))
section
variable (O:Int) (Z:(List sH)) (aA:Int) (aB:Int) (aC:sD) (aD:(pM×Unit)) (aE:Nat) (aF:Nat) (aG:pK)
abbrev a3z:List qC:=[(.val .ref (some (0,0)),none),(.val (.int .i64) O,none)]
abbrev a3A:List qB:=[.cells sX (Z,(aA,(aB,(aC,((some 3),aD))))) [(6,1),(8,2)],.grow 53 7 aE,.grow 3 1 aF,.map .str .bool aG]
@[go_sem] def a3B:qI:=⟨[aE=(aC.2.2.2.1.length),aF=(aD.1.length),((zS Z aA aB aC aD O aG)).isSome=true],[],[.cells sX (Z,((val (zS Z aA aB aC aD O aG)).1,((val (zS Z aA aB aC aD O aG)).2,((aC.1,(aC.2.1,(aC.2.2.1,(aC.2.2.2.1,())))),((some 3),(aD.1,())))))) [(6,1),(8,2)],.grow 53 7 (aC.2.2.2.1.length),.grow 3 1 (aD.1.length),.map .str .bool aG]⟩
def aFr:List qC→List qB→Option qI:=rM (V:=(Int×(List sH)×Int×Int×sD×(pM×Unit)×Nat×Nat×pK)) (fun x=>a3z x.1) (fun x=>a3A x.2.1 x.2.2.1 x.2.2.2.1 x.2.2.2.2.1 x.2.2.2.2.2.1 x.2.2.2.2.2.2.1 x.2.2.2.2.2.2.2.1 x.2.2.2.2.2.2.2.2) fun x=>a3B x.1 x.2.1 x.2.2.1 x.2.2.2.1 x.2.2.2.2.1 x.2.2.2.2.2.1 x.2.2.2.2.2.2.1 x.2.2.2.2.2.2.2.1 x.2.2.2.2.2.2.2.2
@[go_sem] def aTD:aFr (no_index (a3z O)) (no_index (a3A Z aA aB aC aD aE aF aG))=some (a3B O Z aA aB aC aD aE aF aG):=rQ (fun⟨a0,a1,a2,a3,a4,a5,a6,a7,a8⟩ ⟨b0,b1,b2,b3,b4,b5,b6,b7,b8⟩ h1 h2=>by cases h1;cases h2;rfl) (O,Z,aA,aB,aC,aD,aE,aF,aG)
end
@[go_sem] abbrev M7:Nat×qW:=(56,⟨[.p sX [6,8],.v],aFr,[(0,7,.m)],[1,2,3],none⟩)
def a3C:rF Tryz.prog [wP,DM,CT,CV,AQ] (rG []):=⟨⟨xE,⟨G7,⟨HN,⟨ES,⟨G3,trivial⟩⟩⟩⟩⟩,rJ,rH⟩
def OU:r5 Tryz.prog M7:=by
 refine rR a3C Tryz.func56 (c:=_) rfl (N:=23) pU (ts:=[]) rfl (fun _ _=>rfl) ?_;intro⟨O,Z,aA,aB,aC,aD,aE,aF,aG⟩ hs hrow;dsimp only[a3z,a3A,a3B,rI,qR,qZ,r8,rL,Nat.reduceAdd] at hs hrow|-;obtain⟨rfl,rfl,hz⟩:=hs;obtain⟨z0,e⟩:=aVt.1 hz
 try rw[rY e]
 clear hz;unfold zS at e;refine q9 a3C ?_;refine qS e (fun e hc1=> ?_) (fun e hc1=> ?_)
 .obtain⟨hg1,e⟩:=qG e;refine rC a3C ?_ (hp:=by exact hg1);cases e;exact pF [(0,0),(1,1),(2,2),(3,3)]
 .refine r7 ?_;cases e;exact pF [(0,0),(1,1),(2,2),(3,3)]
def Y9 (O:pE) (Z:pE):Int→Option (Int⊕(Unit⊕Bool)):=fun aA=>if (decide (aA<(O.length:Int)))=true then if 0≤aA∧aA<(O.length:Int) then if 0≤aA∧aA<(Z.length:Int) then if (!decide ((qQ .str O aA)=(qQ .str Z aA)))=true then some (.inr (.inr (false))) else if qD (aA+(1:Int)) then some (.inl (aA+(1:Int))) else none else none else none else some (.inr (.inl ()))
def x4 (O:pE) (Z:pE):Option Bool:=if (!decide ((O.length:Int)=(Z.length:Int)))=true then some (false) else tY (rO (Y9 O Z) (0:Int)) fun _=>some (true)
section
variable (O:pE) (Z:pE)
abbrev a3D:List qC:=[(.val (.list .str) O,none),(.val (.list .str) Z,none)]
abbrev a3E:List qB:=[]
@[go_sem] def a3F:qI:=⟨[((x4 O Z)).isSome=true],[(.val .bool (val (x4 O Z)),none)],[]⟩
def aFs:List qC→List qB→Option qI:=rM (V:=(pE×pE)) (fun x=>a3D x.1 x.2) (fun x=>a3E) fun x=>a3F x.1 x.2
@[go_sem] def aTE:aFs (no_index (a3D O Z)) (no_index a3E)=some (a3F O Z):=rQ (fun⟨a0,a1⟩ ⟨b0,b1⟩ h1 h2=>by cases h1;cases h2;rfl) (O,Z)
end
@[go_sem] abbrev a3G:Nat×qW:=(59,⟨[.v,.v],aFs,[],[],none⟩)
def GA:rF Tryz.prog [sJ,vU] (rG []):=⟨⟨sM,⟨w7,trivial⟩⟩,rJ,rH⟩
def aFt:r5 Tryz.prog a3G:=by
 refine rR GA Tryz.func59 (c:=_) rfl (N:=26) pU (ts:=[(4,none)]) rfl (fun _ _=>rfl) ?_;intro⟨O,Z⟩ hs hrow;dsimp only[a3D,a3E,a3F,rI,qR,qZ,r8,rL,Nat.reduceAdd] at hs hrow|-;have hz:=hs;obtain⟨z0,e⟩:=aVt.1 hz
 try rw[rY e]
 clear hz hs;unfold x4 at e;refine q9 GA ?_;refine qO ?_;refine q9 GA ?_;refine qS e (fun e hc1=> ?_) (fun e hc1=> ?_)
 .refine q9 GA ?_;refine qP (rD ?_);cases e;exact pF []
 .refine r7 (qJ (qO ?_));refine q9 GA ?_;refine rP ?_;obtain⟨y1,hy1,e⟩:=uV e;refine tV 0 (fun s=> ∃v,y1= .inl v∧s=(fun _=>⟨[],[],0,26,0⟩) v) ?_ ?_
  .refine tP hy1 (fun x=>⟨[(0,(.val (.list .str) O,none)),(1,(.val (.list .str) Z,none)),(5,(.val (.int .i64) x,none))],[],0,26,0⟩) ⟨[0,1,5],[]⟩ pV ?_;intro aA w1 n1 f g;unfold Y9 at f;dsimp only at f|-;refine qO ?_;refine q9 GA ?_;refine qS f (fun f hc2=> ?_) (fun f hc2=> ?_)
   .refine r7 (qJ (qO (rP ?_)));obtain⟨hg1,f⟩:=qG f;obtain⟨hg2,f⟩:=qG f;refine vY GA ?_ (hp:=by exact⟨hg1,hg2⟩);refine qS f (fun f hc3=> ?_) (fun f hc3=> ?_)
    .refine q9 GA ?_;refine qP (rT (rD (uX (uZ (rT (rD ?_))))));cases f;cases g;dsimp only at e;cases e;exact pF []
    .refine r7 (rU (qJ ?_));obtain⟨hg3,f⟩:=qG f;refine rC GA ?_ (hp:=by exact hg3);cases f;exact sU ⟨⟨[0,1,5],[]⟩,_,by rfl,g⟩
   .refine tK (tJ (tN ?_));cases f;cases g;exact tM ⟨⟨[],[]⟩,_,rfl,by rfl⟩
  .rintro _ ⟨v,rfl,rfl⟩;dsimp only at e|-;refine tU (qJ ?_);refine q9 GA ?_;refine qP ?_;cases e;exact pF []
def YA (O:(List r6)) (Z:(List r6)):Int→Option (Int⊕(Unit⊕Bool)):=fun aA=>if (decide (aA<(O.length:Int)))=true then if 0≤aA∧aA<(O.length:Int) then if 0≤aA∧aA<(Z.length:Int) then if (!((decide ((qQ (.pair .str (.pair .str .unit)) O aA).1=(qQ (.pair .str (.pair .str .unit)) Z aA).1))&&(decide ((qQ (.pair .str (.pair .str .unit)) O aA).2.1=(qQ (.pair .str (.pair .str .unit)) Z aA).2.1))))=true then some (.inr (.inr (false))) else if qD (aA+(1:Int)) then some (.inl (aA+(1:Int))) else none else none else none else some (.inr (.inl ()))
def zJ (O:(List r6)) (Z:(List r6)):Option Bool:=if (!decide ((O.length:Int)=(Z.length:Int)))=true then some (false) else tY (rO (YA O Z) (0:Int)) fun _=>some (true)
section
variable (O:(List r6)) (Z:(List r6))
abbrev a3H:List qC:=[(.val (.list (.pair .str (.pair .str .unit))) O,none),(.val (.list (.pair .str (.pair .str .unit))) Z,none)]
abbrev a3I:List qB:=[]
@[go_sem] def a3J:qI:=⟨[((zJ O Z)).isSome=true],[(.val .bool (val (zJ O Z)),none)],[]⟩
def aFu:List qC→List qB→Option qI:=rM (V:=((List r6)×(List r6))) (fun x=>a3H x.1 x.2) (fun x=>a3I) fun x=>a3J x.1 x.2
@[go_sem] def aTF:aFu (no_index (a3H O Z)) (no_index a3I)=some (a3J O Z):=rQ (fun⟨a0,a1⟩ ⟨b0,b1⟩ h1 h2=>by cases h1;cases h2;rfl) (O,Z)
end
@[go_sem] abbrev a3K:Nat×qW:=(60,⟨[.v,.v],aFu,[],[],none⟩)
def GB:rF Tryz.prog [xJ,CU] (rG []):=⟨⟨y6,⟨ER,trivial⟩⟩,rJ,rH⟩
def aFv:r5 Tryz.prog a3K:=by
 refine rR GB Tryz.func60 (c:=_) rfl (N:=26) pU (ts:=[(4,none)]) rfl (fun _ _=>rfl) ?_;intro⟨O,Z⟩ hs hrow;dsimp only[a3H,a3I,a3J,rI,qR,qZ,r8,rL,Nat.reduceAdd] at hs hrow|-;have hz:=hs;obtain⟨z0,e⟩:=aVt.1 hz
 try rw[rY e]
 clear hz hs;unfold zJ at e;refine q9 GB ?_;refine qO ?_;refine q9 GB ?_;refine qS e (fun e hc1=> ?_) (fun e hc1=> ?_)
 .refine q9 GB ?_;refine qP (rD ?_);cases e;exact pF []
 .refine r7 (qJ (qO ?_));refine q9 GB ?_;refine rP ?_;obtain⟨y1,hy1,e⟩:=uV e;refine tV 0 (fun s=> ∃v,y1= .inl v∧s=(fun _=>⟨[],[],0,26,0⟩) v) ?_ ?_
  .refine tP hy1 (fun x=>⟨[(0,(.val (.list (.pair .str (.pair .str .unit))) O,none)),(1,(.val (.list (.pair .str (.pair .str .unit))) Z,none)),(5,(.val (.int .i64) x,none))],[],0,26,0⟩) ⟨[0,1,5],[]⟩ pV ?_;intro aA w1 n1 f g;unfold YA at f;dsimp only at f|-;refine qO ?_;refine q9 GB ?_;refine qS f (fun f hc2=> ?_) (fun f hc2=> ?_)
   .refine r7 (qJ (qO (rP ?_)));obtain⟨hg1,f⟩:=qG f;obtain⟨hg2,f⟩:=qG f;refine vY GB ?_ (hp:=by exact⟨hg1,hg2⟩);refine qS f (fun f hc3=> ?_) (fun f hc3=> ?_)
    .refine q9 GB ?_;refine qP (rT (rD (uX (uZ (rT (rD ?_))))));cases f;cases g;dsimp only at e;cases e;exact pF []
    .refine r7 (rU (qJ ?_));obtain⟨hg3,f⟩:=qG f;refine rC GB ?_ (hp:=by exact hg3);cases f;exact sU ⟨⟨[0,1,5],[]⟩,_,by rfl,g⟩
   .refine tK (tJ (tN ?_));cases f;cases g;exact tM ⟨⟨[],[]⟩,_,rfl,by rfl⟩
  .rintro _ ⟨v,rfl,rfl⟩;dsimp only at e|-;refine tU (qJ ?_);refine q9 GB ?_;refine qP ?_;cases e;exact pF []
def OV (O:s0) (Z:s0):Option Unit:=if ((((((decide (O.1=Z.1))&&(decide (O.2.1=Z.2.1)))&&(decide (O.2.2.1=Z.2.2.1)))&&(decide (O.2.2.2.2.2.1=Z.2.2.2.2.2.1)))==true)=true→((x4 O.2.2.2.1 Z.2.2.2.1)).isSome=true) then if (((((((decide (O.1=Z.1))&&(decide (O.2.1=Z.2.1)))&&(decide (O.2.2.1=Z.2.2.1)))&&(decide (O.2.2.2.2.2.1=Z.2.2.2.2.2.1)))&&(val (x4 O.2.2.2.1 Z.2.2.2.1)))==true)=true→((x4 O.2.2.2.2.1 Z.2.2.2.2.1)).isSome=true) then if ((((((((decide (O.1=Z.1))&&(decide (O.2.1=Z.2.1)))&&(decide (O.2.2.1=Z.2.2.1)))&&(decide (O.2.2.2.2.2.1=Z.2.2.2.2.2.1)))&&(val (x4 O.2.2.2.1 Z.2.2.2.1)))&&(val (x4 O.2.2.2.2.1 Z.2.2.2.2.1)))==true)=true→((zJ O.2.2.2.2.2.2.1 Z.2.2.2.2.2.2.1)).isSome=true) then some (()) else none else none else none
section
variable (O:s0) (Z:s0)
abbrev a3L:List qC:=[(.val s7 O,none),(.val s7 Z,none)]
abbrev a3M:List qB:=[]
@[go_sem] def a3N:qI:=⟨[((OV O Z)).isSome=true],[(.val .bool (((((((decide (O.1=Z.1))&&(decide (O.2.1=Z.2.1)))&&(decide (O.2.2.1=Z.2.2.1)))&&(decide (O.2.2.2.2.2.1=Z.2.2.2.2.2.1)))&&(val (x4 O.2.2.2.1 Z.2.2.2.1)))&&(val (x4 O.2.2.2.2.1 Z.2.2.2.2.1)))&&(val (zJ O.2.2.2.2.2.2.1 Z.2.2.2.2.2.2.1))),none)],[]⟩
def aFw:List qC→List qB→Option qI:=rM (V:=(s0×s0)) (fun x=>a3L x.1 x.2) (fun x=>a3M) fun x=>a3N x.1 x.2
@[go_sem] def aTG:aFw (no_index (a3L O Z)) (no_index a3M)=some (a3N O Z):=rQ (fun⟨a0,a1⟩ ⟨b0,b1⟩ h1 h2=>by cases h1;cases h2;rfl) (O,Z)
end
@[go_sem] abbrev aFx:Nat×qW:=(61,⟨[.v,.v],aFw,[],[],none⟩)
def a3O:rF Tryz.prog [wP,sJ,vU,xJ,xI] (rG [a3G,a3K]):=⟨⟨xE,⟨sM,⟨w7,⟨y6,⟨y5,trivial⟩⟩⟩⟩⟩,qK aFt (qK aFv rJ),rH⟩
def aOR:r5 Tryz.prog aFx:=by
 refine rR a3O Tryz.func61 (c:=_) rfl (N:=52) pU (ts:=[(4,none)]) rfl (fun _ _=>rfl) ?_;intro⟨O,Z⟩ hs hrow;dsimp only[a3L,a3M,a3N,rI,qR,qZ,r8,rL,Nat.reduceAdd] at hs hrow|-;have hz:=hs;obtain⟨z0,e⟩:=aVt.1 hz
 try rw[rY e]
 clear hz hs;unfold OV at e;refine q9 a3O ?_;obtain⟨hg1,e⟩:=qG e;obtain⟨hg2,e⟩:=qG e;obtain⟨hg3,e⟩:=qG e;refine q9 a3O ?_ (hp:=by exact⟨id,id,id,id,sB,id,id,id,id,sB,id,id,id,id,sB,id,id,id,id,hg1,sB,id,id,id,id,hg2,sB,id,id,id,id,hg3,sB⟩);refine qP ?_;cases e;exact pF []
def SN (O:pD):Nat→Option (Nat⊕(Unit⊕Bool)):=fun Z=>if (decide (Z<O.length))=true then if (decide (Z<O.length))=true then if (((((decide ((xY O Z)<(97:Int)))||(decide ((122:Int)<(xY O Z))))&&((decide ((xY O Z)<(65:Int)))||(decide ((90:Int)<(xY O Z)))))&&((decide ((xY O Z)<(48:Int)))||(decide ((57:Int)<(xY O Z)))))&&(!decide ((xY O Z)=(45:Int))))=true then some (.inr (.inr (false))) else some (.inl (B7 O Z)) else none else some (.inr (.inl ()))
def EU (O:pD):Option Bool:=tY (rO (SN O) 0) fun _=>some (((decide ((1:Int)≤(O.length:Int)))&&(decide ((O.length:Int)≤(40:Int)))))
section
variable (O:pD)
abbrev a3P:List qC:=[(.val .str O,none)]
abbrev a3Q:List qB:=[]
@[go_sem] def a3R:qI:=⟨[((EU O)).isSome=true],[(.val .bool (val (EU O)),none)],[]⟩
def aFy:List qC→List qB→Option qI:=rM (V:=pD) (a3P) (fun x=>a3Q) fun x=>a3R x
@[go_sem] def aTH:aFy (no_index (a3P O)) (no_index a3Q)=some (a3R O):=rQ (fun a0 b0 h1 h2=>by cases h1;cases h2;rfl) O
end
@[go_sem] abbrev YB:Nat×qW:=(63,⟨[.v],aFy,[],[],none⟩)
def JU:rF Tryz.prog [sJ] (rG []):=⟨⟨sM,trivial⟩,rJ,rH⟩
def a3S:r5 Tryz.prog YB:=by
 refine rR JU Tryz.func63 (c:=_) rfl (N:=44) pU (ts:=[(2,none)]) rfl (fun _ _=>rfl) ?_;intro O hs hrow;dsimp only[a3P,a3Q,a3R,rI,qR,qZ,r8,rL,Nat.reduceAdd] at hs hrow|-;have hz:=hs;obtain⟨z0,e⟩:=aVt.1 hz
 try rw[rY e]
 clear hz hs;unfold EU at e;refine q9 JU ?_;refine qO ?_;refine q9 JU ?_;refine rP ?_;obtain⟨y1,hy1,e⟩:=uV e;refine tV 0 (fun s=> ∃v,y1= .inl v∧s=(fun _=>⟨[(0,(.val .str O,none))],[],0,44,0⟩) v) ?_ ?_
 .refine tP hy1 (fun x=>⟨[(0,(.val .str O,none)),(6,(.val .ref (some (0,0)),none))],[(0,.iter O x)],1,44,0⟩) ⟨[0,6],[(0,64)]⟩ pV ?_;intro Z w1 n1 f g;unfold SN at f;dsimp only at f|-;refine q9 JU ?_;refine qO ?_;refine qS f (fun f hc1=> ?_) (fun f hc1=> ?_)
  .refine r7 (qJ (rP ?_));obtain⟨hg1,f⟩:=qG f;refine q9 JU ?_ (hp:=by exact hg1);refine q9 JU ?_ (hp:=by exact⟨id,sP,id,id,id,id,fun hG d=>G1 hG d,sB,id,id,id,id,fun hG d=>G1 hG d,sB,id,sB⟩);refine qS f (fun f hc2=> ?_) (fun f hc2=> ?_)
   .refine q9 JU ?_;refine qP (rT (uX (uZ (rT (rD ?_)))));cases f;cases g;dsimp only at e;cases e;exact pF []
   .refine r7 (rU ?_);cases f;exact sU ⟨⟨[0,6],[(0,0)]⟩,_,by rfl,g⟩
  .refine tK (tJ (tN ?_));cases f;cases g;exact tM ⟨⟨[0],[]⟩,_,rfl,by rfl⟩
 .rintro _ ⟨v,rfl,rfl⟩;dsimp only at e|-;refine tU (qJ ?_);refine q9 JU ?_ (hp:=by exact⟨id,id,sB⟩);refine qP ?_;cases e;exact pF []
attribute [irreducible] zS x4 zJ OV EU
end
noncomputable section
def xT (O:(List sH)) (Z:Int) (aA:Int) (aB:sD) (aC:(pM×Unit)) (aD:Bool) (aE:Bool) (aF:Bool) (aG:pK):Option (Int×Int):=if aD=true then (zS O Z aA aB aC (3:Int) aG).bind fun aH=>some ((aH.1,aH.2)) else if aE=true then (zS O Z aA aB aC (9:Int) aG).bind fun aI=>some ((aI.1,aI.2)) else if aF=true then (zS O Z aA aB aC (6:Int) aG).bind fun aJ=>some ((aJ.1,aJ.2)) else some ((Z,aA))
section
variable (O:Bool) (Z:Bool) (aA:Bool) (aB:(List sH)) (aC:Int) (aD:Int) (aE:sD) (aF:(pM×Unit)) (aG:Nat) (aH:Nat) (aI:pK)
abbrev a3T:List qC:=[(.val .ref (some (0,0)),none),(.val .bool O,none),(.val .bool Z,none),(.val .bool aA,none)]
abbrev a3U:List qB:=[.cells sX (aB,(aC,(aD,(aE,((some 3),aF))))) [(6,1),(8,2)],.grow 53 7 aG,.grow 3 1 aH,.map .str .bool aI]
@[go_sem] def a3V:qI:=⟨[aG=(aE.2.2.2.1.length),aH=(aF.1.length),((xT aB aC aD aE aF O Z aA aI)).isSome=true],[],[.cells sX (aB,((val (xT aB aC aD aE aF O Z aA aI)).1,((val (xT aB aC aD aE aF O Z aA aI)).2,((aE.1,(aE.2.1,(aE.2.2.1,(aE.2.2.2.1,())))),((some 3),(aF.1,())))))) [(6,1),(8,2)],.grow 53 7 (aE.2.2.2.1.length),.grow 3 1 (aF.1.length),.map .str .bool aI]⟩
def aFz:List qC→List qB→Option qI:=rM (V:=(Bool×Bool×Bool×(List sH)×Int×Int×sD×(pM×Unit)×Nat×Nat×pK)) (fun x=>a3T x.1 x.2.1 x.2.2.1) (fun x=>a3U x.2.2.2.1 x.2.2.2.2.1 x.2.2.2.2.2.1 x.2.2.2.2.2.2.1 x.2.2.2.2.2.2.2.1 x.2.2.2.2.2.2.2.2.1 x.2.2.2.2.2.2.2.2.2.1 x.2.2.2.2.2.2.2.2.2.2) fun x=>a3V x.1 x.2.1 x.2.2.1 x.2.2.2.1 x.2.2.2.2.1 x.2.2.2.2.2.1 x.2.2.2.2.2.2.1 x.2.2.2.2.2.2.2.1 x.2.2.2.2.2.2.2.2.1 x.2.2.2.2.2.2.2.2.2.1 x.2.2.2.2.2.2.2.2.2.2
@[go_sem] def aTI:aFz (no_index (a3T O Z aA)) (no_index (a3U aB aC aD aE aF aG aH aI))=some (a3V O Z aA aB aC aD aE aF aG aH aI):=rQ (fun⟨a0,a1,a2,a3,a4,a5,a6,a7,a8,a9,a10⟩ ⟨b0,b1,b2,b3,b4,b5,b6,b7,b8,b9,b10⟩ h1 h2=>by cases h1;cases h2;rfl) (O,Z,aA,aB,aC,aD,aE,aF,aG,aH,aI)
end
@[go_sem] abbrev EV:Nat×qW:=(81,⟨[.p sX [6,8],.v,.v,.v],aFz,[(0,7,.m)],[1,2,3],none⟩)
def M8:rF Tryz.prog [] (rG [M7]):=⟨trivial,qK OU rJ,rH⟩
def GC:r5 Tryz.prog EV:=by
 refine rR M8 Tryz.func81 (c:=_) rfl (N:=20) pU (ts:=[]) rfl (fun _ _=>rfl) ?_;intro⟨O,Z,aA,aB,aC,aD,aE,aF,aG,aH,aI⟩ hs hrow;dsimp only[a3T,a3U,a3V,rI,qR,qZ,r8,rL,Nat.reduceAdd] at hs hrow|-;obtain⟨rfl,rfl,hz⟩:=hs;obtain⟨z0,e⟩:=aVt.1 hz
 try rw[rY e]
 clear hz;unfold xT at e;refine rP ?_;refine q9 M8 ?_;refine qS e (fun e hc1=> ?_) (fun e hc1=> ?_)
 .obtain⟨aJ,hv1,hw1,e⟩:=qV e
  try simp only[go_sem] at hw1
  refine rC M8 ?_ (hp:=by exact⟨pT,pT,pT,pT,pT,(qU hv1)⟩) (h:=by simp only[go_sem,hw1];rfl)
  refine rU ?_;cases e;exact pF [(0,0),(1,1),(2,2),(3,3)]
 .refine q9 M8 ?_;refine qS e (fun e hc2=> ?_) (fun e hc2=> ?_)
  .obtain⟨aK,hv2,hw2,e⟩:=qV e
   try simp only[go_sem] at hw2
   refine rC M8 ?_ (hp:=by exact⟨pT,pT,pT,pT,pT,(qU hv2)⟩) (h:=by simp only[go_sem,hw2];rfl)
   refine rU ?_;cases e;exact pF [(0,0),(1,1),(2,2),(3,3)]
  .refine q9 M8 ?_;refine qS e (fun e hc3=> ?_) (fun e hc3=> ?_)
   .obtain⟨aL,hv3,hw3,e⟩:=qV e
    try simp only[go_sem] at hw3
    refine rC M8 ?_ (hp:=by exact⟨pT,pT,pT,pT,pT,(qU hv3)⟩) (h:=by simp only[go_sem,hw3];rfl)
    refine rU ?_;cases e;exact pF [(0,0),(1,1),(2,2),(3,3)]
   .refine r7 (rU ?_);cases e;exact pF [(0,0),(1,1),(2,2),(3,3)]
def y7 (O:(List sH)) (Z:Int) (aA:Int) (aB:sD) (aC:(pM×Unit)) (aD:pK):Option (List sH):=if 0≤(0:Int)∧(0:Int)<(O.length:Int) then if 0≤(0:Int)∧(0:Int)<(O.length:Int) then if qD ((qQ sW O (0:Int)).2.2.1+(((qQ sW O (0:Int)).2.1).length:Int)) then if ((decide (aA=(0:Int)))&&(decide ((1:Int)<(O.length:Int))))=true then if 0≤(1:Int)∧(1:Int)≤(O.length:Int)∧(O.length:Int)≤(O.length:Int) then some ((sO O (1:Int) (O.length:Int))) else none else some (O) else none else none else none
section
variable (O:(List sH)) (Z:Int) (aA:Int) (aB:sD) (aC:(pM×Unit)) (aD:Nat) (aE:Nat) (aF:pK)
abbrev a3W:List qC:=[(.val .ref (some (0,0)),none)]
abbrev a3X:List qB:=[.cells sX (O,(Z,(aA,(aB,((some 3),aC))))) [(6,1),(8,2)],.grow 53 7 aD,.grow 3 1 aE,.map .str .bool aF]
@[go_sem] def a3Y:qI:=⟨[aD=(aB.2.2.2.1.length),aE=(aC.1.length),((y7 O Z aA aB aC aF)).isSome=true],[(.val (.int .i64) ((qQ sW O (0:Int)).2.2.1+(((qQ sW O (0:Int)).2.1).length:Int)),none)],[.cells sX ((val (y7 O Z aA aB aC aF)),(Z,(aA,((aB.1,(aB.2.1,(aB.2.2.1,(aB.2.2.2.1,())))),((some 3),(aC.1,())))))) [(6,1),(8,2)],.grow 53 7 (aB.2.2.2.1.length),.grow 3 1 (aC.1.length),.map .str .bool aF]⟩
def aFA:List qC→List qB→Option qI:=rM (V:=((List sH)×Int×Int×sD×(pM×Unit)×Nat×Nat×pK)) (fun x=>a3W) (fun x=>a3X x.1 x.2.1 x.2.2.1 x.2.2.2.1 x.2.2.2.2.1 x.2.2.2.2.2.1 x.2.2.2.2.2.2.1 x.2.2.2.2.2.2.2) fun x=>a3Y x.1 x.2.1 x.2.2.1 x.2.2.2.1 x.2.2.2.2.1 x.2.2.2.2.2.1 x.2.2.2.2.2.2.1 x.2.2.2.2.2.2.2
@[go_sem] def aTJ:aFA (no_index a3W) (no_index (a3X O Z aA aB aC aD aE aF))=some (a3Y O Z aA aB aC aD aE aF):=rQ (fun⟨a0,a1,a2,a3,a4,a5,a6,a7⟩ ⟨b0,b1,b2,b3,b4,b5,b6,b7⟩ h1 h2=>by cases h1;cases h2;rfl) (O,Z,aA,aB,aC,aD,aE,aF)
end
@[go_sem] abbrev JV:Nat×qW:=(82,⟨[.p sX [6,8]],aFA,[(0,7,.m)],[1,2,3],none⟩)
def M9:rF Tryz.prog [wP,sJ,DM,CT,CV,AQ] (rG []):=⟨⟨xE,⟨sM,⟨G7,⟨HN,⟨ES,⟨G3,trivial⟩⟩⟩⟩⟩⟩,rJ,rH⟩
def MA:r5 Tryz.prog JV:=by
 refine rR M9 Tryz.func82 (c:=_) rfl (N:=42) pU (ts:=[(2,none)]) rfl (fun _ _=>rfl) ?_;intro⟨O,Z,aA,aB,aC,aD,aE,aF⟩ hs hrow;dsimp only[a3W,a3X,a3Y,rI,qR,qZ,r8,rL,Nat.reduceAdd] at hs hrow|-;obtain⟨rfl,rfl,hz⟩:=hs;obtain⟨z0,e⟩:=aVt.1 hz
 try rw[rY e]
 clear hz;unfold y7 at e;refine q9 M9 ?_;obtain⟨hg1,e⟩:=qG e;obtain⟨hg2,e⟩:=qG e;obtain⟨hg3,e⟩:=qG e;refine vY M9 ?_ (hp:=by exact⟨hg1,hg2,hg3⟩);refine qO ?_;refine q9 M9 ?_ (hp:=by exact⟨id,id,id,id,id,sB⟩);refine qS e (fun e hc1=> ?_) (fun e hc1=> ?_)
 .obtain⟨hg4,e⟩:=qG e;refine rC M9 ?_ (hp:=by exact hg4);refine qJ ?_;refine q9 M9 ?_;refine qP ?_;cases e;exact pF [(0,0),(1,1),(2,2),(3,3)]
 .refine r7 (qJ ?_);refine q9 M9 ?_;refine qP ?_;cases e;exact pF [(0,0),(1,1),(2,2),(3,3)]
def SO (O:pE) (Z:pD):Int→Option (Int⊕(Unit⊕Int)):=fun aA=>if (decide (aA<(O.length:Int)))=true then if 0≤aA∧aA<(O.length:Int) then if (decide (Z=(qQ .str O aA)))=true then some (.inr (.inr (aA))) else if qD (aA+(1:Int)) then some (.inl (aA+(1:Int))) else none else none else some (.inr (.inl ()))
def BW (O:pE) (Z:pD):Option Int:=tY (rO (SO O Z) (0:Int)) fun _=>some ((-1:Int))
section
variable (O:pE) (Z:pD)
abbrev a3Z:List qC:=[(.val (.list .str) O,none),(.val .str Z,none)]
abbrev a30:List qB:=[]
@[go_sem] def a32:qI:=⟨[((BW O Z)).isSome=true],[(.val (.int .i64) (val (BW O Z)),none)],[]⟩
def aFB:List qC→List qB→Option qI:=rM (V:=(pE×pD)) (fun x=>a3Z x.1 x.2) (fun x=>a30) fun x=>a32 x.1 x.2
@[go_sem] def aTK:aFB (no_index (a3Z O Z)) (no_index a30)=some (a32 O Z):=rQ (fun⟨a0,a1⟩ ⟨b0,b1⟩ h1 h2=>by cases h1;cases h2;rfl) (O,Z)
end
@[go_sem] abbrev YC:Nat×qW:=(92,⟨[.v,.v],aFB,[],[],none⟩)
def HQ:rF Tryz.prog [sJ,vU] (rG []):=⟨⟨sM,⟨w7,trivial⟩⟩,rJ,rH⟩
def a33:r5 Tryz.prog YC:=by
 refine rR HQ Tryz.func92 (c:=_) rfl (N:=19) pU (ts:=[(4,none)]) rfl (fun _ _=>rfl) ?_;intro⟨O,Z⟩ hs hrow;dsimp only[a3Z,a30,a32,rI,qR,qZ,r8,rL,Nat.reduceAdd] at hs hrow|-;have hz:=hs;obtain⟨z0,e⟩:=aVt.1 hz
 try rw[rY e]
 clear hz hs;unfold BW at e;refine q9 HQ ?_;refine qO ?_;refine q9 HQ ?_;refine rP ?_;obtain⟨y1,hy1,e⟩:=uV e;refine tV 0 (fun s=> ∃v,y1= .inl v∧s=(fun _=>⟨[],[],0,19,0⟩) v) ?_ ?_
 .refine tP hy1 (fun x=>⟨[(0,(.val (.list .str) O,none)),(1,(.val .str Z,none)),(7,(.val (.int .i64) (O.length:Int),none)),(8,(.val (.int .i64) x,none))],[],0,19,0⟩) ⟨[0,1,7,8],[]⟩ pV ?_;intro aA w1 n1 f g;unfold SO at f;dsimp only at f|-;refine q9 HQ ?_;refine qO ?_;refine qS f (fun f hc1=> ?_) (fun f hc1=> ?_)
  .refine r7 (qJ (qO (rP ?_)));refine q9 HQ ?_;obtain⟨hg1,f⟩:=qG f;refine q9 HQ ?_ (hp:=by exact hg1);refine qS f (fun f hc2=> ?_) (fun f hc2=> ?_)
   .refine q9 HQ ?_;refine qP (rT (rD (uX (uZ (rT (rD ?_))))));cases f;cases g;dsimp only at e;cases e;exact pF []
   .refine r7 (rU (qJ ?_));obtain⟨hg2,f⟩:=qG f;refine rC HQ ?_ (hp:=by exact hg2);cases f;exact sU ⟨⟨[0,1,7,8],[]⟩,_,by rfl,g⟩
  .refine tK (tJ (tN ?_));cases f;cases g;exact tM ⟨⟨[],[]⟩,_,rfl,by rfl⟩
 .rintro _ ⟨v,rfl,rfl⟩;dsimp only at e|-;refine tU (qJ ?_);refine q9 HQ ?_;refine qP ?_;cases e;exact pF []
def OW (O:pD):Nat→Option (Nat⊕(Unit⊕Bool)):=fun Z=>if (decide (Z<O.length))=true then if (decide (Z<O.length))=true then if (decide (Z<O.length))=true then if ((decide ((97:Int)≤(xY O Z)))&&(decide ((xY O Z)≤(122:Int))))=true then some (.inl (B7 O Z)) else if ((decide ((0:Int)<((Z:Nat):Int)))&&(((((decide ((48:Int)≤(xY O Z)))&&(decide ((xY O Z)≤(57:Int))))||(decide ((xY O Z)=(45:Int))))||(decide ((xY O Z)=(95:Int))))||(decide ((xY O Z)=(46:Int)))))=true then some (.inl (B7 O Z)) else some (.inr (.inr (false))) else none else none else some (.inr (.inl ()))
def CY (O:pD):Option Bool:=tY (rO (OW O) 0) fun _=>some (((decide ((1:Int)≤(O.length:Int)))&&(decide ((O.length:Int)≤(40:Int)))))
section
variable (O:pD)
abbrev a34:List qC:=[(.val .str O,none)]
abbrev a35:List qB:=[]
@[go_sem] def a36:qI:=⟨[((CY O)).isSome=true],[(.val .bool (val (CY O)),none)],[]⟩
def aFC:List qC→List qB→Option qI:=rM (V:=pD) (a34) (fun x=>a35) fun x=>a36 x
@[go_sem] def aTL:aFC (no_index (a34 O)) (no_index a35)=some (a36 O):=rQ (fun a0 b0 h1 h2=>by cases h1;cases h2;rfl) O
end
@[go_sem] abbrev OX:Nat×qW:=(98,⟨[.v],aFC,[],[],none⟩)
def GD:rF Tryz.prog [sJ] (rG []):=⟨⟨sM,trivial⟩,rJ,rH⟩
def SP:r5 Tryz.prog OX:=by
 refine rR GD Tryz.func98 (c:=_) rfl (N:=51) pU (ts:=[(2,none)]) rfl (fun _ _=>rfl) ?_;intro O hs hrow;dsimp only[a34,a35,a36,rI,qR,qZ,r8,rL,Nat.reduceAdd] at hs hrow|-;have hz:=hs;obtain⟨z0,e⟩:=aVt.1 hz
 try rw[rY e]
 clear hz hs;unfold CY at e;refine q9 GD ?_;refine qO ?_;refine q9 GD ?_;refine rP ?_;obtain⟨y1,hy1,e⟩:=uV e;refine tV 0 (fun s=> ∃v,y1= .inl v∧s=(fun _=>⟨[(0,(.val .str O,none))],[],0,51,0⟩) v) ?_ ?_
 .refine tP hy1 (fun x=>⟨[(0,(.val .str O,none)),(7,(.val .ref (some (0,0)),none))],[(0,.iter O x)],1,51,0⟩) ⟨[0,7],[(0,64)]⟩ pV ?_;intro Z w1 n1 f g;unfold OW at f;dsimp only at f|-;refine q9 GD ?_;refine qO ?_;refine qS f (fun f hc1=> ?_) (fun f hc1=> ?_)
  .refine r7 (qJ (rP ?_));obtain⟨hg1,f⟩:=qG f;obtain⟨hg2,f⟩:=qG f;refine q9 GD ?_ (hp:=by exact⟨hg1,hg2⟩);refine q9 GD ?_ (hp:=by exact⟨id,sB⟩);refine rP ?_;refine q9 GD ?_;refine qS f (fun f hc2=> ?_) (fun f hc2=> ?_)
   .refine r7 (rU (rU ?_));cases f;exact sU ⟨⟨[0,7],[(0,0)]⟩,_,by rfl,g⟩
   .refine q9 GD ?_ (hp:=by exact⟨id,id,id,id,fun hG d=>OF hG d,id,id,id,fun hG d=>G1 hG d,id,id,id,fun hG d=>G1 hG d,id,id,id,fun hG d=>G1 hG d,sB⟩);refine qS f (fun f hc3=> ?_) (fun f hc3=> ?_)
    .refine r7 (rU (rU ?_));cases f;exact sU ⟨⟨[0,7],[(0,0)]⟩,_,by rfl,g⟩
    .refine q9 GD ?_;refine qP (rT (rT (uX (uZ (rT (rD ?_))))));cases f;cases g;dsimp only at e;cases e;exact pF []
  .refine tK (tJ (tN ?_));cases f;cases g;exact tM ⟨⟨[0],[]⟩,_,rfl,by rfl⟩
 .rintro _ ⟨v,rfl,rfl⟩;dsimp only at e|-;refine tU (qJ ?_);refine q9 GD ?_ (hp:=by exact⟨id,id,sB⟩);refine qP ?_;cases e;exact pF []
attribute [irreducible] xT y7 BW CY
end
noncomputable section
def SQ (O:pE):Int→Option (Int⊕(Unit⊕Bool)):=fun Z=>if (decide (Z<(O.length:Int)))=true then if 0≤Z∧Z<(O.length:Int) then (CY (qQ .str O Z)).bind fun aA=>if ((((!aA)==false)&&((decide ((0:Int)<Z))==true))=true→qD (Z- (1:Int))) then if ((((!aA)==false)&&((decide ((0:Int)<Z))==true))=true→0≤(Z- (1:Int))∧(Z- (1:Int))<(O.length:Int)) then if ((!aA)||((decide ((0:Int)<Z))&&(!Op.bytesLess (qQ .str O (Z- (1:Int))) (qQ .str O Z))))=true then some (.inr (.inr (false))) else if qD (Z+(1:Int)) then some (.inl (Z+(1:Int))) else none else none else none else none else some (.inr (.inl ()))
def HS (O:pE):Option Bool:=tY (rO (SQ O) (0:Int)) fun _=>some ((decide ((O.length:Int)≤(20:Int))))
section
variable (O:pE)
abbrev a38:List qC:=[(.val (.list .str) O,none)]
abbrev a39:List qB:=[]
@[go_sem] def a4a:qI:=⟨[((HS O)).isSome=true],[(.val .bool (val (HS O)),none)],[]⟩
def aFD:List qC→List qB→Option qI:=rM (V:=pE) (a38) (fun x=>a39) fun x=>a4a x
@[go_sem] def aTM:aFD (no_index (a38 O)) (no_index a39)=some (a4a O):=rQ (fun a0 b0 h1 h2=>by cases h1;cases h2;rfl) O
end
@[go_sem] abbrev aFE:Nat×qW:=(99,⟨[.v],aFD,[],[],none⟩)
def HT:rF Tryz.prog [sJ,vU] (rG [OX]):=⟨⟨sM,⟨w7,trivial⟩⟩,qK SP rJ,rH⟩
def aOS:r5 Tryz.prog aFE:=by
 refine rR HT Tryz.func99 (c:=_) rfl (N:=32) pU (ts:=[(2,none)]) rfl (fun _ _=>rfl) ?_;intro O hs hrow;dsimp only[a38,a39,a4a,rI,qR,qZ,r8,rL,Nat.reduceAdd] at hs hrow|-;have hz:=hs;obtain⟨z0,d⟩:=aVt.1 hz
 try rw[rY d]
 clear hz hs;unfold HS at d;refine q9 HT ?_;refine qO ?_;refine q9 HT ?_;refine rP ?_;obtain⟨y1,hy1,d⟩:=uV d;refine tV 0 (fun s=> ∃v,y1= .inl v∧s=(fun _=>⟨[(0,(.val (.list .str) O,none))],[],0,32,0⟩) v) ?_ ?_
 .refine tP hy1 (fun x=>⟨[(0,(.val (.list .str) O,none)),(5,(.val (.list .str) O,none)),(6,(.val (.int .i64) (O.length:Int),none)),(7,(.val (.int .i64) x,none))],[],0,32,0⟩) ⟨[0,5,6,7],[]⟩ pV ?_;intro Z w1 n1 f g;unfold SQ at f;dsimp only at f|-;refine q9 HT ?_;refine qO ?_;refine qS f (fun f hc1=> ?_) (fun f hc1=> ?_)
  .refine r7 (qJ (qO (rP ?_)));obtain⟨hg1,f⟩:=qG f;refine q9 HT ?_ (hp:=by exact hg1);obtain⟨aA,hv2,hw2,f⟩:=qV f
   try simp only[go_sem] at hw2
   obtain⟨hg3,f⟩:=qG f;obtain⟨hg4,f⟩:=qG f;refine q9 HT ?_ (hp:=by exact⟨qU hv2,id,id,id,hg3,id,id,hg4,id,id,id,id,fun hG e=>OF hG e,sP⟩) (h:=by simp only[go_sem,hw2];rfl);refine qS f (fun f hc2=> ?_) (fun f hc2=> ?_)
   .refine q9 HT ?_;refine qP (rT (rD (uX (uZ (rT (rD ?_))))));cases f;cases g;dsimp only at d;cases d;exact pF []
   .refine r7 (rU (qJ ?_));obtain⟨hg5,f⟩:=qG f;refine rC HT ?_ (hp:=by exact hg5);cases f;exact sU ⟨⟨[0,5,6,7],[]⟩,_,by rfl,g⟩
  .refine tK (tJ (tN ?_));cases f;cases g;exact tM ⟨⟨[0],[]⟩,_,rfl,by rfl⟩
 .rintro _ ⟨v,rfl,rfl⟩;dsimp only at d|-;refine tU (qJ ?_);refine q9 HT ?_;refine qP ?_;cases d;exact pF []
def aFF (O:Int):Unit:=()
section
variable (O:Int)
abbrev a4b:List qC:=[(.val (.int .u8) O,none)]
abbrev a4c:List qB:=[]
@[go_sem] def a4d:qI:=⟨[],[(.val .bool ((decide ((97:Int)≤O))&&(decide (O≤(122:Int)))),none)],[]⟩
def aFG:List qC→List qB→Option qI:=rM (V:=Int) (a4b) (fun x=>a4c) fun x=>a4d x
@[go_sem] def aTN:aFG (no_index (a4b O)) (no_index a4c)=some (a4d O):=rQ (fun a0 b0 h1 h2=>by cases h1;cases h2;rfl) O
end
@[go_sem] abbrev a4e:Nat×qW:=(104,⟨[.v],aFG,[],[],none⟩)
def a4f:rF Tryz.prog [] (rG []):=⟨trivial,rJ,rH⟩
def aFH:r5 Tryz.prog a4e:=by
 refine rR a4f Tryz.func104 (c:=_) rfl (N:=9) pU (ts:=[(2,none)]) rfl (fun _ _=>rfl) ?_;intro O hs hrow;dsimp only[a4b,a4c,a4d,rI,qR,qZ,r8,rL,Nat.reduceAdd] at hs hrow|-;obtain⟨z0,d⟩: ∃z,(aFF O)=z:=⟨_,rfl⟩
 try rw[d]
 unfold aFF at d;refine q9 a4f ?_;refine q9 a4f ?_ (hp:=by exact⟨id,sB⟩);refine qP ?_;cases d;exact pF []
def aFI (O:Int):Unit:=()
section
variable (O:Int)
abbrev a4g:List qC:=[(.val (.int .u8) O,none)]
abbrev a4h:List qB:=[]
@[go_sem] def a4i:qI:=⟨[],[(.val .bool ((decide ((48:Int)≤O))&&(decide (O≤(57:Int)))),none)],[]⟩
def aFJ:List qC→List qB→Option qI:=rM (V:=Int) (a4g) (fun x=>a4h) fun x=>a4i x
@[go_sem] def aTO:aFJ (no_index (a4g O)) (no_index a4h)=some (a4i O):=rQ (fun a0 b0 h1 h2=>by cases h1;cases h2;rfl) O
end
@[go_sem] abbrev a4j:Nat×qW:=(105,⟨[.v],aFJ,[],[],none⟩)
def a4k:rF Tryz.prog [] (rG []):=⟨trivial,rJ,rH⟩
def aFK:r5 Tryz.prog a4j:=by
 refine rR a4k Tryz.func105 (c:=_) rfl (N:=9) pU (ts:=[(2,none)]) rfl (fun _ _=>rfl) ?_;intro O hs hrow;dsimp only[a4g,a4h,a4i,rI,qR,qZ,r8,rL,Nat.reduceAdd] at hs hrow|-;obtain⟨z0,d⟩: ∃z,(aFI O)=z:=⟨_,rfl⟩
 try rw[d]
 unfold aFI at d;refine q9 a4k ?_;refine q9 a4k ?_ (hp:=by exact⟨id,sB⟩);refine qP ?_;cases d;exact pF []
def EW (O:pE) (Z:pD):Option Bool:=(BW O Z).bind fun aA=>some ((decide ((0:Int)≤aA)))
section
variable (O:pE) (Z:pD)
abbrev a4l:List qC:=[(.val (.list .str) O,none),(.val .str Z,none)]
abbrev a4m:List qB:=[]
@[go_sem] def a4n:qI:=⟨[((EW O Z)).isSome=true],[(.val .bool (val (EW O Z)),none)],[]⟩
def aFL:List qC→List qB→Option qI:=rM (V:=(pE×pD)) (fun x=>a4l x.1 x.2) (fun x=>a4m) fun x=>a4n x.1 x.2
@[go_sem] def aTP:aFL (no_index (a4l O Z)) (no_index a4m)=some (a4n O Z):=rQ (fun⟨a0,a1⟩ ⟨b0,b1⟩ h1 h2=>by cases h1;cases h2;rfl) (O,Z)
end
@[go_sem] abbrev YD:Nat×qW:=(112,⟨[.v,.v],aFL,[],[],none⟩)
def a4o:rF Tryz.prog [] (rG [YC]):=⟨trivial,qK a33 rJ,rH⟩
def a4p:r5 Tryz.prog YD:=by
 refine rR a4o Tryz.func112 (c:=_) rfl (N:=9) pU (ts:=[(4,none)]) rfl (fun _ _=>rfl) ?_;intro⟨O,Z⟩ hs hrow;dsimp only[a4l,a4m,a4n,rI,qR,qZ,r8,rL,Nat.reduceAdd] at hs hrow|-;have hz:=hs;obtain⟨z0,d⟩:=aVt.1 hz
 try rw[rY d]
 clear hz hs;unfold EW at d;refine q9 a4o ?_;obtain⟨aA,hv1,hw1,d⟩:=qV d
 try simp only[go_sem] at hw1
 refine q9 a4o ?_ (hp:=by exact(qU hv1)) (h:=by simp only[go_sem,hw1];rfl);refine qP ?_;cases d;exact pF []
def SR (O:pD):Int→Option (Int⊕Int):=fun Z=>if (((decide (Z<(O.length:Int)))==true)=true→0≤Z∧Z<(O.length:Int)) then if ((((decide (Z<(O.length:Int)))&&(decide ((97:Int)≤(sF O Z))))==true)=true→0≤Z∧Z<(O.length:Int)) then if (((decide (Z<(O.length:Int)))&&(decide ((97:Int)≤(sF O Z))))&&(decide ((sF O Z)≤(122:Int))))=true then if qD (Z+(1:Int)) then some (.inl (Z+(1:Int))) else none else some (.inr Z) else none else none
def EX (O:pD):Option (pD×pD):=sQ (rO (SR O) (0:Int)) fun Z=>if 0≤(0:Int)∧(0:Int)≤Z∧Z≤(O.length:Int) then if 0≤Z∧Z≤(O.length:Int)∧(O.length:Int)≤(O.length:Int) then some (((sO O (0:Int) Z),(sO O Z (O.length:Int)))) else none else none
section
variable (O:pD)
abbrev a4q:List qC:=[(.val .str O,none)]
abbrev a4r:List qB:=[]
@[go_sem] def a4s:qI:=⟨[((EX O)).isSome=true],[(.val .str ((val (EX O)).1),none),(.val .str ((val (EX O)).2),none)],[]⟩
def aFM:List qC→List qB→Option qI:=rM (V:=pD) (a4q) (fun x=>a4r) fun x=>a4s x
@[go_sem] def aTQ:aFM (no_index (a4q O)) (no_index a4r)=some (a4s O):=rQ (fun a0 b0 h1 h2=>by cases h1;cases h2;rfl) O
end
@[go_sem] abbrev a4t:Nat×qW:=(125,⟨[.v],aFM,[],[],none⟩)
def OY:rF Tryz.prog [sJ] (rG []):=⟨⟨sM,trivial⟩,rJ,rH⟩
def aFN:r5 Tryz.prog a4t:=by
 refine rR OY Tryz.func125 (c:=_) rfl (N:=29) pU (ts:=[(2,none),(3,none)]) rfl (fun _ _=>rfl) ?_;intro O hs hrow;dsimp only[a4q,a4r,a4s,rI,qR,qZ,r8,rL,Nat.reduceAdd] at hs hrow|-;have hz:=hs;obtain⟨z0,d⟩:=aVt.1 hz
 try rw[rY d]
 clear hz hs;unfold EX at d;refine q9 OY ?_;refine q9 OY ?_;refine qO (rP ?_);obtain⟨Z,hy1,d⟩:=qM d;refine tV 0 (fun s=>s=(fun x=>⟨[(0,(.val .str O,none)),(4,(.val (.int .i64) x,none))],[],0,29,0⟩) Z) ?_ ?_
 .refine tP hy1 (fun x=>⟨[(0,(.val .str O,none)),(4,(.val (.int .i64) x,none))],[],0,29,0⟩) ⟨[0,4],[]⟩ pV ?_;intro aA w1 n1 f g;unfold SR at f;dsimp only at f|-;refine qO ?_;obtain⟨hg1,f⟩:=qG f;obtain⟨hg2,f⟩:=qG f;refine q9 OY ?_ (hp:=by exact⟨id,id,hg1,id,sB,id,id,hg2,id,sB⟩);refine qS f (fun f hc1=> ?_) (fun f hc1=> ?_)
  .refine r7 (qJ (rP ?_));obtain⟨hg3,f⟩:=qG f;refine rC OY ?_ (hp:=by exact hg3);refine rU ?_;cases f;exact sU ⟨⟨[0,4],[]⟩,_,by rfl,g⟩
  .refine tK (tJ (tN ?_));cases f;cases g;exact tM ⟨⟨[0,4],[]⟩,by rfl⟩
 .rintro _ rfl;dsimp only at d|-;refine tU (qJ ?_);obtain⟨hg4,d⟩:=qG d;obtain⟨hg5,d⟩:=qG d;refine vY OY ?_ (hp:=by exact⟨hg4,hg5⟩);refine qP ?_;cases d;exact pF []
def aFO (O:r6) (Z:r6):Unit:=()
section
variable (O:r6) (Z:r6)
abbrev a4u:List qC:=[(.val (.pair .str (.pair .str .unit)) O,none),(.val .ref (some (0,0)),none)]
abbrev a4v:List qB:=[.cells (.pair .str (.pair .str .unit)) Z []]
@[go_sem] def a4w:qI:=⟨[],[(.val .bool (decide (O.1=Z.1)),none)],[.cells (.pair .str (.pair .str .unit)) Z []]⟩
def aFP:List qC→List qB→Option qI:=rM (V:=(r6×r6)) (fun x=>a4u x.1) (fun x=>a4v x.2) fun x=>a4w x.1 x.2
@[go_sem] def aTR:aFP (no_index (a4u O)) (no_index (a4v Z))=some (a4w O Z):=rQ (fun⟨a0,a1⟩ ⟨b0,b1⟩ h1 h2=>by cases h1;cases h2;rfl) (O,Z)
end
@[go_sem] abbrev aFQ:Nat×qW:=(129,⟨[.v,.p (.pair .str (.pair .str .unit)) []],aFP,[],[0],none⟩)
def a4x:rF Tryz.prog [sJ,BV] (rG []):=⟨⟨sM,⟨DN,trivial⟩⟩,rJ,rH⟩
def aOT:r5 Tryz.prog aFQ:=by
 refine rR a4x Tryz.func129 (c:=_) rfl (N:=9) pU (ts:=[(3,none)]) rfl (fun _ _=>rfl) ?_;intro⟨O,Z⟩ hs hrow;dsimp only[a4u,a4v,a4w,rI,qR,qZ,r8,rL,Nat.reduceAdd] at hs hrow|-;obtain⟨z0,d⟩: ∃z,(aFO O Z)=z:=⟨_,rfl⟩
 try rw[d]
 unfold aFO at d;refine q9 a4x ?_;refine q9 a4x ?_;refine qP ?_;cases d;exact pF [(0,0)]
def OZ (O:pD):Option Bool:=(CY O).bind fun Z=>some ((!Z))
section
variable (O:pD)
abbrev a4y:List qC:=[(.val .str O,none)]
abbrev a4z:List qB:=[]
@[go_sem] def a4A:qI:=⟨[((OZ O)).isSome=true],[(.val .bool (val (OZ O)),none)],[]⟩
def aFR:List qC→List qB→Option qI:=rM (V:=pD) (a4y) (fun x=>a4z) fun x=>a4A x
@[go_sem] def aTS:aFR (no_index (a4y O)) (no_index a4z)=some (a4A O):=rQ (fun a0 b0 h1 h2=>by cases h1;cases h2;rfl) O
end
@[go_sem] abbrev aFS:Nat×qW:=(133,⟨[.v],aFR,[],[],none⟩)
def a4B:rF Tryz.prog [] (rG [OX]):=⟨trivial,qK SP rJ,rH⟩
def aOU:r5 Tryz.prog aFS:=by
 refine rR a4B Tryz.func133 (c:=_) rfl (N:=6) pU (ts:=[(2,none)]) rfl (fun _ _=>rfl) ?_;intro O hs hrow;dsimp only[a4y,a4z,a4A,rI,qR,qZ,r8,rL,Nat.reduceAdd] at hs hrow|-;have hz:=hs;obtain⟨z0,d⟩:=aVt.1 hz
 try rw[rY d]
 clear hz hs;unfold OZ at d;refine q9 a4B ?_;obtain⟨Z,hv1,hw1,d⟩:=qV d
 try simp only[go_sem] at hw1
 refine q9 a4B ?_ (hp:=by exact(qU hv1)) (h:=by simp only[go_sem,hw1];rfl);refine qP ?_;cases d;exact pF []
def SS (O:pD):Option Unit:=if List.length O≤9223372036854775807 then some (()) else none
section
variable (O:pD)
abbrev a4C:List qC:=[(.val .str O,none)]
abbrev a4D:List qB:=[]
@[go_sem] def a4E:qI:=⟨[((SS O)).isSome=true],[(.val .bool (Lib.validD O),none)],[]⟩
def aFT:List qC→List qB→Option qI:=rM (V:=pD) (a4C) (fun x=>a4D) fun x=>a4E x
@[go_sem] def aTT:aFT (no_index (a4C O)) (no_index a4D)=some (a4E O):=rQ (fun a0 b0 h1 h2=>by cases h1;cases h2;rfl) O
end
@[go_sem] abbrev aFU:Nat×qW:=(138,⟨[.v],aFT,[],[],none⟩)
def a4F:rF Tryz.prog [] (rG [OI]):=⟨trivial,qK a2A rJ,rH⟩
def aOV:r5 Tryz.prog aFU:=by
 refine rR a4F Tryz.func138 (c:=_) rfl (N:=5) pU (ts:=[(2,none)]) rfl (fun _ _=>rfl) ?_;intro O hs hrow;dsimp only[a4C,a4D,a4E,rI,qR,qZ,r8,rL,Nat.reduceAdd] at hs hrow|-;have hz:=hs;obtain⟨z0,d⟩:=aVt.1 hz
 try rw[rY d]
 clear hz hs;unfold SS at d;refine q9 a4F ?_;obtain⟨hg1,d⟩:=qG d;refine q9 a4F ?_ (hp:=by exact hg1);refine qP ?_;cases d;exact pF []
def aFV (O:Int):Unit:=()
section
variable (O:Int)
abbrev a4G:List qC:=[(.val (.int .i64) O,none)]
abbrev a4H:List qB:=[]
@[go_sem] def a4I:qI:=⟨[],[(.val .bool ((decide ((1:Int)≤O))&&(decide (O≤(4:Int)))),none)],[]⟩
def aFW:List qC→List qB→Option qI:=rM (V:=Int) (a4G) (fun x=>a4H) fun x=>a4I x
@[go_sem] def aTU:aFW (no_index (a4G O)) (no_index a4H)=some (a4I O):=rQ (fun a0 b0 h1 h2=>by cases h1;cases h2;rfl) O
end
@[go_sem] abbrev a4J:Nat×qW:=(139,⟨[.v],aFW,[],[],none⟩)
def a4K:rF Tryz.prog [] (rG []):=⟨trivial,rJ,rH⟩
def aFX:r5 Tryz.prog a4J:=by
 refine rR a4K Tryz.func139 (c:=_) rfl (N:=9) pU (ts:=[(2,none)]) rfl (fun _ _=>rfl) ?_;intro O hs hrow;dsimp only[a4G,a4H,a4I,rI,qR,qZ,r8,rL,Nat.reduceAdd] at hs hrow|-;obtain⟨z0,d⟩: ∃z,(aFV O)=z:=⟨_,rfl⟩
 try rw[d]
 unfold aFV at d;refine q9 a4K ?_;refine q9 a4K ?_ (hp:=by exact⟨id,sB⟩);refine qP ?_;cases d;exact pF []
def aOW (O:Int) (Z:pD):Int→Option (Int⊕(Unit⊕Bool)):=fun aA=>if (decide (aA<(Z.length:Int)))=true then if 0≤aA∧aA<(Z.length:Int) then if (decide ((sF Z aA)=O))=true then some (.inr (.inr (true))) else if qD (aA+(1:Int)) then some (.inl (aA+(1:Int))) else none else none else some (.inr (.inl ()))
def P0 (O:Int) (Z:pD):Option Bool:=tY (rO (aOW O Z) (0:Int)) fun _=>some (false)
attribute [irreducible] HS EW EX OZ SS P0
end
end Go.Proofs.YtkpflnijijccpaaGreatDoor
