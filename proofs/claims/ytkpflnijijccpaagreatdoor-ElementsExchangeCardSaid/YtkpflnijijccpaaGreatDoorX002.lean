/- Packed by a program of mine (wip/tools/pack.py): the same texts with short names and few blanks. -/
import Derived.KernelRfl
import Derived.Lib.Hide
import Derived.Lib.IndexMore
import Derived.Lib.RowBridge
import Derived.LoopIn
import Derived.LoopNIn
import Derived.OwnWalkIn
import Derived.RangeFuncBox
import Derived.RangeFuncLeaves
import Derived.Scope
import Derived.Shelf.Abstract
import Derived.Shelf.Slices.Clone
import Derived.Shelf.Slices.CompactS
import Derived.Shelf.Slices.In.SortNone
import Derived.Shelf.SlicesE.DeleteFunc
import Derived.Shelf.Small.Strs
import Derived.Shelf.Small.Utf8
import Derived.Shelf.Sort.Plain
import Derived.Shelf.Spec.SlicesInsertGrow
import Derived.Shelf.Strconv.Itoa3
import Derived.Shelf.Strings.Builder1
import Derived.Shelf.Strings.Fields
import Derived.Shelf.Strings.OnBuilder
import Derived.Shelf.Strings.Runes
import Derived.Shelf.Strings.Search1
import Derived.Shelf.Strings.Search2
import Derived.Shelf.Strings.Search3
import Derived.Shelf.Strings.SlTrimAscii
import Derived.Shelf.Strings.Split
import Derived.Shelf.Strings.Trim
import Derived.Shelf.Unicode.DecodeAny
import Derived.Shelf.Unicode.ValidAny
import Derived.TacticsInMore
import Derived.Test.YtkpflnijijccpaaGreatDoorChecked
import Derived.Test.YtkpflnijijccpaaGreatDoorProg
import Derived.WalkKit
import Derived.Test.YtkpflnijijccpaaGreatDoorX001
set_option linter.defProp false
set_option linter.unusedVariables false
set_option linter.unusedSimpArgs false
set_option linter.unusedSectionVars false
set_option maxRecDepth 100000
set_option maxHeartbeats 4000000
namespace Go.Proofs.YtkpflnijijccpaaGreatDoor.Vc
open Go.RowKit
def Ev (R:Bool) (P:Program) (c:Code) (s:St) (Q:Ex->St->Prop):Prop:=
 ∀(ro:pR),ro.isSome=R->
 ∀(A:Nat->Nat->Prop) (L:List qD) (g0:Gh) (w0:pT) (g:Gh) (a:Act) (w:pT) (B:Nat),B<=w0.heap.size->w7 B g w s a->uD A L g0 w0 g w s.H->s.np=L.length->c.wpIn (G1 ro) 0 P (LQ B A L g0 w0 Q) a w
variable {R:Bool}
theorem aEb {P:Program}{T:sY}{Γ:uL}(hT:y5 P T) (hΓ:EO P Γ) (hm:P.follows .mixedOrders=true) {c:Code}{s:St}{Q:Ex->St->Prop}(h:xB T Γ c s Q):Ev R P c s Q:=
 fun ro hro A L g0 w0 g a w B hB hr hg hn=>HJ hT hΓ hm c s Q g a w h hr hg hn
structure rH (P:Program) (T:sY) (Γ:uL):Prop where
 T:y5 P T
 Γ:EO P Γ
 m:P.follows .mixedOrders=true
@[go_sem] def skS (l:pS) (Γ:uL) (f:Nat):Option r5:=if CL f l=true then some ⟨[],fun _ _=>none,[],[],none⟩ else Γ f
theorem a15 {P:Program}{T:sY}{Γ:uL}{l:pS}(h:rH P T Γ) (hl:(l.all fun k=>decide (1000000000<=k))=true):rH P T (skS l Γ):=
 ⟨h.T,fun f s hlt hs=>by
  unfold skS at hs;split at hs
  .rename_i hm;have:=aVw (aVC.1 hl f (JC.1 hm));omega
  .exact h.Γ f s hlt hs,h.m⟩
theorem aNp {P:Program}{c:Code}{s:St}{Q Q':Ex->St->Prop}(h:Ev R P c s Q') (hq: ∀e s,Q' e s->Q e s):Ev R P c s Q:=by
 intro ro hro A L g0 w0 g a w B hB hr hg hn;refine aWF (h ro hro A L g0 w0 g a w B hB hr hg hn) fun x a' w' hp=> ?_;obtain⟨e,g',s',h1,h2,h3,h4,h5⟩:=hp;exact⟨e,g',s',h1,hq e s' h2,h3,h4,h5⟩
theorem aEd {P:Program}{c:Code}{s:St}{Q:Ex->St->Prop}(k:wZ) (h:Ev R P c (s.keep k) Q):Ev R P c s Q:=by
 intro ro hro A L g0 w0 g a w B hB hr hg hn;obtain⟨g1,k1,k2,k3,_⟩:=HH hr hg hn k;exact h ro hro A L g0 w0 g1 a w B hB k1 k2 k3
section
variable {P:Program}{s:St}{Q:Ex->St->Prop}
theorem r9 (h:Q .normal s):Ev R P .skip s Q:=fun _ _ _ _ _ _ g _ _ _ _ hr hg hn=>wpIn_skip ⟨.normal,g,s,rfl,h,hr,hg,hn⟩
theorem tV {id:Nat}(h:Q (.exit id) s):Ev R P (.exit id) s Q:=fun _ _ _ _ _ _ g _ _ _ _ hr hg hn=>wpIn_exit ⟨.exit id,g,s,rfl,h,hr,hg,hn⟩
theorem qS (h:Q .ret s):Ev R P .ret s Q:=fun _ _ _ _ _ _ g _ _ _ _ hr hg hn=>wpIn_ret ⟨.ret,g,s,rfl,h,hr,hg,hn⟩
theorem qQ {x y:Code}(h:Ev R P x s (R2 (fun s'=>Ev R P y s' Q) Q)):Ev R P (.seq x y) s Q:=by
 intro ro hro A L g0 w0 g a w B hB hr hg hn;refine wpIn_seq (aWF (h ro hro A L g0 w0 g a w B hB hr hg hn) fun e a' w' hp=> ?_);obtain⟨e',g',s',h1,h2,h3,h4,h5⟩:=hp;cases e<;>simp only[G2,aUT] at h1
 case normal=>subst h1;exact h2 ro hro A L g0 w0 g' a' w' B hB h3 h4 h5
 case exit id=>subst h1;exact⟨.exit id,g',s',rfl,h2,h3,h4,h5⟩
 case ret=>subst h1;exact⟨.ret,g',s',rfl,h2,h3,h4,h5⟩
 all_goals cases h1
theorem aNq {c:Operand}{x y:Code}{b:Bool}{k:pR}(h:uQ s.env c=(.val .bool b,k)) (ht:b=true->Ev R P x s Q) (hf:b=false->Ev R P y s Q):Ev R P (.cond c x y) s Q:=by
 intro ro hro A L g0 w0 g a w B hB hr hg hn;have hc:=AP hr.env c;rw[h] at hc;exact wpIn_cond_split (wI hc.1) (fun e=>ht e ro hro A L g0 w0 g a w B hB hr hg hn) (fun e=>hf e ro hro A L g0 w0 g a w B hB hr hg hn)
theorem aEe {c:Operand}{x y:Code}{p q:Prop}{k:pR}(h:uQ s.env c=(.flag p q,k)) (ht:p->Ev R P x s Q) (hf:q->Ev R P y s Q):Ev R P (.cond c x y) s Q:=by
 intro ro hro A L g0 w0 g a w B hB hr hg hn;have hc:=AP hr.env c;rw[h] at hc;obtain⟨b,hb,hp,hq⟩:=hc.1;exact wpIn_cond_split hb (fun e=>ht (hp e) ro hro A L g0 w0 g a w B hB hr hg hn) (fun e=>hf (hq e) ro hro A L g0 w0 g a w B hB hr hg hn)
theorem rS {id:Nat}{c:Code}(h:Ev R P c s (J8 id Q)):Ev R P (.block id c) s Q:=by
 intro ro hro A L g0 w0 g a w B hB hr hg hn;refine wpIn_block (aWF (h ro hro A L g0 w0 g a w B hB hr hg hn) fun e a' w' hp=> ?_);obtain⟨e',g',s',h1,h2,h3,h4,h5⟩:=hp;cases e<;>simp only[G2,aUT] at h1
 case normal=>subst h1;exact⟨.normal,g',s',rfl,h2,h3,h4,h5⟩
 case exit j=>
  subst h1;simp only[J8] at h2;simp only[Exit.inBlock];split
  .rename_i hj;rw[aUU hj] at h2;exact⟨.normal,g',s',rfl,h2,h3,h4,h5⟩
  .rename_i hj;rw[aUX hj] at h2;exact⟨.exit j,g',s',rfl,h2,h3,h4,h5⟩
 case ret=>subst h1;exact⟨.ret,g',s',rfl,h2,h3,h4,h5⟩
 all_goals cases h1
end
@[go_sem] def a16 (k:Nat) (t:Ty) (l:List t.den):qE->qE
 |(.own j m,x)=>if j=k then(.val (.list t) l,some k) else(.own j m,x)
 |s=>s
@[go_sem] def RU (k:Nat) (t:Ty) (l:List t.den):List (Nat×qE)->List (Nat×qE)
 |[]=>[]
 |(i,s)::r=>(i,a16 k t l s)::RU k t l r
@[go_sem] def aEf (k n:Nat):qE->Prop
 |(.own j m,_)=>j=k->m=n
 |_=>True
@[go_sem] def a17 (k n:Nat):List (Nat×qE)->Prop
 |[]=>True
 |(_,s)::r=>aEf k n s/\a17 k n r
theorem aEg {k:Nat}{t:Ty}{l:List t.den}: ∀{env:List (Nat×qE)}{i:Nat},lk (RU k t l env) i=a16 k t l (lk env i)
 |[],i=>rfl
 |(j,s)::r,i=>by
  simp only[RU,lk];split
  .rfl
  .exact aEg
theorem aEh {k n:Nat}: ∀{env:List (Nat×qE)}{i:Nat},a17 k n env->aEf k n (lk env i)
 |[],i,_=>trivial
 |(j,s)::r,i,⟨h1,h2⟩=>by
  simp only[lk];split
  .exact h1
  .exact aEh h2
theorem RV {P:Program}{c:Code}{s:St}{Q:Ex->St->Prop}(k:Nat) {e:TypeId}{t:Ty}{l:List t.den}{n:Nat}(hk:qH s.H k=some (.row e t l n)) (hok:a17 k n s.env)
  (h:Ev R P c ⟨RU k t l s.env,(k,.grow e t.cells (List.length l))::s.H,s.nb,s.N,s.np⟩ Q):Ev R P c s Q:=by
 intro ro hro A L g0 w0 g a w B hB hr hg hn;obtain⟨hl,v,xs,hv,hown,hF,hnone,hseal⟩:=hr.heap.blk k _ hk
 let g':Gh:={g with S:=fun b o=>g.S b o\/(v.ownBlock=some b/\o<n*t.cells)}
 have le:Le g w g' w:=⟨fun _ _ h=> .inl h,fun _ _ _=>rfl,fun _ _ h=>h,fun _ _ _ h=>h⟩;have hown2: ∀b,v.ownBlock=some b->∀o,sG g k (.row e t l n) b o:=fun b hb o=>⟨v,hv,hb⟩;have hlist: ∀u,g.cur k n=some u->((u= .slice none 0 0/\n=0)\/∃b cap,u= .slice (some ⟨b,0,none⟩) n cap/\n<=cap)->tT g' w (.list t) l u:=by
  intro u hu hshape;rw[hv] at hu;obtain rfl:=aUZ hu;rcases hshape with⟨rfl,h0⟩ |⟨b,cap,rfl,hcap⟩
  .have:l=[]:=aVu (by rw[hl,h0]);subst this;exact .inr ⟨rfl,none,0,rfl,aVi _,.inl rfl⟩
  .refine .inr ⟨rfl,some ⟨b,0,none⟩,cap,by rw[hl],by rw[hl];exact hcap,.inr ⟨b,0,rfl,NV (DM (fun _ _ h=>y4 le h) hF) (fun j u hu=> ?_) (fun j hj=> ?_)⟩⟩
   .have:=hown.cells (g:=b) rfl j u hu;rwa [aWj] at this
   .right;exact⟨rfl,by rw[hl] at hj;omega⟩
 have hget: ∀i b,qH ((k,qD.grow e t.cells (List.length l))::s.H) i=some b->(i=k/\b= .grow e t.cells (List.length l))\/(i≠k/\qH s.H i=some b):=by
  intro i b hb;simp only[qH] at hb;split at hb
  .rename_i e1;exact .inl ⟨e1.symm,(aUZ hb).symm⟩
  .rename_i e1;exact .inr ⟨Ne.symm e1,hb⟩
 have howns: ∀i b bb o,qH ((k,qD.grow e t.cells (List.length l))::s.H) i=some b->sG g' i b bb o->∃b0,qH s.H i=some b0/\sG g i b0 bb o:=by
  intro i b bb o hb ho;rcases hget i b hb with⟨rfl,rfl⟩ |⟨_,h1⟩
  .obtain⟨u,hu,hub⟩:=ho;have hu':g.cur i (List.length l)=some u:=hu;rw[hl] at hu';exact⟨_,hk,u,hu',hub⟩
  .exact⟨b,h1,(A6 (g':=g') (g:=g) rfl rfl).1 ho⟩
 have hrel:w7 B g' w ⟨RU k t l s.env,(k,.grow e t.cells (List.length l))::s.H,s.nb,s.N,s.np⟩ a:=by
  refine⟨fun i=> ?_,⟨fun i b hb=> ?_,fun i j bi bj b o hij h1 h2 o1 o2=> ?_,fun b o hS=> ?_,hr.heap.tab.1,fun i b bb oo hb ho=>by
   obtain⟨c1,k1,k2⟩:=howns i b bb oo hb ho;exact hr.heap.tab.2 i c1 bb oo k1 k2⟩,hr.size,hr.nb,hr.def_,hr.np⟩
  .rw[aEg];have h1:=hr.env i;have h2:=aEh (i:=i) hok;generalize lk s.env i=sl at h1 h2;obtain⟨d,x⟩:=sl;cases d with
   |own j m=>
    simp only[a16];split
    .rename_i hj;subst hj;have hm:m=n:=h2 rfl;subst hm;refine⟨hlist _ h1.1.1 h1.1.2,?_⟩;show g'.cur j (List.length l)=_;rw[hl];exact h1.1.1
    .exact DL le h1
   |_=>exact DL le h1
  .rcases hget i b hb with⟨rfl,rfl⟩ |⟨hne,h1⟩
   .refine⟨v,xs,by rw[hl];exact hv,by rw[hl];exact hown,fun m hm=>hnone m (by rw[hl] at hm;exact hm),fun b hb o hS=> ?_⟩;rw[hl];rcases hS with hS|hS
    .exact absurd hS (hseal b hb o)
    .exact hS.2
   .exact NS (hr.heap.blk i b h1) le rfl rfl (fun _ _ _=>⟨rfl,rfl⟩) (fun _ _=>rfl) (fun bb o ho hS=>by
     rcases hS with hS|hS
     .exact hS
     .exact absurd (hown2 bb hS.1 o) (fun h5=>hr.heap.dis i k b _ bb o hne h1 hk ho h5)) (fun _ _ _ _ h=>h)
  .obtain⟨c1,k1,k2⟩:=howns i bi b o h1 o1;obtain⟨c2,k3,k4⟩:=howns j bj b o h2 o2;exact hr.heap.dis i j c1 c2 b o hij k1 k3 k2 k4
  .rcases hS with hS|hS
   .exact hr.heap.sl b o hS
   .exact R9 hown hS.1
 have hgood:uD A L g0 w0 g' w ((k,.grow e t.cells (List.length l))::s.H):=by
  refine⟨fun b o h0=>⟨.inl (hg.shut b o h0).1,(hg.shut b o h0).2⟩,⟨hg.fr.os,hg.fr.tape,hg.fr.output,hg.fr.size,hg.fr.blk,hg.fr.cell,fun b o hS=> ?_,hg.fr.shape⟩,fun i b bb o hb ho=> ?_,hg.J,hg.live,fun i u y us hi hb=> ?_,hg.cur⟩
  .rcases hS with hS|hS
   .exact hg.fr.new b o hS
   .exact .inr (hg.perm k _ b o hk (hown2 b hS.1 o))
  .obtain⟨c1,k1,k2⟩:=howns i b bb o hb ho;exact hg.perm i c1 bb o k1 k2
  .rcases hget i _ hb with⟨_,h1⟩ |⟨_,h1⟩
   .cases h1
   .exact hg.ty i u y us hi h1
 exact h ro hro A L g0 w0 g' a w B hB hrel hgood hn
def iter {σ ρ:Type}(f:σ->Option (σ⊕ρ)):Nat->σ->Option ρ
 |0,_=>none
 |n+1,x=>match f x with
  |none=>none
  |some (.inl y)=>iter f n y
  |some (.inr r)=>some r
theorem aEi {σ ρ:Type}{f:σ->Option (σ⊕ρ)}{r:ρ}: ∀{n:Nat}{x:σ},iter f n x=some r->iter f (n+1) x=some r
 |0,_,h=>by cases h
 |n+1,x,h=>by
  unfold iter at h|-;split
  .rename_i e;rw[e] at h;cases h
  .rename_i y e;rw[e] at h;exact aEi h
  .rename_i r' e;rw[e] at h;exact h
theorem a18 {σ ρ:Type}{f:σ->Option (σ⊕ρ)}{r:ρ}{n:Nat}{x:σ}(h:iter f n x=some r): ∀m,iter f (n+m) x=some r
 |0=>h
 |m+1=>aEi (a18 h m)
theorem aEj {σ ρ:Type}{f:σ->Option (σ⊕ρ)}{r r':ρ}{n m:Nat}{x:σ}(h:iter f n x=some r) (h':iter f m x=some r'):r=r':=by
 have h1:=a18 h m;have h2:=a18 h' n;rw[Nat.add_comm] at h2;exact aUZ (h1.symm.trans h2)
noncomputable def RW {σ ρ:Type}(f:σ->Option (σ⊕ρ)) (x:σ):Option ρ:=open Classical in if h: ∃n r,iter f n x=some r then some (Classical.choose (aWy h)) else none
def aNr {ρ:Type}:Option ρ->Option ρ->Option ρ
 |some r,_=>some r
 |none,r=>r
noncomputable def rQ {σ ρ:Type}(f:σ->Option (σ⊕ρ)) (x:σ):Option ρ:=aNr (iter f 2000 x) (RW f x)
theorem aNs {σ ρ:Type}{f:σ->Option (σ⊕ρ)}{x:σ}{r:ρ}{n:Nat}(h:iter f n x=some r):RW f x=some r:=by
 have hx: ∃n r,iter f n x=some r:=⟨n,r,h⟩;unfold RW;rw[aW0 hx,aEj h (aWy (aWy hx))]
theorem a19 {σ ρ:Type}{f:σ->Option (σ⊕ρ)}{x:σ}{r:ρ}{n:Nat}(h:iter f n x=some r):rQ f x=some r:=by
 unfold rQ;cases hi:iter f 2000 x with
 |some r'=>rw[aEj h hi];rfl
 |none=>exact aNs h
theorem XJ {σ ρ:Type}{f:σ->Option (σ⊕ρ)}{x:σ}{r:ρ}(h:rQ f x=some r): ∃n,iter f n x=some r:=by
 unfold rQ at h;cases hi:iter f 2000 x with
 |some r'=>
  rw[hi] at h;cases h;exact⟨_,hi⟩
 |none=>
  rw[hi] at h;have h:RW f x=some r:=h;unfold RW at h;split at h
  .rename_i hx;have:=aWy (aWy hx);rw[aUZ h] at this;exact⟨_,this⟩
  .cases h
attribute [irreducible] rQ
theorem vT {σ ρ:Type}{f:σ->Option (σ⊕ρ)}{x y:σ}(h:f x=some (.inl y)):rQ f x=rQ f y:=by
 cases hy:rQ f y with
 |some r=>
  obtain⟨n,hn⟩:=XJ hy;exact a19 (n:=n+1) (by unfold iter;rw[h];exact hn)
 |none=>
  cases hx:rQ f x with
  |none=>rfl
  |some r=>
   obtain⟨n,hn⟩:=XJ hx;cases n with
   |zero=>cases hn
   |succ n=>
    unfold iter at hn;rw[h] at hn;rw[a19 hn] at hy;cases hy
theorem uU {σ ρ:Type}{f:σ->Option (σ⊕ρ)}{x:σ}{r:ρ}(h:f x=some (.inr r)):rQ f x=some r:=a19 (n:=1) (by unfold iter;rw[h])
def Nxt {σ ρ:Type}(f:σ->Option (σ⊕ρ)) (y:ρ) (n:Nat):σ⊕ρ->Prop
 | .inl x=>iter f n x=some y
 | .inr r=>r=y
def qL {σ ρ:Type}(enc:σ->St) (f:σ->Option (σ⊕ρ)) (y:ρ) (n:Nat) (Q:Ex->St->Prop):Ex->St->Prop
 | .normal,s=> ∃(k:wZ) (x:σ),s.keep k=enc x/\iter f n x=some y
 | .exit j,s=>Q (.exit j) s
 | .ret,s=>Q .ret s
theorem aNu {P:Program}{c:Code}{s:St}{Q:Ex->St->Prop}(I:Nat->St->Prop) (h0: ∃(k:wZ) (n:Nat),I n (s.keep k))
  (h: ∀n s,I n s->Ev R P c s (fun e s'=>match e with| .normal=> ∃(k:wZ) (m:Nat),m<n/\I m (s'.keep k) |e=>Q e s')):Ev R P (.loop c) s Q:=by
 intro ro hro A L g0 w0 g a w B hB hr hg hn;obtain⟨k,n0,h0⟩:=h0;obtain⟨g1,k1,k2,k3,_⟩:=HH hr hg hn k
 let R:Act->pT->Nat->Prop:=fun a w n=> ∃g s,I n s/\w7 B g w s a/\uD A L g0 w0 g w s.H/\s.np=L.length
 refine wpIn_loop (fun a w=> ∃n,R a w n) (fun a w=>RR (R a w)) ⟨_,g1,s.keep k,h0,k1,k2,k3⟩ (fun a w hI=> ?_);obtain⟨⟨g2,s2,i1,i3,i4,i5⟩,_⟩:=XF hI;refine aWF (h _ s2 i1 ro hro A L g0 w0 g2 a w B hB i3 i4 i5) fun e a' w' hp=> ?_;obtain⟨e',g',s',h1,h2,h3,h4,h5⟩:=hp;cases e<;>simp only[G2,aUT] at h1
 case normal=>
  subst h1;obtain⟨k',m,j1,j2⟩:=h2;obtain⟨g3,l1,l2,l3,_⟩:=HH h3 h4 h5 k';have hR:R a' w' m:=⟨g3,s'.keep k',j2,l1,l2,l3⟩;exact⟨⟨_,hR⟩,Nat.lt_of_le_of_lt ((XF ⟨_,hR⟩).2 _ hR) j1⟩
 case exit id=>subst h1;exact⟨.exit id,g',s',rfl,h2,h3,h4,h5⟩
 case ret=>subst h1;exact⟨.ret,g',s',rfl,h2,h3,h4,h5⟩
 all_goals cases h1
theorem tZ {P:Program}{c:Code}{s:St}{Q:Ex->St->Prop}{σ ρ:Type}{f:σ->Option (σ⊕ρ)}{x0:σ}{y:ρ}(hy:rQ f x0=some y) (enc:σ->St) (k:wZ) (h0:s.keep k=enc x0)
  (round: ∀x w n,f x=some w->Nxt f y n w->Ev R P c (enc x) (qL enc f y n Q)):Ev R P (.loop c) s Q:=by
 obtain⟨n,hn⟩:=XJ hy;refine aNu (fun n s=> ∃x,s=enc x/\iter f n x=some y) ⟨k,n,x0,h0,hn⟩ fun n s ⟨x,e,hx⟩=> ?_;subst e;cases n with
 |zero=>cases hx
 |succ n=>
  unfold iter at hx;refine aNp (Q':=qL enc f y n Q) ?_ (fun e s' hq=> ?_)
  .split at hx
   .cases hx
   .rename_i x' e;exact round x _ n e hx
   .rename_i r e;exact round x _ n e (aUZ hx)
  .cases e with
   |normal=>obtain⟨k,x',h1,h2⟩:=hq;exact⟨k,n,pI,x',h1,h2⟩
   |exit j=>exact hq
   |ret=>exact hq
def qX (j:Nat) (X:St->Prop) (Q:Ex->St->Prop):Ex->St->Prop
 | .normal,s=>Q .normal s
 | .exit i,s=>if i=j then∃k:wZ,X (s.keep k) else Q (.exit i) s
 | .ret,s=>Q .ret s
theorem uA {P:Program}{c:Code}{s:St}{Q:Ex->St->Prop}(j:Nat) (X:St->Prop) (h:Ev R P c s (qX j X Q)) (J: ∀s',X s'->Q (.exit j) s'):Ev R P c s Q:=by
 intro ro hro A L g0 w0 g a w B hB hr hg hn;refine aWF (h ro hro A L g0 w0 g a w B hB hr hg hn) fun x a' w' hp=> ?_;obtain⟨e,g',s',h1,h2,h3,h4,h5⟩:=hp;cases e with
 |normal=>exact⟨.normal,g',s',h1,h2,h3,h4,h5⟩
 |ret=>exact⟨.ret,g',s',h1,h2,h3,h4,h5⟩
 |exit i=>
  have h2:(if i=j then∃k:wZ,X (s'.keep k) else Q (.exit i) s'):=h2;by_cases hij:i=j
  .rw[aUU hij] at h2;obtain⟨k,hk⟩:=h2;obtain⟨g1,k1,k2,k3,_⟩:=HH h3 h4 h5 k;exact⟨.exit i,g1,s'.keep k,h1,by rw[hij];exact J _ hk,k1,k2,k3⟩
  .rw[aUX hij] at h2;exact⟨.exit i,g',s',h1,h2,h3,h4,h5⟩
section
variable {Q:Ex->St->Prop}{s:St}{j i:Nat}{X:St->Prop}{σ ρ:Type}{enc:σ->St}{f:σ->Option (σ⊕ρ)}{y:ρ}{n:Nat}
theorem vM (h:Q .ret s):qX j X Q .ret s:=h
theorem tW (h: ∃k:wZ,X (s.keep k)):qX j X Q (.exit j) s:=by show (if j=j then _ else _);rw[aUU rfl];exact h
theorem sX (h: ∃(k:wZ) (x:σ),s.keep k=enc x/\iter f n x=some y):qL enc f y n Q .normal s:=h
theorem tX (h:Q (.exit j) s):qL enc f y n Q (.exit j) s:=h
theorem vE (h:Q .ret s):qL enc f y n Q .ret s:=h
end
def qN (X:St->Prop) (Q:Ex->St->Prop):Ex->St->Prop
 | .normal,s=> ∃k:wZ,X (s.keep k)
 | .exit j,s=>Q (.exit j) s
 | .ret,s=>Q .ret s
theorem yZ {P:Program}{c:Code}{s:St}{Q:Ex->St->Prop}(X:St->Prop) (h:Ev R P c s (qN X Q)) (J: ∀s',X s'->Q .normal s'):Ev R P c s Q:=by
 intro ro hro A L g0 w0 g a w B hB hr hg hn;refine aWF (h ro hro A L g0 w0 g a w B hB hr hg hn) fun x a' w' hp=> ?_;obtain⟨e,g',s',h1,h2,h3,h4,h5⟩:=hp;cases e with
 |exit j=>exact⟨.exit j,g',s',h1,h2,h3,h4,h5⟩
 |ret=>exact⟨.ret,g',s',h1,h2,h3,h4,h5⟩
 |normal=>
  obtain⟨k,hk⟩:=h2;obtain⟨g1,k1,k2,k3,_⟩:=HH h3 h4 h5 k;exact⟨.normal,g1,s'.keep k,h1,J _ hk,k1,k2,k3⟩
section
variable {Q:Ex->St->Prop}{s:St}{j:Nat}{X:St->Prop}
theorem uE (h: ∃k:wZ,X (s.keep k)):qN X Q .normal s:=h
theorem aEk (h:Q .ret s):qN X Q .ret s:=h
end
def val {ρ:Type}[Inhabited ρ] (x:Option ρ):ρ:=x.getD default
theorem s7 {ρ:Type}[Inhabited ρ] {x:Option ρ}{y:ρ}(h:x=some y):val x=y:=by rw[h];rfl
theorem qW {ρ:Type}{x:Option ρ}{y:ρ}(h:x=some y):x.isSome=true:=by rw[h];rfl
theorem qI {ρ:Type}{c:Prop}[Decidable c] {x:Option ρ}{r:ρ}(h:(if c then x else none)=some r):c/\x=some r:=by
 by_cases hc:c
 .rw[aUU hc] at h;exact⟨hc,h⟩
 .rw[aUX hc] at h;cases h
theorem qO {σ ρ:Type}{x:Option σ}{k:σ->Option ρ}{r:ρ}(h:x.bind k=some r): ∃y,x=some y/\k y=some r:=by
 cases x with
 |none=>cases h
 |some y=>exact⟨y,rfl,h⟩
theorem aNv {ρ:Type}{b:Bool}{x y:ρ}{r:ρ}(h:(if b=true then x else y)=r) (hb:b=true):x=r:=by rw[aUU hb] at h;exact h
theorem aNw {ρ:Type}{b:Bool}{x y:ρ}{r:ρ}(h:(if b=true then x else y)=r) (hb:b=false):y=r:=by rw[hb,aUX pJ] at h;exact h
def uF {σ ρ:Type}(x:Option (σ⊕ρ)) (k:σ->Option ρ):Option ρ:=x.bind fun y=>match y with
 | .inl v=>k v
 | .inr r=>some r
theorem vF {σ ρ:Type}{x:Option (σ⊕ρ)}{k:σ->Option ρ}{r:ρ}(h:uF x k=some r): ∃y,x=some y/\(match y with| .inl v=>k v| .inr r=>some r)=some r:=qO h
def sU {σ ρ:Type}(x:Option σ) (k:σ->Option ρ):Option ρ:=x.bind k
def a2a {σ ρ:Type}(x:σ) (k:σ->ρ):ρ:=k x
theorem aNx {σ ρ:Type}{x:σ}{k:σ->ρ}{r:ρ}(h:a2a x k=r): ∃y,x=y/\k y=r:=⟨x,rfl,h⟩
theorem sI {x:Bool}(h:x=true):(x==true)=true:=by rw[h];rfl
theorem O9 {G x:Bool}(hG:G=true) (h:x=true):(G&&(x==true))=true:=by rw[hG,h];rfl
theorem HK {G x:Bool}(hG:G=true) (h:x=false):(G&&(x==false))=true:=by rw[hG,h];rfl
theorem sQ {x:Bool}(h:x=false):(x==false)=true:=by rw[h];rfl
section
variable {P:Program}{T:sY}{Γ:uL}(E:rH P T Γ) {s:St}{Q:Ex->St->Prop}
include E
theorem aEl {id:Nat}{ops:Array Oper}{a:wA}(h:vB T Γ ops.toList ops.toList (some ⟨s,[],[]⟩)=some a) (hp:rC a.side) (hq:Q .normal a.s):Ev R P (.region id ops false) s Q:=
 aEb E.T E.Γ E.m (aLo h hp hq)
theorem aEm {id:Nat}{ops:Array Oper}{a:wA}(h:vB T Γ ops.toList ops.toList (some ⟨s,[],[]⟩)=some a) (hf:LH ops s.nb a.es.reverse=true) (hp:rC a.side) (hq:Q .normal a.s):Ev R P (.region id ops true) s Q:=
 aEb E.T E.Γ E.m (aLp h hf hp hq)
end
end Go.Proofs.YtkpflnijijccpaaGreatDoor.Vc
namespace Go.Proofs.YtkpflnijijccpaaGreatDoor.Vc
open Go.RowKit
variable {R:Bool}
attribute [go_sem] Option.map_some Option.map_none
@[go_sem] theorem aSX {H:List (Nat×qD)}{ps:List PK}{b:List qE}{a:Option tI}:yH H ps ([]++b) a=yH H ps b a:=rfl
@[go_sem] theorem aSY {H:List (Nat×qD)}{ps:List PK}{x:qE}{l b:List qE}{a:Option tI}:yH H ps ((x::l)++b) a=yH H ps (x::(l++b)) a:=rfl
@[go_sem] def aEn:Option qE->Option (List qE)->Option (List qE)
 |some s,some l=>some (s::l)
 |_,_=>none
@[go_sem] def aEo:Option qU->Option qE
 |some e=>some e.slot
 |none=>none
@[go_sem] def XK (H:List (Nat×qD)):Option TI->qE->Option qU
 |some ti,(.val .ref (some (i,off)),_)=>QS ti.ty i off (qH H i)
 |_,_=>none
@[go_sem] def RX (T:sY) (s:St) (m:pN):Nat×Option TypeId->Option qE
 |(t,none)=>some (AK m (lk s.env t))
 |(t,some ty)=>(aEo (XK s.H (s0 T ty) (lk s.env t))).map (AK m)
@[go_sem] def JF (T:sY) (s:St) (m:pN):List (Nat×Option TypeId)->Option (List qE)
 |[]=>some []
 |q::r=>aEn (RX T s m q) (JF T s m r)
def DQ:Nat×Option TypeId->ResultVar
 |(t,none)=> .tmp t
 |(t,some ty)=> .cell t ty
@[go_sem] def EP:Nat->Nat->List (Nat×qD)->List (Nat×qD)
 |0,_,H=>H
 |n+1,i,[]=>(i,.dead)::EP n (i+1) []
 |n+1,i,(j,b)::H=>if j=i then(j,b)::EP n (i+1) H else(i,.dead)::EP n (i+1) ((j,b)::H)
theorem LS: ∀{n i:Nat}{H:List (Nat×qD)}{k:Nat}{b:qD},qH (EP n i H) k=some b->qH H k=some b\/b= .dead
 |0,_,_,_,_,h=> .inl h
 |n+1,i,[],k,b,h=>by
  simp only[EP,qH] at h;split at h
  .exact .inr (aUZ h).symm
  .exact LS h
 |n+1,i,(j,c)::H,k,b,h=>by
  unfold EP at h;split at h
  .simp only[qH] at h|-;split at h
   .rename_i e;rw[aUU e];exact .inl h
   .rename_i e;rw[aUX e];exact LS h
  .simp only[qH] at h;split at h
   .exact .inr (aUZ h).symm
   .exact LS h
theorem sM.pad {g:Gh}{w:pT}{H:sD}(h:sM g w H) (n i:Nat):sM g w (EP n i H):=by
 have own: ∀{k blk b o},qH (EP n i H) k=some blk->sG g k blk b o->qH H k=some blk:=fun hg ho=>by
  rcases LS hg with h1|h1
  .exact h1
  .subst h1;exact ho.elim
 refine⟨fun k b hb=> ?_,fun i j bi bj b o hij h1 h2 o1 o2=>h.dis i j bi bj b o hij (own h1 o1) (own h2 o2) o1 o2,h.sl,h.tab.1,fun k blk b o h1 h2=>h.tab.2 k blk b o (own h1 h2) h2⟩;rcases LS hb with h1|h1
 .exact h.blk k b h1
 .subst h1;trivial
theorem uD.pad {A:Nat->Nat->Prop}{L:List qD}{g0 g:Gh}{w0 w:pT}{H:sD}(h:uD A L g0 w0 g w H) (n i:Nat):uD A L g0 w0 g w (EP n i H):=by
 refine⟨h.shut,h.fr,fun k blk b o hg ho=> ?_,h.J,h.live,fun k u y us hk hg=> ?_,h.cur⟩
 .rcases LS hg with h1|h1
  .exact h.perm k blk b o h1 ho
  .subst h1;exact ho.elim
 .rcases LS hg with h1|h1
  .exact h.ty k u y us hk h1
  .cases h1
def aEp (T:sY) (ts:List (Nat×Option TypeId)) (r:qK):Ex->St->Prop
 | .exit _,_=>False
 |_,s=> ∃m:pN,xQ s.np m=true/\EP (r6 r.H) 0 (s.keep ⟨[],m⟩).H=qT 0 r.H/\JF T s m ts=some r.ret
section
variable {P:Program}{o:Oper}{a:Act}{g:Gh}{w:pT}{H:sD}{T:sY}(hT:y5 P T) (hH:sM g w H)
include hT hH
theorem aNy {t:TypeId}{vx:pU}{sx:qE}(hx:rX g w sx vx) {e:qU}(hr:XK H (s0 T t) sx=some e): ∃ad v,vx= .pointer (some ad)/\(loadVar t ad).run P w= .ok v w/\rX g w e.slot v:=by
 generalize hs:s0 T t=ot at hr;replace hx:=hx.1;unfold XK at hr;split at hr
 .rename_i ti i off k;have hty:=tM hT hs;generalize hb:qH H i=ob at hr;unfold QS at hr;split at hr
  .rename_i u z toks;generalize hga:rJ ti.ty u z off=oy at hr;cases oy with
   |none=>cases hr
   |some y=>
    cases hr;obtain⟨p,hp,hv⟩:=A7 hx;obtain⟨p',cs,hp',hR,hra,_,_,htk⟩:=hH.blk i _ hb;rw[hp] at hp';obtain rfl:=aUZ hp';obtain⟨c1,c2,c3,rfl,rfl,hR2⟩:=EJ hR hga;obtain⟨v,h1,h2,h3⟩:=RD hT hH hty (NW hT hH hra) hR2;refine⟨_,v,hv,by simpa[Instr.loadAt,Instr.sureAddr] using h1,h2,?_⟩;obtain⟨ty,el,by',ar,ls⟩:=ti;cases ty with
    |list u'=>
     simp only[FS];generalize htt:xZ toks c1.length=ok;cases ok with
     |none=>trivial
     |some k=>
      obtain⟨u2,l,v',g1,g2,g3⟩:=htk _ _ (a1g hT hH htt);obtain⟨heq,hl⟩:=aCq hT hH g1 hga rfl;injection heq with heq'
      subst heq';have hlen:=tC hR2;obtain⟨v2,rfl⟩:=aWm.1 hlen;have e2:v'=v2:=by
       have e:(c1++[v2]++c3)[c1.length]? =some v2:=by simp
       rw[e] at g2;exact(aUZ g2).symm
      have e3:v=v2:=by
       have h4:=BE rfl h2;have hone:=BD h4 v pK;have:v.cells= #[v]:=by cases v<;>first|rfl|(simp [Value.oneCell'] at hone)
       rw[this] at h3;simpa using h3
      subst e2;subst e3;have e4:(y:List u'.den)=l:=hl;subst e4;exact g3
    |_=>trivial
  .cases hr
 .cases hr
end
def LT (tmps:Array pU) (q:Nat×Option TypeId):Sem pU:=match DQ q with
 | .tmp t=>pure (tmps.getD t undef)
 | .cell a t=>do loadVar t (<-asAddr (tmps.getD a undef))
theorem aEq {P:Program}{T:sY}(hT:y5 P T) {B:Nat}{g:Gh}{w:pT}{s:St}{a:Act}{m:pN}(hk:xQ s.np m=true) (hr:w7 B g w s a): ∀{ts:List (Nat×Option TypeId)}{l:List qE},JF T s m ts=some l->
  ∃vs:pP,(ts.mapM (LT a.tmps)).run P w= .ok vs w/\vR (vC g s.np m) w l vs
 |[],l,h=>by
  simp only[JF,aUT] at h;subst h;exact⟨[],by simp,rfl⟩
 |q::ts,l,h=>by
  simp only[JF] at h;obtain⟨s1,l1,e1,e2,rfl⟩: ∃s1 l1,RX T s m q=some s1/\JF T s m ts=some l1/\l=s1::l1:=by
   cases h1:RX T s m q<;>cases h2:JF T s m ts<;>rw[h1,h2] at h<;>simp [aEn] at h
   exact⟨_,_,rfl,rfl,h.symm⟩
  obtain⟨vs,v1,v2⟩:=aEq hT hk hr e2;obtain⟨v,w1,w2⟩: ∃v,(LT a.tmps q).run P w= .ok v w/\rX (vC g s.np m) w s1 v:=by
   obtain⟨t,oty⟩:=q;cases oty with
   |none=>
    simp only[RX,aUT] at e1;subst e1;exact⟨_,by simp [LT,DQ],X9 hk (hr.env t)⟩
   |some ty=>
    simp only[RX] at e1;cases he:XK s.H (s0 T ty) (lk s.env t) with
    |none=>rw[he] at e1;cases e1
    |some e=>
     rw[he] at e1;simp only[aEo,Option.map_some,aUT] at e1;subst e1;obtain⟨ad,v,hv,hl,hs⟩:=aNy hT hr.heap (hr.env t) he;exact⟨v,by simp only[LT,DQ,hv,asAddr,aVe,aVm,aU4,hl],X9 hk hs⟩
  exact⟨v::vs,by simp only[List.mapM_cons,aVe,w1,aU4,v1,aVm],v,vs,rfl,w2,v2⟩
def OA (tmps:Array pU):ResultVar->Sem pU
 | .tmp t=>pure (tmps.getD t undef)
 | .cell a t=>do loadVar t (<-asAddr (tmps.getD a undef))
theorem aNz {P:Program}{fn:Func}{w:pT}{tmps:Array pU}{ts:List (Nat×Option TypeId)}(h:fn.results.toList=ts.map DQ) {vs:pP}(hv:(ts.mapM (LT tmps)).run P w= .ok vs w):(results fn tmps).run P w= .ok (a14 vs) w:=by
 obtain⟨rs,hrs⟩: ∃rs,fn.results=⟨rs⟩:=⟨fn.results.toList,rfl⟩;have hm:rs=ts.map DQ:=by rw[hrs] at h;exact h
 have key:Sem.run P (((ts.map DQ).toArray).mapM (OA tmps)) w=Result.ok vs.toArray w:=by
  rw[List.mapM_toArray,List.mapM_map];have e:OA tmps∘DQ=LT tmps:=by
   funext q;obtain⟨t,o⟩:=q;cases o<;>rfl
  have e2:(fun q=>OA tmps (DQ q))=LT tmps:=e;show Sem.run P (List.mapM (fun q=>OA tmps (DQ q)) ts>>=fun l=>pure l.toArray) w=_;rw[e2,aVe,hv];rfl
 have hu:results fn tmps=(fn.results.mapM (OA tmps) >>=fun vs=>pure (if h:vs.size=1 then vs[0] else .tuple vs)):=by
  unfold results;congr 2
 rw[hu,hrs,hm,aVe];have key2:Sem.run P (Array.mapM (OA tmps) (⟨ts.map DQ⟩:Array ResultVar)) w=Result.ok vs.toArray w:=key;rw[key2];simp only[aU4,aVm]
 match vs with
 |[]=>rfl
 |[v]=>rfl
 |v::u::l=>simp [a14]
theorem aNA {P:Program}{T:sY}(hT:y5 P T) {f:FuncId}{fn:Func}{c:Code}{C:List qE->List qD->Option qK}{ts:List (Nat×Option TypeId)}(hf:P.funcs[f]? =some fn) (hb:fn.body=some c) {N:Nat}(hN:fn.ntmps=N)
  (hcall: ∀args w,(callFunc f args).run P w= .ok (.enter f args) w) (hres:fn.results.toList=ts.map DQ)
  (h: ∀args L r,C args L=some r->(∀p∈r.side,p)->rO L->args.length<=N/\RS (wJ 0 L) args/\RT (wJ 0 L) L/\Ev false P c ⟨rM 0 args,qT 0 L,r6 L,N,r6 L⟩ (aEp T ts r)):xR P f C:=by
 subst hN;refine⟨hcall,fun g w args vals L r hH ha hC hs=> ?_⟩;obtain⟨h1,h2,h3,h4⟩:=h args L r hC hs (aD5 fun i b hb=>⟨i,hH.blk i b (by rw[y6];exact hb)⟩);obtain⟨hr,hent⟩:=aNn hH ha h2 h3 h1;have hsub: ∀b o,yY (vC g 0 (wJ 0 L)) (qT 0 L) b o->yY g (qT 0 L) b o:=fun b o ⟨i,blk,hg,ho⟩=>⟨i,blk,hg,(hent i blk (by rw[<-y6];exact hg)).2.2 b o ho⟩;have hgood:uD (yY (vC g 0 (wJ 0 L)) (qT 0 L)) L (vC g 0 (wJ 0 L)) w (vC g 0 (wJ 0 L)) w (qT 0 L):=by
  refine⟨fun b o h=>⟨h,rfl⟩,Fr.refl _ _ _,fun i blk b o hg ho=> .inr ⟨i,blk,hg,ho⟩,fun _ _ _ h=>h,fun i hi=> ?_,fun i u y us _ hg=>⟨y,us,by rw[<-y6];exact hg⟩,fun _ _ _ _ h=>h⟩;have hL:L[i]? =some L[i]:=by simp
  obtain⟨_,hbk,_⟩:=hent i L[i] hL;have hnd:=(LR h3 L[i] (aVW hi)).2;generalize L[i]=blk at hbk hnd;cases blk with
  |cells t x ts=>obtain⟨p,cs,hp,_⟩:=hbk;exact .inl ⟨p,hp⟩
  |grow e c n=>obtain⟨v,xs,hv,_⟩:=hbk;exact .inr ⟨n,v,hv⟩
  |row e t l n=>obtain⟨_,v,xs,hv,_⟩:=hbk;exact .inr ⟨n,v,hv⟩
  |map k v l=>obtain⟨p,es,cl,hp,_⟩:=hbk;exact .inl ⟨p,hp⟩
  |iter s n=>obtain⟨p,hp,_⟩:=hbk;exact .inl ⟨p,hp⟩
  |dead=>exact absurd rfl hnd
 refine callsIn_wide.1 (callsIn_of_wp_marks (F:=Fence.wide) (n:=0) hf hb trivial (aWF (h4 none rfl _ _ _ _ _ _ _ _ (aVi _) hr hgood (XI L)) fun x a' w' hp=> ?_) rfl);obtain⟨e,g',s',e1,e2,e3,e4,e5⟩:=hp;have wV: ∀m:pN,xQ s'.np m=true->EP (r6 r.H) 0 (s'.keep ⟨[],m⟩).H=qT 0 r.H->JF T s' m ts=some r.ret->LeavesInM Fence.wide 0 P fn a'.tmps (fun e w'=> ∃v' g',e= .returned v'/\EN g w L r g' w' v') a'.defers .returning w':=by
  intro m hk k1 k2;refine aEa a'.defers w' e3 e4 (fun w1 e3 e4=> ?_);obtain⟨l1,l2,l3,_⟩:=a1M e3 e4 e5 ⟨[],m⟩ hk;replace l2:=l2.pad (r6 r.H) 0;rw[k1] at l2;obtain⟨vs,q1,q2⟩:=aEq hT hk e3 k2;have q3:=aNz (P:=P) (w:=w1) (tmps:=a'.tmps) hres q1;refine⟨_,q3,_,_,rfl,⟨fun b o hb=>l2.shut b o hb,by rw[<-k1];exact l1.heap.pad _ _,?_,?_,fun i blk b o hi ho=> ?_,fun i t x us hi=> ?_,fun i t x us u y vs hi hr=> ?_,fun i p hi hp=>l2.J i p hi ((BG XG (O8.2 ⟨rfl,aV4 _,pI⟩)).1.trans hp),fun i n u hi hu=>l2.cur i n u hi ((congrFun (BG XG (O8.2 ⟨rfl,aV4 _,pI⟩)).2 n).trans hu)⟩⟩
  .unfold RI;split
   .rename_i s hs;rw[hs] at q2;obtain⟨v,vs',hv,h5,h6⟩:=q2;rw[hv,show vs'=[] from h6];exact h5
   .rename_i hne;refine⟨_,?_,q2⟩;unfold a14;split
    .rename_i v hv;exfalso;have:=(XH q2).1;cases hq:r.ret with
     |nil=>rw[hq] at this;simp at this
     |cons s l=>cases l with
      |nil=>exact hne s hq
      |cons _ _=>rw[hq] at this;simp at this
    .rfl
  .exact⟨l2.fr.os,l2.fr.tape,l2.fr.output,l2.fr.size,fun b hb hA=>l2.fr.blk b hb (fun o ho=>hA o (hsub b o ho)),fun b o hb hA=>l2.fr.cell b o hb (fun ho=>hA (hsub b o ho)),fun b o hS=>(l2.fr.new b o hS).imp id (Or.imp id (hsub b o)),fun b s hs=>(l2.fr.shape b s hs).imp id fun h o=>hsub b o (h o)⟩
  .exact(l2.perm i blk b o (by rw[y6];exact hi) ho).imp id (hsub b o)
  .obtain⟨j1,⟨p,cs,j2,_⟩,_⟩:=hent i _ hi;have hil:i<L.length:=(aVd.1 hi).1;rw[l2.J i p hil j2,<-j1,j2]
  .have hil:i<L.length:=(aVd.1 hi).1;obtain⟨x',ts',h5⟩:=l2.ty i u y vs hil (by rw[y6];exact hr);rw[hi] at h5;simp only[aUT,qD.cells.injEq] at h5;exact h5.1.symm
 cases x<;>simp only[G2,aUT] at e1
 case normal=>subst e1;obtain⟨k,k0,k1,k2⟩:=e2;exact wV k k0 k1 k2
 case ret=>subst e1;obtain⟨k,k0,k1,k2⟩:=e2;exact wV k k0 k1 k2
 case exit id=>subst e1;exact e2.elim
 all_goals cases e1
open Classical in
noncomputable def rP {V:Type}(p:V->List qE) (q:V->List qD) (R:V->qK) (a:List qE) (L:List qD):Option qK:=
 if h: ∃v,p v=a/\q v=L then some (R h.choose) else none
theorem aNB {V:Type}{p:V->List qE}{q:V->List qD}{R:V->qK}{a:List qE}{L:List qD}{r:qK}(h:rP p q R a L=some r): ∃v,p v=a/\q v=L/\R v=r:=by
 unfold rP at h;split at h
 .rename_i e;exact⟨e.choose,e.choose_spec.1,e.choose_spec.2,aUZ h⟩
 .cases h
theorem rT {V:Type}{p:V->List qE}{q:V->List qD}{R:V->qK}(inj: ∀v v',p v=p v'->q v=q v'->v=v') (v:V):rP p q R (p v) (q v)=some (R v):=by
 have h: ∃u,p u=p v/\q u=q v:=⟨v,rfl,rfl⟩;unfold rP;rw[aW0 h,inj _ v h.choose_spec.1 h.choose_spec.2]
theorem aEr: ∀{l:List Prop},(∀p∈l,p)->rC l
 |[],_=>trivial
 |[p],h=>h p pK
 |p::q::r,h=>⟨h p pK,aEr (l:=q::r) fun x hx=>h x (aU3 _ hx)⟩
def r8 (P:Program) (x:Nat×r5):Prop:=xR P x.1 x.2.C/\∀F,x.2.row=some F->WT P x.1 F
theorem rU {P:Program}{T:sY}{Γ:uL}(hE:rH P T Γ) {f:FuncId}{fn:Func}{c:Code}{V:Type}{p:V->List qE}{q:V->List qD}{R:V->qK}{ps:List PK}{gs:List (Nat×Nat×PK)}{same:pS}{ts:List (Nat×Option TypeId)}(hf:P.funcs[f]? =some fn) (hb:fn.body=some c) {N:Nat}(hN:fn.ntmps=N)
  (hres:fn.results.toList=ts.map DQ) (hcall: ∀args w,(callFunc f args).run P w= .ok (.enter f args) w)
  (h: ∀v,rC (R v).side->rO (q v)->Ev false P c ⟨rM 0 (p v),qT 0 (q v),r6 (q v),N,r6 (q v)⟩ (aEp T ts (R v)))
  (h1: ∀v,Nat.ble (p v).length N=true:=by intro _;rfl)
  (h2: ∀v,RS (wJ 0 (q v)) (p v):=by intro _;repeat (first|exact trivial|refine ⟨rfl,?_⟩))
  (h3: ∀v,RT (wJ 0 (q v)) (q v):=by intro _;repeat (first|exact trivial|refine ⟨rfl,?_⟩)):r8 P (f,⟨ps,rP p q R,gs,same,none⟩):=
 ⟨aNA hE.T hf hb hN hcall hres fun args L r hC hs hr=>by
  obtain⟨v,rfl,rfl,rfl⟩:=aNB hC;exact⟨aWh (h1 v),h2 v,h3 v,h v (aEr hs) hr⟩,fun _ h=>by cases h⟩
abbrev qG (n:Int):Prop:= -9223372036854775808<=n/\n<=9223372036854775807
@[go_sem] def rI:List (Nat×r5)->uL
 |[],_=>none
 |(k,s)::r,f=>if k=f then some s else rI r f
theorem rN {P:Program}:EO P (rI []):=fun _ _ _ h=>by cases h
theorem qP {P:Program}{x:Nat×r5}{r:List (Nat×r5)}(h:r8 P x) (hr:EO P (rI r)):EO P (rI (x::r)):=fun f s hlt hs=>by
 obtain⟨k,y⟩:=x;simp only[rI] at hs;split at hs
 .rename_i e;subst e;cases hs;exact h
 .exact hr f s hlt hs
section
variable {P:Program}{T:sY}{Γ:uL}(E:rH P T Γ) {s:St}{Q:Ex->St->Prop}
include E
theorem qC {id:Nat}{ops:Array Oper}{a:wA}{y:Code}(hq:Ev R P y a.s Q) (h:vB T Γ ops.toList ops.toList (some ⟨s,[],[]⟩)=some a:=by simp only[go_sem];rfl) (hp:rC a.side:=by exact trivial):Ev R P (.seq (.region id ops false) y) s Q:=
 qQ (aEl E h hp hq)
theorem vN {id:Nat}{ops:Array Oper}{a:wA}{y:Code}(hq:Ev R P y a.s Q) (h:vB T Γ ops.toList ops.toList (some ⟨s,[],[]⟩)=some a:=by simp only[go_sem];rfl) (hp:rC a.side:=by exact trivial) (hf:LH ops s.nb a.es.reverse=true:=by kernel_rfl):Ev R P (.seq (.region id ops true) y) s Q:=
 qQ (aEm E h hf hp hq)
theorem rF {id:Nat}{ops:Array Oper}{a:wA}(hq:Q .normal a.s) (h:vB T Γ ops.toList ops.toList (some ⟨s,[],[]⟩)=some a:=by simp only[go_sem];rfl) (hp:rC a.side:=by exact trivial):Ev R P (.region id ops false) s Q:=
 aEl E h hp hq
theorem AQ {id:Nat}{ops:Array Oper}{a:wA}(hq:Q .normal a.s) (h:vB T Γ ops.toList ops.toList (some ⟨s,[],[]⟩)=some a:=by simp only[go_sem];rfl) (hp:rC a.side:=by exact trivial) (hf:LH ops s.nb a.es.reverse=true:=by kernel_rfl):Ev R P (.region id ops true) s Q:=
 aEm E h hf hp hq
end
theorem qV {P:Program}{s:St}{Q:Ex->St->Prop}{c:Operand}{x y:Code}{b b':Bool}{k:pR}{ρ:Type}{X Y r:ρ}(hC:(if b'=true then X else Y)=r) (ht:X=r->b=true->Ev R P x s Q) (hf:Y=r->b=false->Ev R P y s Q)
  (h:uQ s.env c=(.val .bool b,k):=by simp only[go_sem];rfl) (hb:b=b':=by first|rfl|simp):Ev R P (.cond c x y) s Q:=
 aNq h (fun e=>ht (aNv hC (hb▸e)) e) (fun e=>hf (aNw hC (hb▸e)) e)
theorem qY {σ ρ:Type}[Inhabited σ] {x:Option σ}{k:σ->Option ρ}{r:ρ}(h:x.bind k=some r): ∃y,x=some y/\val x=y/\k y=some r:=by
 obtain⟨y,h1,h2⟩:=qO h;exact⟨y,h1,s7 h1,h2⟩
attribute [go_sem] true_and and_true false_and and_false Nat.reduceMul List.nil_append List.cons_append List.append_nil List.toList_toArray Nat.reduceEqDiff reduceIte reduceDIte reduceCtorEq Nat.reduceAdd Nat.reduceSub Int.reduceToNat Nat.reduceLT Nat.reduceLeDiff decide_true decide_false Bool.and_self Bool.or_self Bool.or_false Bool.false_or Bool.and_true Bool.true_and Bool.not_true Bool.not_false
end Go.Proofs.YtkpflnijijccpaaGreatDoor.Vc
namespace Go.Proofs
open Go.RowKit Go.Lib
def Tryz.lays137_ren:Go.Shelf.Ren:=⟨fun|137=>108|217=>149|266=>185|n=>n,fun|9=>9|5=>5|3=>3|n=>n,fun|n=>n⟩
theorem Tryz.lays137:Go.Proofs.Lays.n137 Tryz.prog Tryz.lays137_ren:={
 mixed:=by kernel_rfl
 f137:=Tryz.func108.trans (aVc some pW)
 f217:=Tryz.func149.trans (aVc some pW)
 f266:=Tryz.func185.trans (aVc some pW)
 t3:=Tryz.underlying3
 a3:=Tryz.isAgg3
 z3:=Tryz.sizeOf3
 v3:=Tryz.zeroValue3
 t5:=Tryz.underlying5
 a5:=Tryz.isAgg5
 z5:=Tryz.sizeOf5
 v5:=Tryz.zeroValue5
 t9:=Tryz.underlying9
 a9:=Tryz.isAgg9
 z9:=Tryz.sizeOf9
 v9:=Tryz.zeroValue9}
def Tryz.lays161_ren:Go.Shelf.Ren:=⟨fun|161=>127|231=>117|227=>119|233=>120|235=>122|228=>160|197=>161|151=>162|260=>194|152=>195|137=>108|119=>219|224=>187|225=>186|217=>149|266=>185|n=>n,fun|9=>9|4=>4|3=>3|5=>5|117=>162|116=>161|0=>0|124=>165|105=>191|21=>21|119=>182|46=>175|139=>230|138=>229|n=>n,fun|3=>3|4=>4|n=>n⟩
theorem Tryz.lays161:Go.Proofs.Lays.n161 Tryz.prog Tryz.lays161_ren:={
 mixed:=by kernel_rfl
 f119:=Tryz.func219.trans (aVc some pW)
 f137:=Tryz.func108.trans (aVc some pW)
 f151:=Tryz.func162.trans (aVc some pW)
 f152:=Tryz.func195.trans (aVc some pW)
 f161:=Tryz.func127.trans (aVc some pW)
 f197:=Tryz.func161.trans (aVc some pW)
 f217:=Tryz.func149.trans (aVc some pW)
 f224:=Tryz.func187.trans (aVc some pW)
 f225:=Tryz.func186.trans (aVc some pW)
 f227:=Tryz.func119.trans (aVc some pW)
 f228:=Tryz.func160.trans (aVc some pW)
 f231:=Tryz.func117.trans (aVc some pW)
 f233:=Tryz.func120.trans (aVc some pW)
 f235:=Tryz.func122.trans (aVc some pW)
 f260:=Tryz.func194.trans (aVc some pW)
 f266:=Tryz.func185.trans (aVc some pW)
 t0:=Tryz.underlying0
 a0:=Tryz.isAgg0
 z0:=Tryz.sizeOf0
 v0:=Tryz.zeroValue0
 t3:=Tryz.underlying3
 a3:=Tryz.isAgg3
 z3:=Tryz.sizeOf3
 v3:=Tryz.zeroValue3
 t4:=Tryz.underlying4
 a4:=Tryz.isAgg4
 z4:=Tryz.sizeOf4
 v4:=Tryz.zeroValue4
 t5:=Tryz.underlying5
 a5:=Tryz.isAgg5
 z5:=Tryz.sizeOf5
 v5:=Tryz.zeroValue5
 t9:=Tryz.underlying9
 a9:=Tryz.isAgg9
 z9:=Tryz.sizeOf9
 v9:=Tryz.zeroValue9
 t21:=Tryz.underlying21
 a21:=Tryz.isAgg21
 z21:=Tryz.sizeOf21
 v21:=Tryz.zeroValue21
 t46:=Tryz.underlying175
 a46:=Tryz.isAgg175
 z46:=Tryz.sizeOf175
 v46:=Tryz.zeroValue175
 t105:=Tryz.underlying191
 a105:=Tryz.isAgg191
 z105:=Tryz.sizeOf191
 v105:=Tryz.zeroValue191
 t116:=Tryz.underlying161
 a116:=Tryz.isAgg161
 z116:=Tryz.sizeOf161
 t117:=Tryz.underlying162
 a117:=Tryz.isAgg162
 z117:=Tryz.sizeOf162
 v117:=Tryz.zeroValue162
 t119:=Tryz.underlying182
 a119:=Tryz.isAgg182
 z119:=Tryz.sizeOf182
 t124:=Tryz.underlying165
 a124:=Tryz.isAgg165
 z124:=Tryz.sizeOf165
 v124:=Tryz.zeroValue165
 t138:=Tryz.underlying229
 a138:=Tryz.isAgg229
 z138:=Tryz.sizeOf229
 v138:=Tryz.zeroValue229
 t139:=Tryz.underlying230
 a139:=Tryz.isAgg230
 z139:=Tryz.sizeOf230
 v139:=Tryz.zeroValue230
 g3:=by kernel_rfl
 g4:=by kernel_rfl}
def Tryz.lays190_ren:Go.Shelf.Ren:=⟨fun|190=>88|125=>135|258=>134|128=>177|129=>178|302=>168|303=>169|304=>170|305=>171|306=>172|307=>173|308=>174|309=>175|310=>176|333=>201|329=>202|330=>203|334=>204|335=>205|336=>206|344=>222|n=>n,fun|31=>24|9=>9|3=>3|46=>175|0=>0|51=>205|53=>207|4=>4|183=>199|182=>198|131=>55|5=>5|218=>221|222=>225|228=>250|229=>180|n=>n,fun|n=>n⟩
theorem Tryz.lays190:Go.Proofs.Lays.n190 Tryz.prog Tryz.lays190_ren:={
 mixed:=by kernel_rfl
 f125:=Tryz.func135.trans (aVc some pW)
 f128:=Tryz.func177.trans (aVc some pW)
 f129:=Tryz.func178.trans (aVc some pW)
 f190:=Tryz.func88.trans (aVc some pW)
 f258:=Tryz.func134.trans (aVc some pW)
 f302:=Tryz.func168.trans (aVc some pW)
 f303:=Tryz.func169.trans (aVc some pW)
 f304:=Tryz.func170.trans (aVc some pW)
 f305:=Tryz.func171.trans (aVc some pW)
 f306:=Tryz.func172.trans (aVc some pW)
 f307:=Tryz.func173.trans (aVc some pW)
 f308:=Tryz.func174.trans (aVc some pW)
 f309:=Tryz.func175.trans (aVc some pW)
 f310:=Tryz.func176.trans (aVc some pW)
 f329:=Tryz.func202.trans (aVc some pW)
 f330:=Tryz.func203.trans (aVc some pW)
 f333:=Tryz.func201.trans (aVc some pW)
 f334:=Tryz.func204.trans (aVc some pW)
 f335:=Tryz.func205.trans (aVc some pW)
 f336:=Tryz.func206.trans (aVc some pW)
 f344:=Tryz.func222.trans (aVc some pW)
 t0:=Tryz.underlying0
 a0:=Tryz.isAgg0
 z0:=Tryz.sizeOf0
 v0:=Tryz.zeroValue0
 t3:=Tryz.underlying3
 a3:=Tryz.isAgg3
 z3:=Tryz.sizeOf3
 v3:=Tryz.zeroValue3
 t4:=Tryz.underlying4
 a4:=Tryz.isAgg4
 z4:=Tryz.sizeOf4
 v4:=Tryz.zeroValue4
 t5:=Tryz.underlying5
 a5:=Tryz.isAgg5
 z5:=Tryz.sizeOf5
 v5:=Tryz.zeroValue5
 t9:=Tryz.underlying9
 a9:=Tryz.isAgg9
 z9:=Tryz.sizeOf9
 v9:=Tryz.zeroValue9
 t31:=Tryz.underlying24
 a31:=Tryz.isAgg24
 z31:=Tryz.sizeOf24
 v31:=Tryz.zeroValue24
 t46:=Tryz.underlying175
 a46:=Tryz.isAgg175
 z46:=Tryz.sizeOf175
 v46:=Tryz.zeroValue175
 t51:=Tryz.underlying205
 a51:=Tryz.isAgg205
 z51:=Tryz.sizeOf205
 v51:=Tryz.zeroValue205
 t53:=Tryz.underlying207
 a53:=Tryz.isAgg207
 z53:=Tryz.sizeOf207
 v53:=Tryz.zeroValue207
 t131:=Tryz.underlying55
 a131:=Tryz.isAgg55
 z131:=Tryz.sizeOf55
 v131:=Tryz.zeroValue55
 t182:=Tryz.underlying198
 a182:=Tryz.isAgg198
 z182:=Tryz.sizeOf198
 v182:=Tryz.zeroValue198
 t183:=Tryz.underlying199
 a183:=Tryz.isAgg199
 z183:=Tryz.sizeOf199
 v183:=Tryz.zeroValue199
 t218:=Tryz.underlying221
 a218:=Tryz.isAgg221
 z218:=Tryz.sizeOf221
 v218:=Tryz.zeroValue221
 t222:=Tryz.underlying225
 a222:=Tryz.isAgg225
 z222:=Tryz.sizeOf225
 v222:=Tryz.zeroValue225
 t228:=Tryz.underlying250
 a228:=Tryz.isAgg250
 z228:=Tryz.sizeOf250
 v228:=Tryz.zeroValue250
 t229:=Tryz.underlying180
 a229:=Tryz.isAgg180
 z229:=Tryz.sizeOf180
 v229:=Tryz.zeroValue180}
def Tryz.lays196_ren:Go.Shelf.Ren:=⟨fun|196=>179|259=>207|n=>n,fun|0=>0|3=>3|4=>4|5=>5|9=>9|12=>12|46=>175|53=>207|119=>182|138=>229|139=>230|n=>n,fun|3=>3|4=>4|n=>n⟩
theorem Tryz.lays196:Go.Proofs.Lays.n196 Tryz.prog Tryz.lays196_ren:={
 mixed:=by kernel_rfl
 f196:=Tryz.func179.trans (aVc some pW)
 f259:=Tryz.func207.trans (aVc some pW)
 t0:=Tryz.underlying0
 a0:=Tryz.isAgg0
 z0:=Tryz.sizeOf0
 v0:=Tryz.zeroValue0
 t3:=Tryz.underlying3
 a3:=Tryz.isAgg3
 z3:=Tryz.sizeOf3
 v3:=Tryz.zeroValue3
 t4:=Tryz.underlying4
 a4:=Tryz.isAgg4
 z4:=Tryz.sizeOf4
 v4:=Tryz.zeroValue4
 t5:=Tryz.underlying5
 a5:=Tryz.isAgg5
 z5:=Tryz.sizeOf5
 v5:=Tryz.zeroValue5
 t9:=Tryz.underlying9
 a9:=Tryz.isAgg9
 z9:=Tryz.sizeOf9
 v9:=Tryz.zeroValue9
 t12:=Tryz.underlying12
 a12:=Tryz.isAgg12
 z12:=Tryz.sizeOf12
 v12:=Tryz.zeroValue12
 t46:=Tryz.underlying175
 a46:=Tryz.isAgg175
 z46:=Tryz.sizeOf175
 v46:=Tryz.zeroValue175
 t53:=Tryz.underlying207
 a53:=Tryz.isAgg207
 z53:=Tryz.sizeOf207
 v53:=Tryz.zeroValue207
 t119:=Tryz.underlying182
 a119:=Tryz.isAgg182
 z119:=Tryz.sizeOf182
 t138:=Tryz.underlying229
 a138:=Tryz.isAgg229
 z138:=Tryz.sizeOf229
 v138:=Tryz.zeroValue229
 t139:=Tryz.underlying230
 a139:=Tryz.isAgg230
 z139:=Tryz.sizeOf230
 v139:=Tryz.zeroValue230
 g3:=by kernel_rfl
 g4:=by kernel_rfl}
def Tryz.lays240_ren:Go.Shelf.Ren:=⟨fun|240=>58|276=>94|n=>n,fun|0=>0|4=>4|9=>9|20=>20|70=>71|72=>73|164=>142|37=>22|n=>n,fun|n=>n⟩
theorem Tryz.lays240:Go.Proofs.Lays.n240 Tryz.prog Tryz.lays240_ren:={
 mixed:=by kernel_rfl
 f240:=Tryz.func58.trans (aVc some pW)
 f276:=Tryz.func94.trans (aVc some pW)
 t0:=Tryz.underlying0
 a0:=Tryz.isAgg0
 z0:=Tryz.sizeOf0
 v0:=Tryz.zeroValue0
 t4:=Tryz.underlying4
 a4:=Tryz.isAgg4
 z4:=Tryz.sizeOf4
 v4:=Tryz.zeroValue4
 t9:=Tryz.underlying9
 a9:=Tryz.isAgg9
 z9:=Tryz.sizeOf9
 v9:=Tryz.zeroValue9
 t20:=Tryz.underlying20
 a20:=Tryz.isAgg20
 z20:=Tryz.sizeOf20
 v20:=Tryz.zeroValue20
 t70:=Tryz.underlying71
 a70:=Tryz.isAgg71
 z70:=Tryz.sizeOf71
 v70:=Tryz.zeroValue71
 t72:=Tryz.underlying73
 a72:=Tryz.isAgg73
 z72:=Tryz.sizeOf73
 v72:=Tryz.zeroValue73
 t164:=Tryz.underlying142
 a164:=Tryz.isAgg142
 z164:=Tryz.sizeOf142
 v164:=Tryz.zeroValue142}
theorem Tryz.builderX72:Builder.X72 Tryz.prog Tryz.lays240_ren:={
 sizeBuilder:=by kernel_rfl
 liesBuilder:=by kernel_rfl}
def Tryz.lays169_ren:Go.Shelf.Ren:=⟨fun|169=>31|n=>n,fun|70=>71|9=>9|0=>0|72=>73|37=>22|127=>106|3=>3|5=>5|n=>n,fun|n=>n⟩
theorem Tryz.lays169:Go.Proofs.Lays.n169 Tryz.prog Tryz.lays169_ren:={
 mixed:=by kernel_rfl
 f169:=Tryz.func31.trans (aVc some pW)
 t0:=Tryz.underlying0
 a0:=Tryz.isAgg0
 z0:=Tryz.sizeOf0
 v0:=Tryz.zeroValue0
 t3:=Tryz.underlying3
 a3:=Tryz.isAgg3
 z3:=Tryz.sizeOf3
 v3:=Tryz.zeroValue3
 t9:=Tryz.underlying9
 a9:=Tryz.isAgg9
 z9:=Tryz.sizeOf9
 v9:=Tryz.zeroValue9
 t37:=Tryz.underlying22
 a37:=Tryz.isAgg22
 z37:=Tryz.sizeOf22
 v37:=Tryz.zeroValue22
 t70:=Tryz.underlying71
 a70:=Tryz.isAgg71
 z70:=Tryz.sizeOf71
 v70:=Tryz.zeroValue71
 t72:=Tryz.underlying73
 a72:=Tryz.isAgg73
 z72:=Tryz.sizeOf73
 v72:=Tryz.zeroValue73
 t127:=Tryz.underlying106
 a127:=Tryz.isAgg106
 z127:=Tryz.sizeOf106
 v127:=Tryz.zeroValue106}
theorem Tryz.builderExtra:Builder.Extra Tryz.prog Tryz.lays169_ren:={
 sizeBuilder:=by kernel_rfl
 liesBuilder:=by kernel_rfl
 t5:=Tryz.underlying5
 a5:=Tryz.isAgg5
 z5:=Tryz.sizeOf5
 v5:=Tryz.zeroValue5
 infoByte:=by kernel_rfl
 cellsByte:=by kernel_rfl
 sizeByte:=by kernel_rfl
 neB5:=by decide}
end Go.Proofs
namespace Go.Proofs.YtkpflnijijccpaaGreatDoor
open Vc Go.RowKit
theorem aNC {g:Gh}{w w':pT}(hH:sM g w (qT 0 [])) (hb:Below w.heap.size w w'):sM g w' (qT 0 []):=
 ⟨fun _ _ h=>(by cases h),fun _ _ _ _ _ _ _ h=>(by cases h),fun b o h=>aVz (hH.sl b o h) hb.size,⟨KX hH.tab.1 hb.size fun b h=>hb.block b (aVz h hH.tab.1.1),fun _ _ _ _ h=>(by cases h)⟩⟩
theorem JG {P:Program}{f:FuncId}{C:List qE->List qD->Option qK}(hen: ∀args w,(callFunc f args).run P w= .ok (.enter f args) w)
  (h: ∀(g:Gh) (w:pT) (args:List qE) (vals:pP) (L:List qD) (r:qK),DH w->vR g w args vals->C args L=some r->(∀p∈r.side,p)->
   L=[]/\r.H=[]/\Calls P f vals.toArray w (fun e w'=> ∃v,e= .returned v/\Below w.heap.size w w'/\RI g w' r.ret v)):xR P f C:=by
 refine⟨hen,fun g w args vals L r hH ha hC hs=> ?_⟩;obtain⟨rfl,hr,hc⟩:=h g w args vals L r hH.tab.1 ha hC hs;refine hc.mono fun e w' ⟨v,he,hb,hv⟩=>⟨v,g,he,⟨fun b o h=>⟨h,hb.cell (p:=⟨b,o,none⟩) (hH.sl b o h)⟩,by rw[hr];exact aNC hH hb,hv,⟨hb.os,hb.tape,hb.output,hb.size,fun b h _=>hb.block b h,fun b o h _=>⟨hb.cell (p:=⟨b,o,none⟩) h,hb.frozen (p:=⟨b,o,none⟩) h⟩,fun b o h=> .inl h,fun b s h=> .inl ((CX (hb.block b (CW h))).trans h)⟩,(fun i blk b o h=>by rw[hr] at h;cases h),(fun i t x ts h=>by cases h),(fun i t x ts u y us h=>by cases h),(fun _ _ _ h=>h),(fun _ _ _ _ h=>h)⟩⟩
theorem XL {P:Program}{f:FuncId}{vals:Array pU}{w:pT}{Q:Ending->Prop}(h:Calls P f vals w fun e w'=>Q e/\w'=w):Calls P f vals w fun e w'=>Q e/\Below w.heap.size w w':=
 h.mono fun e w' ⟨h1,h2⟩=>⟨h1,by rw[h2];exact Below.refl _ _⟩
def vD (s:pF) (c:Int):Int:=Lib.indexByte s (Int.toNat c).toUInt8
@[go_sem] def RY:List qE->List qD->Option qK
 |[(.val .str O,none),(.val (.int .u8) Z,none)],[]=>some ⟨[],[(.val (.int .i64) (vD O Z),none)],[]⟩
 |_,_=>none
theorem a2b:xR Tryz.prog 108 RY:=by
 refine JG (fun _ _=>rfl) fun g w args vals L r hT ha hC hs=> ?_;unfold RY at hC;split at hC
 .rename_i s c;cases hC;obtain⟨va,_,rfl,ra,vb,_,rfl,rb,hv⟩:=ha;obtain rfl:=xC ra.1;obtain rfl:=x5 rb.1;cases hv;exact⟨rfl,rfl,(XL (Any.strings_IndexByte Tryz.lays137 ⟨List.toArray s⟩ c w)).mono fun e w' ⟨he,hb⟩=>⟨_,he,hb,x6 _ _ _ _,trivial⟩⟩
 .cases hC
@[go_sem] def RZ:List qE->List qD->Option qK
 |[(.val .str O,none),(.val .str Z,none)],[]=>some ⟨[(List.all Z fun b=>decide (b.toNat<128))=true/\List.length Z<4294967281],[(.val .str (Lib.trimLeftS O Z),none)],[]⟩
 |_,_=>none
theorem a2c:xR Tryz.prog 127 RZ:=by
 refine JG (fun _ _=>rfl) fun g w args vals L r hT ha hC hs=> ?_;unfold RZ at hC;split at hC
 .rename_i s c;cases hC;obtain⟨h1,h2⟩:=hs _ aU2;obtain⟨va,_,rfl,ra,vb,_,rfl,rb,hv⟩:=ha;obtain rfl:=xC ra.1;obtain rfl:=xC rb.1;cases hv;exact⟨rfl,rfl,(Any.strings_TrimLeft_laid Tryz.lays161 pW ⟨List.toArray s⟩ ⟨List.toArray c⟩ w h2 (ascii_of_all h1)).mono fun e w' ⟨he,hb⟩=>⟨_,he,hb,BX _ _ _,trivial⟩⟩
 .cases hC
@[go_sem] def S0:List qE->List qD->Option qK
 |[(.val .str O,none)],[]=>some ⟨[List.length O<=9223372036854775807],[(.val .bool (Lib.validD O),none)],[]⟩
 |_,_=>none
theorem a2d:xR Tryz.prog 179 S0:=by
 refine JG (fun _ _=>rfl) fun g w args vals L r hT ha hC hs=> ?_;unfold S0 at hC;split at hC
 .rename_i s;cases hC;have h1:=hs _ aU2;obtain⟨va,_,rfl,ra,hv⟩:=ha;obtain rfl:=xC ra.1;cases hv;exact⟨rfl,rfl,(Any.utf8_ValidString Tryz.lays196 ⟨List.toArray s⟩ w h1 hT.2.1).mono fun e w' ⟨he,hb⟩=>⟨_,he,hb,xD _ _ _,trivial⟩⟩
 .cases hC
@[go_sem] def XM:List qE->List qD->Option qK:=fun _ _=>none
def sO (l:pG):pG:=l.mergeSort fun x y=>decide (x<=y)
@[go_sem] def XN:(t:Ty)->List t.den->Option (List t.den)
 | .str,l=>some (sO l)
 |_,_=>none
theorem a2e {g:Gh}{w:pT}: ∀{l:pG}{xs:pP},uI (Rd g w .str) 1 l xs->xs=l.map Go.Proofs.encStr
 |[],_,h=>h
 |_::_,_,⟨c1,c2,e,_,h2,h3⟩=>by rw[e,show c1=_ from h2,a2e h3];rfl
theorem XO {g:Gh}{w:pT}: ∀(l:pG),uI (Rd g w .str) 1 l (l.map Go.Proofs.encStr)
 |[]=>rfl
 |x::l=>⟨[.string ⟨x.toArray⟩],_,rfl,rfl,rfl,XO l⟩
theorem aEs (s:pG) (cur:Array pU) (h:s.length<=cur.size):(Go.Sort.putCells Go.Proofs.encStr 0 s.toArray cur).toList.take s.length=s.map Go.Proofs.encStr:=by
 apply List.ext_getElem
 .simp [Go.Sort.putCells];omega
 .intro i h1 h2;have hi:i<s.length:=by simpa using h2
  simp only[Go.Sort.putCells,List.getElem_take,Array.getElem_toList,Array.getElem_mapIdx,List.getElem_map];rw[aUU (by simp;exact hi)];simp [hi]
theorem a2f:xR Tryz.prog 88 XM/\∀F,some XN=some F->WT Tryz.prog 88 F:=by
 refine⟨⟨fun _ _=>rfl,fun g w args vals L r _ _ hC _=>by cases hC⟩,fun F hF=> ?_⟩;cases hF;intro g w e t l l' v n xs hT hown hF hl hn hf;cases t with
 |str=>
  have hf:sO l=l':=aUZ hf;subst hf;subst hl;have hlen:(sO l).length=l.length:=by simp [sO]
  obtain⟨hx,⟨rfl,h0⟩ |⟨b,cap,cur,rfl,hb0,hbk,hnc,hcm,hcs,htk⟩⟩:=hown
  .obtain rfl:l=[]:=aWt.1 h0;refine(Any.slices_Sort_string_none Tryz.lays190 none 0 w).mono ?_;rintro en w' ⟨rfl,rfl⟩;exact⟨rfl,hlen,[],⟨rfl,.inl ⟨rfl,rfl⟩⟩,by simp [sO,uI],⟨rfl,rfl,rfl,aVi _,fun _ _ _=>rfl⟩⟩
  .have hxs:=a2e hF;subst hxs;have hc1:(Ty.str).cells=1:=rfl;rw[hc1,aWG] at hcs htk;have hbl:b<w.heap.size:=by
    rcases aV8 b w.heap.size with h|h
    .exact h
    .rw[Array.getElem?_eq_none h] at hbk;cases hbk
   have hH:Go.Sort.Holds Go.Proofs.encStr w b 0 l.toArray:=by
    intro j hj;have hj':j<l.length:=by simpa using hj
    refine⟨?_,Lib.frozen_of_heap hbk _⟩;rw[Lib.cell_of_heap hbk,aVx];have h2:(cur.toList.take l.length)[j]? =(l.map Go.Proofs.encStr)[j]? :=by rw[htk]
    rw[aWa hj',aV3] at h2;rw[h2];simp [hj']
   refine(Any.slices_Sort_string Tryz.lays190 b 0 cap l w hH hbl hn).mono ?_;rintro en w' ⟨rfl,m,os,rfl⟩;have hsz:(sO l).length<=cur.size:=by rw[hlen,hcs];exact hnc
   have hnew:(Go.Sort.grow (Go.Sort.putRow Go.Proofs.encStr (Go.Sort.ahead w m) b 0 (sO l).toArray) os).heap[b]? =some (.cells (Go.Sort.putCells Go.Proofs.encStr 0 (sO l).toArray cur) e (0,0)):=by
    rw[Go.Sort.heap_grow_old _ _ (by simpa using hbl)];simp [Go.Sort.putRow,Go.Sort.mapBlock,aWb,hbk,Go.Sort.onCells]
   refine⟨rfl,hlen,(sO l).map Go.Proofs.encStr,⟨by simp [hlen,hc1],.inr ⟨b,cap,_,rfl,hb0,hnew,hnc,hcm,?_,?_⟩⟩,XO _,⟨rfl,rfl,rfl,by simp,fun k hk hne=> ?_⟩⟩
   .rw[hc1,aWG];simpa[Go.Sort.putCells] using hcs
   .rw[hc1,aWG,<-hlen];exact aEs _ _ hsz
   .rw[Go.Sort.heap_grow_old _ _ (by simpa using hk)];have hkb:b≠k:=fun h=>hne (by rw[h];rfl);simp [Go.Sort.putRow,Go.Sort.mapBlock,aWb,hkb]
 |_=>cases hf
def z6 (s c:pF):Int:=Lib.index s c
@[go_sem] def S1:List qE->List qD->Option qK
 |[(.val .ref (some (0,0)),none)],[.cells (.pair .mref (.pair (.list (.int .u8)) .unit)) ((some (0,0)),O) [(1,1)],.grow Z 1 aA]=>some ⟨[aA=List.length O.1],[],[.cells (.pair .mref (.pair (.list (.int .u8)) .unit)) ((some (0,0)),O) [(1,1)],.grow Z 1 aA]⟩
 |_,_=>none
theorem aND {g:Gh}{w:pT}{L:List qD}{e:qU}{w':pT}{u v:pU}{r:qK}(hE:sH g w (qT 0 L) e g w' u)
  (hH: ∀i,qH (qT 0 r.H) i=qH (qZ e.upd (qT 0 L)) i) (hin: ∀i,i∈qJ e.upd->i<L.length) (hlen:r.H.length=L.length)
  (hp: ∀i blk b o,r.H[i]? =some blk->sG g i blk b o->w.heap.size<=b\/yY g (qT 0 L) b o)
  (hty: ∀(i:Nat) t x ts u y us,L[i]? =some (.cells t x ts)->r.H[i]? =some (.cells u y us)->u=t)
  (hret:RI g w' r.ret v):EN g w L r g w' v:=
 ⟨fun b o h=>⟨h,hE.le.cell b o h⟩,hE.heap.ext hH,hret,hE.fr.mono fun b o ⟨i,blk,_,h1,h2⟩=>⟨i,blk,h1,h2⟩,hp,fun _ _ _ _ _=>rfl,hty,fun _ _ _ h=>h,fun _ _ _ _ h=>h⟩
theorem aNE {P:Program}{ρ:Go.Shelf.Ren}(L:Lays.n240 P ρ) (X:Builder.X72 P ρ) {e:TypeId}(b:Nat) (w:pT) (h0:w.cell? ⟨b,0,none⟩=some (.pointer none)) (hsh:w.shape? b=some (e,2)) (hl:liesAt P P.depth e (2/P.cellsOf e) 0 (ρ.t 72) 1=true) (hfz:w.frozen? ⟨b,0,none⟩=false):
  Calls P (ρ.f 240) #[.pointer (some ⟨b,0,none⟩)] w fun en w'=>en= .returned (.tuple #[])/\w'=w.setCell ⟨b,0,none⟩ (.pointer (some ⟨b,0,none⟩)):=by
 obtain⟨j,hj,hjs⟩:=aU1.1 X.sizeBuilder;have mixed:=L.mixed;have t72:=L.t72;have a72:=L.a72;have z72:=L.z72;have v72:=L.v72;have u72:=aVh L.t72;have t70:=L.t70;have a70:=L.a70;have z70:=L.z70;have v70:=L.v70;have u70:=aVh L.t70;have t9:=L.t9;have a9:=L.a9;have z9:=L.z9;have v9:=L.v9;have u9:=aVh L.t9;have t4:=L.t4;have a4:=L.a4;have z4:=L.z4;have v4:=L.v4;have u4:=aVh L.t4;have t164:=L.t164;have a164:=L.a164;have z164:=L.z164;have v164:=L.v164;have u164:=aVh L.t164
 go_enter L.f240,Body.n240_ntmps ρ
 go_wp2
 rw[Lib.run_to_unsafe w ⟨b,0,none⟩ L.t70 L.t164 hj (by rw[hjs];decide) hsh (Nat.zero_lt_succ 1)];simp only[Result.andThen];rw[Oper.upon_value]
 go_wp2
 rw[run_callFunc_extern L.f276 pW pW pW (e:=Extern.AbiNoEscape.same) pW];rw[Lib.run_noEscape];simp only[Result.andThen];rw[Oper.upon_value]
 go_wp2
 rw[Lib.run_from_unsafe w ⟨b,0,none⟩ L.t164 L.t70 hj hsh hl];simp only[Result.andThen];rw[Oper.upon_value]
 go_wp2
 go_end0
 exact⟨rfl,rfl⟩
theorem a2g:xR Tryz.prog 58 S1:=by
 refine⟨fun _ _=>rfl,fun g w args vals L r hH ha hC hs=> ?_⟩;unfold S1 at hC;split at hC
 .rename_i O Z aA;cases hC;obtain⟨va,_,rfl,ra,hv⟩:=ha;cases hv;have hg0:qH (qT 0 [qD.cells (.pair .mref (.pair (.list (.int .u8)) .unit)) ((some (0,0)),O) [(1,1)],.grow Z 1 aA]) 0=some (.cells (.pair .mref (.pair (.list (.int .u8)) .unit)) ((some (0,0)),O) [(1,1)]):=rfl;obtain⟨p,cs,hJ,hR,hra,hth,hns,htk⟩:=hH.blk 0 _ hg0;obtain⟨c1,c2,rfl,hR1,hR2⟩:=hR;obtain⟨p',hJ',⟨hp0,eb,heb,hk3⟩,hc1⟩:=hR1;rw[hJ] at hJ';obtain rfl:=aUZ hJ';obtain⟨b,o,k⟩:=p;have ho:o=0:=by simpa using hp0
  subst ho;have hlies:liesAt Tryz.prog Tryz.prog.depth eb (2/Tryz.prog.cellsOf eb) 0 73 1=true:=by
   unfold a0r at heb;split at heb
   .rename_i h;subst h;kernel_rfl
   .split at heb
    .rename_i h;subst h;kernel_rfl
    .cases heb
  have hva:va= .pointer (some ⟨b,0,none⟩):=by
   obtain⟨q,hq,e⟩:=A7 ra.1;rw[hJ] at hq;cases hq;exact e
  subst hva;have hsh:w.shape? b=some (eb,2):=hth.2 pJ _ hk3;rcases hc1 with rfl|rfl
  .have h0:w.cell? ⟨b,0,none⟩=some (.pointer none)/\w.frozen? ⟨b,0,none⟩=false:=⟨hra 0 _ rfl,(hth.1 0 pJ).2⟩;refine(aNE Tryz.lays240 Tryz.builderX72 b w h0.1 hsh hlies h0.2).mono ?_;rintro en w' ⟨rfl,rfl⟩;refine⟨_,g,rfl,?_⟩;have hE:=sH.store (side:=[]) (rds:=[]) hH (i:=0) (t:= .mref) (y:=some (0,0)) (off:=0) (k:=none) (p:=⟨b,0,k⟩) (cy:=[.pointer (some ⟨b,0,none⟩)]) (v:= .pointer (some ⟨b,0,none⟩)) hg0 hJ (z:=((some (0,0)),O)) pX ⟨_,hJ,⟨rfl,_,heb,hk3⟩,.inr rfl⟩ trivial (fun _ _ h=>by cases h) (fun _=>rfl);refine aND hE.1 ?_ ?_ rfl ?_ ?_ ?_
   .intro i
    match i with
    |0=>rfl
    |1=>rfl
    |i+2=>rfl
   .intro i hi;simp [qJ] at hi;subst hi;exact Nat.zero_lt_succ _
   .intro i blk b o hi ho;exact .inr ⟨i,blk,by rw[WS];simpa using hi,ho⟩
   .intro i t x ts u y us h1 h2;rw[h1] at h2;cases h2;rfl
   .exact⟨[],rfl,rfl⟩
  .have h0:w.cell? ⟨b,0,none⟩=some (.pointer (some ⟨b,0,none⟩)):=hra 0 _ rfl;refine(Any.Builder_copyCheck_used Tryz.lays240 Tryz.builderX72 b w h0).mono ?_;rintro en w' ⟨rfl,rfl⟩;refine⟨_,g,rfl,⟨fun b o h=>⟨h,rfl⟩,hH,⟨[],rfl,rfl⟩,Fr.refl _ _ _,?_,fun _ _ _ _ _=>rfl,?_,fun _ _ _ h=>h,fun _ _ _ _ h=>h⟩⟩
   .intro i blk b o hi ho;exact .inr ⟨i,blk,by rw[WS];simpa using hi,ho⟩
   .intro i t x ts u y us h1 h2;rw[h1] at h2;cases h2;rfl
 .cases hC
theorem aEt {P:Program}(w:pT): ∀(l:pO) (a:Addr) (acc:ByteArray),(∀j x,l[j]? =some x->w.cell? (a.add j)=some (.int .u8 x))->
  (loadBytes a acc l.length).run P w= .ok ⟨acc.data++(uC l).toArray⟩ w
 |[],a,acc,_=>by simp [loadBytes,uC]
 |x::l,a,acc,h=>by
  have h0:w.cell? a=some (.int .u8 x):=by
   have:=h 0 x rfl;simpa[Addr.add] using this
  have ih:=aEt (P:=P) w l (a.add 1) (acc.push (UInt8.ofNat x.toNat)) (fun j y hy=>by
   have:=h (j+1) y (by simpa using hy);have e:(a.add 1).add j=a.add (j+1):=by
    unfold Addr.add;by_cases hj:j=0
    .subst hj;simp
    .simp [hj];omega
   rw[e];exact this)
  have hx:x.toNat.toUInt8=UInt8.ofNat x.toNat:=rfl;simp only[aUY,loadBytes,aVe,run_load,h0,Result.andThen,hx];rw[ih];congr 1;apply ByteArray.ext;simp [ByteArray.push,uC]
theorem aNF {P:Program}(w:pT) (pt it ty e:TypeId) (hp:P.underlying pt=some (.pointer e)) (hc:P.cellsOf e=1) (g cells:Nat) (hsh:w.shape? g=some (e,cells)) (l:pO) (h0:l≠[]) (hn:l.length<=cells) (h63:l.length<=9223372036854775807)
  (hcell: ∀j x,l[j]? =some x->w.cell? ((⟨g,0,none⟩:Addr).add j)=some (.int .u8 x)):
  (Builtin.unsafeString_ #[pt,it] ty #[.pointer (some ⟨g,0,none⟩),.int .i64 l.length]).run P w= .ok (.string ⟨(uC l).toArray⟩) (w.freeze ⟨g,0,none⟩ l.length):=by
 have hl:l.length≠0:=by simpa using h0
 have hlb:=aEt (P:=P) w l ⟨g,0,none⟩ .empty hcell;have hlies:=Lib.liesAt_bytes (P:=P) hc (cells/P.cellsOf e) l.length (by rw[hc];simpa using hn);have h63': ¬(9223372036854775807:Int)<(l.length:Int):=by omega
 have hdef:Builtin.unsafeString_ #[pt,it] ty #[.pointer (some ⟨g,0,none⟩),.int .i64 l.length]=
   (do
    let n<-asInt (.int .i64 l.length)
    if n<0 then runtimePanic (.error "unsafe.String: len out of range")
    if n>IntKind.i64.max then unsupported (.unsafePointer "String: a length above the largest int")
    if n=0 then pure (.string .empty)
    else if<-variablesAt ⟨g,0,none⟩ (<-elemOf pt) n.toNat then do
     let s<-loadBytes ⟨g,0,none⟩ .empty n.toNat
     freeze ⟨g,0,none⟩ n.toNat
     pure (.string s)
    else unsupported (.unsafePointer "String: not so many bytes at ptr")):=rfl
 rw[hdef];have hmax:IntKind.i64.max=9223372036854775807:=rfl;have hneg: ¬(l.length:Int)<0:=by omega
 simp [asInt,asIntOf,hmax,h63',hneg,hl,variablesAt,hsh,elemOf,aVh hp,hlies,hlb]
theorem a2h {P:Program}{ρ:Go.Shelf.Ren}(L:Lays.n169 P ρ) (X:Builder.Extra P ρ) (b n cap:Nat) (a q:Option Addr) (s:ByteArray) (w w2:pT)
  (c1:w.drew.cell? ⟨b,1,none⟩=some (.slice a n cap)) (hSD:(Builtin.unsafeSliceData_ #[(ρ.t 37)] (ρ.t 127) #[.slice a n cap]).run P w.drew= .ok (.pointer q) w.drew)
  (hUS:(Builtin.unsafeString_ #[(ρ.t 127),(ρ.t 3)] (ρ.t 9) #[.pointer q,.int .i64 n]).run P w.drew= .ok (.string s) w2):
  Calls P (ρ.f 169) #[.pointer (some ⟨b,0,none⟩)] w fun e w'=>e= .returned (.string s)/\w'=w2:=by
 have mixed:=L.mixed;have t72:=L.t72;have a72:=L.a72;have z72:=L.z72;have v72:=L.v72;have u72:=aVh L.t72;have t70:=L.t70;have a70:=L.a70;have z70:=L.z70;have v70:=L.v70;have u70:=aVh L.t70;have t37:=L.t37;have a37:=L.a37;have z37:=L.z37;have v37:=L.v37;have u37:=aVh L.t37;have t127:=L.t127;have a127:=L.a127;have z127:=L.z127;have v127:=L.v127;have u127:=aVh L.t127;have t3:=L.t3;have a3:=L.a3;have z3:=L.z3;have v3:=L.v3;have u3:=aVh L.t3;have t9:=L.t9;have a9:=L.a9;have z9:=L.z9;have v9:=L.v9;have u9:=aVh L.t9;have t5:=X.t5;have a5:=X.a5;have z5:=X.z5;have v5:=X.v5;have u5:=aVh X.t5
 go_enter L.f169,Body.n169_ntmps ρ
 go_wp2
 go_region_o
 all_goals (go_wp2;go_ret;exact⟨rfl,rfl⟩)
theorem aNG {P:Program}{ρ:Go.Shelf.Ren}(L:Lays.n169 P ρ) (X:Builder.Extra P ρ) (b g:Nat) (cur:Array pU) (w:pT) (hlt:b<w.heap.size)
  (c1:w.drew.cell? ⟨b,1,none⟩=some (.slice (some ⟨g,0,none⟩) 0 0)) (hg:w.drew.heap[g]? =some (.cells cur (ρ.t 5) (0,0))):
  Calls P (ρ.f 169) #[.pointer (some ⟨b,0,none⟩)] w fun e w'=>e= .returned (.string ⟨#[]⟩)/\w'=w.drew.alloc (.view ⟨g,0,none⟩ (ρ.t 5)):=by
 have hUS:=Any.unsafeString_none L X;have hSD:(Builtin.unsafeSliceData_ #[(ρ.t 37)] (ρ.t 127) #[.slice (some ⟨g,0,none⟩) 0 0]).run P w.drew= .ok (.pointer (some ⟨w.drew.heap.size,0,none⟩)) (w.drew.alloc (.view ⟨g,0,none⟩ (ρ.t 5))):=
  Lib.run_unsafeSliceData_zero w.drew _ _ (ρ.t 5) L.t127 ⟨g,0,none⟩ 0 ((ρ.t 5),cur.size) (by simp [World.shape?,hg])
 have c2:(w.drew.alloc (.view ⟨g,0,none⟩ (ρ.t 5))).cell? ⟨b,1,none⟩=some (.slice (some ⟨g,0,none⟩) 0 0):=
  (aVl (a:=⟨b,1,none⟩) (Lib.alloc_old w.drew _ b hlt)).trans c1
 have c3:(w.alloc (.view ⟨g,0,none⟩ (ρ.t 5))).drew.cell? ⟨b,1,none⟩=some (.slice (some ⟨g,0,none⟩) 0 0):=c2;have c0:w.cell? ⟨b,1,none⟩=some (.slice (some ⟨g,0,none⟩) 0 0):=c1;have mixed:=L.mixed;have t72:=L.t72;have a72:=L.a72;have z72:=L.z72;have v72:=L.v72;have u72:=aVh L.t72;have t70:=L.t70;have a70:=L.a70;have z70:=L.z70;have v70:=L.v70;have u70:=aVh L.t70;have t37:=L.t37;have a37:=L.a37;have z37:=L.z37;have v37:=L.v37;have u37:=aVh L.t37;have t127:=L.t127;have a127:=L.a127;have z127:=L.z127;have v127:=L.v127;have u127:=aVh L.t127;have t3:=L.t3;have a3:=L.a3;have z3:=L.z3;have v3:=L.v3;have u3:=aVh L.t3;have t9:=L.t9;have a9:=L.a9;have z9:=L.z9;have v9:=L.v9;have u9:=aVh L.t9;have t5:=X.t5;have a5:=X.a5;have z5:=X.z5;have v5:=X.v5;have u5:=aVh X.t5
 go_enter L.f169,Body.n169_ntmps ρ
 go_wp2
 go_region_o
 all_goals (go_wp2;go_ret;exact⟨rfl,rfl⟩)
@[go_sem] def S2:List qE->List qD->Option qK
 |[(.val .ref (some (0,0)),none)],[.cells (.pair .mref (.pair (.list (.int .u8)) .unit)) ((some (0,0)),O) [(1,1)],.grow 5 1 Z]=>some ⟨[Z=List.length O.1],[(.val .str (uC O.1),none)],[.cells (.pair .mref (.pair (.list (.int .u8)) .unit)) ((some (0,0)),O) [],.dead]⟩
 |_,_=>none
theorem a2i {g:Gh}{w w':pT}{m:pQ}{b:(Ty.pair (.list (.int .u8)) .unit).den}{e n:Nat}{s:pF}{sd:List Prop}(hH:sM g w (qT 0 [qD.cells (.pair .mref (.pair (.list (.int .u8)) .unit)) (m,b) [(1,1)],.grow e 1 n]))
  (hos:w'.os=w.os) (htape:w'.tape=w.tape) (hout:w'.output=w.output) (hsz:w.heap.size<=w'.heap.size)
  (hcell: ∀b o,b<w.heap.size->w'.cell? ⟨b,o,none⟩=w.cell? ⟨b,o,none⟩) (hshape: ∀b s,w.shape? b=some s->w'.shape? b=some s)
  (hblk: ∀b,b<w.heap.size->(∀o,¬sG g 1 (.grow e 1 n) b o)->w'.heap[b]? =w.heap[b]?):
  EN g w [qD.cells (.pair .mref (.pair (.list (.int .u8)) .unit)) (m,b) [(1,1)],.grow e 1 n] ⟨sd,[(.val .str s,none)],[.cells (.pair .mref (.pair (.list (.int .u8)) .unit)) (m,b) [],.dead]⟩ g w' (.string ⟨s.toArray⟩):=by
 have hg0:qH (qT 0 [qD.cells (.pair .mref (.pair (.list (.int .u8)) .unit)) (m,b) [(1,1)],.grow e 1 n]) 0=some (.cells (.pair .mref (.pair (.list (.int .u8)) .unit)) (m,b) [(1,1)]):=rfl;have hg1:qH (qT 0 [qD.cells (.pair .mref (.pair (.list (.int .u8)) .unit)) (m,b) [(1,1)],.grow e 1 n]) 1=some (.grow e 1 n):=rfl;have hle:Le g w g w':=⟨fun _ _ h=>h,fun b o h=>hcell b o (hH.sl b o h),fun _ _ h=>h,fun _ _ _ h=>h⟩;have hno: ∀c o,sG g 0 (.cells (.pair .mref (.pair (.list (.int .u8)) .unit)) (m,b) [(1,1)]) c o->∀o',¬sG g 1 (.grow e 1 n) c o':=fun c o h o' h'=>by
  obtain⟨v,hv,hb⟩:=h';exact hH.dis 0 1 _ _ c o pJ hg0 hg1 h ⟨v,hv,hb⟩
 obtain⟨p,cs,hJ,hR,hra,hth,hns,htk⟩:=hH.blk 0 _ hg0;have hown0: ∀j,j<2->sG g 0 (.cells (.pair .mref (.pair (.list (.int .u8)) .unit)) (m,b) [(1,1)]) p.1 (p.2+j):=fun j hj=>⟨p,hJ,rfl,Nat.le_add_right _ _,Nat.add_lt_add_left hj _⟩;have hpl:p.1<w.heap.size:=NR (hH.blk 0 _ hg0) (hown0 0 pJ);have hpb:w'.heap[p.1]? =w.heap[p.1]? :=hblk p.1 hpl (hno p.1 _ (hown0 0 pJ));have hbk0:AM g w' 0 (.cells (.pair .mref (.pair (.list (.int .u8)) .unit)) (m,b) []):=
  ⟨p,cs,hJ,y4 hle hR,fun j v hj=>(hcell _ _ hpl).trans (hra j v hj),⟨fun j hj=>by
   have h1:=hth.1 j hj;rw[hcell _ _ hpl];exact⟨h1.1,(aVO (a:=⟨p.1,p.2+j,none⟩) hpb).trans h1.2⟩,fun h s hs=>hshape _ _ (hth.2 h s hs)⟩,hns,fun _ _ h=>by cases h⟩
 refine⟨fun b o h=>⟨h,hcell b o (hH.sl b o h)⟩,?_,(show rX g w' (.val .str s,none) (.string ⟨s.toArray⟩) from⟨BX _ _ _,trivial⟩),⟨hos,htape,hout,hsz,?_,?_,fun _ _ h=> .inl h,fun b s h=> .inl (hshape b s h)⟩,?_,fun _ _ _ _ _=>rfl,?_,fun _ _ _ h=>h,fun _ _ _ _ h=>h⟩
 .refine⟨fun i blk h=> ?_,fun i j bi bj c o hij hi hj hoi hoj=> ?_,fun b o h=>aVz (hH.sl b o h) hsz,KX hH.tab.1 hsz (fun c hc=>hblk c (aVz hc hH.tab.1.1) fun o ho=>absurd (hH.tab.2 1 _ c o hg1 ho) pI),fun i blk c o h ho=> ?_⟩
  .match i,h with
   |0,h=>cases h;exact hbk0
   |1,h=>cases h;trivial
   |i+2,h=>simp [qT,qH] at h
  .match i,j,hi,hj with
   |0,0,_,_=>exact hij rfl
   |0,1,_,hj=>cases hj;exact hoj
   |1,_,hi,_=>cases hi;exact hoi
   |0,j+2,_,hj=>simp [qT,qH] at hj
   |i+2,_,hi,_=>simp [qT,qH] at hi
  .match i,h with
   |0,h=>cases h;exact hH.tab.2 0 _ c o hg0 ho
   |1,h=>cases h;exact ho.elim
   |i+2,h=>simp [qT,qH] at h
 .intro c hc hn;exact hblk c hc fun o ho=>hn o ⟨1,_,hg1,ho⟩
 .intro c o hc hn;exact⟨hcell c o hc,aVO (a:=⟨c,o,none⟩) (hblk c hc fun o' ho=>hn ⟨1,_,hg1,by obtain⟨v,hv,hb⟩:=ho;exact⟨v,hv,hb⟩⟩)⟩
 .intro i blk c o hi ho
  match i,hi with
  |0,hi=>cases hi;exact .inr ⟨0,_,hg0,ho⟩
  |1,hi=>cases hi;exact ho.elim
  |i+2,hi=>simp at hi
 .intro i t x ts u y us h1 h2
  match i,h1,h2 with
  |0,h1,h2=>cases h1;cases h2;rfl
  |1,h1,_=>cases h1
  |i+2,h1,_=>simp at h1
theorem aNH (w:pT) (a p:Addr) (n:Nat):(w.freeze a n).cell? p=w.cell? p:=by
 unfold World.freeze;split
 .rfl
 .simp only[World.cell?,aWb];by_cases h:a.block=p.block
  .rw[aUU h];cases w.heap[p.block]? with
   |none=>rfl
   |some o=>cases o<;>rfl
  .rw[aUX h]
theorem aNI (w:pT) (a:Addr) (n b:Nat):(w.freeze a n).shape? b=w.shape? b:=by
 unfold World.freeze;split
 .rfl
 .simp only[World.shape?,aWb];by_cases h:a.block=b
  .rw[aUU h];cases w.heap[b]? with
   |none=>rfl
   |some o=>cases o<;>rfl
  .rw[aUX h]
theorem aNJ (w:pT) (a:Addr) (n b:Nat) (h:b≠a.block):(w.freeze a n).heap[b]? =w.heap[b]? :=by
 unfold World.freeze;split
 .rfl
 .simp only[aWb];rw[aUX (Ne.symm h)]
theorem aNK (w:pT) (a:Addr) (n:Nat):(w.freeze a n).os=w.os/\(w.freeze a n).tape=w.tape/\(w.freeze a n).output=w.output/\(w.freeze a n).heap.size=w.heap.size:=by
 unfold World.freeze;split
 .exact⟨rfl,rfl,rfl,rfl⟩
 .exact⟨rfl,rfl,rfl,by simp⟩
theorem aEu {g:Gh}{w:pT}{b:Nat}: ∀{l:pO}{o:Nat},zH (Rd g w (.int .u8)) w g.S 1 b o l->∀j x,l[j]? =some x->w.cell? ⟨b,o+j,none⟩=some (.int .u8 x)
 |[],_,_,_,_,h=>by cases h
 |y::l,o,⟨⟨cs,_,hra,_,hR⟩,hl⟩,j,x,h=>by
  match j,h with
  |0,h=>
   cases h;have hR:cs=[.int .u8 y]:=hR;subst hR;exact hra 0 _ rfl
  |j+1,h=>
   have:=aEu hl j x (by simpa using h);rw[show o+(j+1)=o+1+j by omega];exact this
theorem aNL {u:Ty}{m:pQ}{bv:(Ty.pair (.list (.int .u8)) .unit).den}{l:List u.den}(hget:rJ (.list u) (.pair .mref (.pair (.list (.int .u8)) .unit)) (m,bv) 1=some l):l.length=bv.1.length:=by
 have h2:rJ (.list u) (.list (.int .u8)) bv.1 0=some l:=hget;simp only[rJ] at h2;split at h2
 .rename_i h;injection h with h
  subst h;cases h2;rfl
 .cases h2
theorem a2j:xR Tryz.prog 31 S2:=by
 refine⟨fun _ _=>rfl,fun g w args vals L r hH ha hC hs=> ?_⟩;unfold S2 at hC;split at hC
 .rename_i bv n;cases hC;obtain rfl:n=List.length bv.1:=hs _ pK;obtain⟨va,_,rfl,ra,hv⟩:=ha;cases hv;have hg0:qH (qT 0 [qD.cells (.pair .mref (.pair (.list (.int .u8)) .unit)) ((some (0,0)),bv) [(1,1)],.grow 5 1 (List.length bv.1)]) 0=some (.cells (.pair .mref (.pair (.list (.int .u8)) .unit)) ((some (0,0)),bv) [(1,1)]):=rfl;have hg1:qH (qT 0 [qD.cells (.pair .mref (.pair (.list (.int .u8)) .unit)) ((some (0,0)),bv) [(1,1)],.grow 5 1 (List.length bv.1)]) 1=some (.grow 5 1 (List.length bv.1)):=rfl;obtain⟨p,cs,hJ,hR,hra,hth,hns,htk⟩:=hH.blk 0 _ hg0;obtain⟨v',xs,hv',hown,hmax,hsl⟩:=hH.blk 1 _ hg1;obtain⟨c1,c2,rfl,hR1,hR2⟩:=hR;obtain⟨d1,d2,rfl,⟨a,cap,rfl,hcap,hl⟩,hd2⟩:=hR2;obtain⟨p',hJ',⟨hp0,_,_,_⟩,hc1⟩:=hR1;rw[hJ] at hJ';obtain rfl:=aUZ hJ';obtain⟨b,o,k⟩:=p;have ho:o=0:=by simpa using hp0
  subst ho;have hlen1:c1.length=1:=by rcases hc1 with rfl|rfl<;>rfl
  obtain⟨q,hq,hva⟩:=A7 ra.1;rw[hJ] at hq;cases hq;subst hva;have hcell1:w.cell? ⟨b,1,none⟩=some (.slice a bv.1.length cap):=hra 1 _ (by rw[aVa pI,hlen1];rfl);obtain⟨u,l,v,hget,hcv,hcur⟩:=htk 1 1 pK;have hvv:v= .slice a bv.1.length cap:=by
   rw[aVa pI,hlen1] at hcv;exact(aUZ hcv).symm
  have hll:l.length=bv.1.length:=aNL hget;rw[hll,hv',hvv] at hcur;obtain rfl:=aUZ hcur;have hbl:b<w.heap.size:=WK hcell1;have hdr: ∀(s:pF) (sd:List Prop),EN g w _ ⟨sd,[(.val .str s,none)],[.cells (.pair .mref (.pair (.list (.int .u8)) .unit)) ((some (0,0)),bv) [],.dead]⟩ g w.drew (.string ⟨s.toArray⟩):=fun s sd=>
   a2i hH rfl rfl rfl (aVi _) (fun _ _ _=>rfl) (fun _ _ h=>h) (fun _ _ _=>rfl)
  obtain⟨hx,⟨hnil,h0⟩ |⟨gb,cap',cur,hsl',hb0,hbk,hnc,hcm,hcs,htake⟩⟩:=hown
  .have hb0:bv.1=[]:=aWt.1 h0;have hz:uC bv.1=[]:=by rw[hb0];rfl
   have hl0:List.length bv.1=0:=h0;injection hnil with e1 e2 e3
   subst e1;subst e3;refine(a2h Tryz.lays169 Tryz.builderExtra b bv.1.length 0 none none .empty w w.drew hcell1 rfl (by rw[hl0];exact Any.unsafeString_none Tryz.lays169 Tryz.builderExtra w.drew none)).mono ?_;rintro e w' ⟨rfl,rfl⟩;exact⟨_,g,rfl,by rw[hz];exact hdr [] _⟩
  .injection hsl' with e1 e2 e3
   subst e1;subst e3;have hsz:bv.1.length<=cur.size:=by omega
   by_cases hb0:bv.1=[]
   .have hz:uC bv.1=[]:=by rw[hb0];rfl
    have hl0:List.length bv.1=0:=by rw[hb0];rfl
    by_cases hc0:cap=0
    .subst hc0;rw[hl0] at hcell1;refine(aNG Tryz.lays169 Tryz.builderExtra b gb cur w hbl hcell1 hbk).mono ?_;rintro e w' ⟨rfl,rfl⟩;have hold: ∀c,c<w.heap.size->(w.drew.alloc (.view ⟨gb,0,none⟩ 5)).heap[c]? =w.heap[c]? :=fun c hc=>Lib.alloc_old w.drew _ c hc;refine⟨_,g,rfl,?_⟩;rw[hz];exact a2i hH rfl rfl rfl pK (fun c o hc=>aVl (a:=⟨c,o,none⟩) (hold c hc)) (fun c s h=>(CX (hold c (CW h))).trans h) (fun c hc _=>hold c hc)
    .refine(a2h Tryz.lays169 Tryz.builderExtra b bv.1.length cap (some ⟨gb,0,none⟩) (some ⟨gb,0,none⟩) .empty w w.drew hcell1 (Lib.run_unsafeSliceData_row _ _ _ _ _ _ hc0) (by rw[hl0];exact Any.unsafeString_none Tryz.lays169 Tryz.builderExtra w.drew _)).mono ?_;rintro e w' ⟨rfl,rfl⟩;exact⟨_,g,rfl,by rw[hz];exact hdr [] _⟩
   .have hcap0:cap≠0:=fun h=>hb0 (aWt.1 pI);have hcb: ∀j x,bv.1[j]? =some x->w.cell? ⟨gb,j,none⟩=some (.int .u8 x):=by
     rcases hl with hl|⟨b',o',ha',hl⟩
     .exact absurd hl hb0
     .cases ha';intro j x hj;have:=aEu hl j x hj;rwa [aVx] at this
    have hbk':w.drew.heap[gb]? =some (.cells cur 5 (0,0)):=hbk;have hshp:w.drew.shape? gb=some (5,cur.size):=by simp only[World.shape?,hbk']
    refine(a2h Tryz.lays169 Tryz.builderExtra b bv.1.length cap (some ⟨gb,0,none⟩) (some ⟨gb,0,none⟩) ⟨(uC bv.1).toArray⟩ w (w.drew.freeze ⟨gb,0,none⟩ bv.1.length) hcell1 (Lib.run_unsafeSliceData_row _ _ _ _ _ _ hcap0)
     (aNF w.drew _ _ _ 5 (Tryz.lays169).t127 (Tryz.builderExtra).cellsByte gb cur.size hshp bv.1 hb0 hsz (by unfold maxLen at hcm;omega) (fun j x h=>by rw[aWj,aVx];exact hcb j x h))).mono ?_
    rintro e w' ⟨rfl,rfl⟩;refine⟨_,g,rfl,?_⟩;have hblk: ∀c,(∀o,¬sG g 1 (.grow 5 1 (List.length bv.1)) c o)->(w.drew.freeze ⟨gb,0,none⟩ bv.1.length).heap[c]? =w.heap[c]? :=fun c hc=>aNJ w.drew _ _ c fun e=>hc 0 ⟨_,hv',by rw[e];rfl⟩;have hr:=aNK w.drew ⟨gb,0,none⟩ bv.1.length;refine a2i hH hr.1 hr.2.1 hr.2.2.1 (aWx hr.2.2.2.symm) (fun c o _=>aNH w.drew _ _ _) (fun c s h=>(aNI w.drew _ _ c).trans h) (fun c _ hc=>hblk c hc)
 .cases hC
theorem aEv:uG Tryz.prog 111 ⟨(.pair .str (.pair .str .unit)),0,0,false,[]⟩:=⟨pW,(show ((_/\∃_,_/\_)\/_)/\_ from⟨.inl ⟨rfl,_,Tryz.underlying111,(show _/\_/\_/\_ from⟨rfl,pW,pW,(show _/\_/\_/\_ from⟨rfl,pW,pW,trivial⟩)⟩)⟩,(fun h=>absurd h pJ)⟩)⟩
theorem XP {P:Program}(w:pT) (dT sT ty elem:TypeId) (sz g o dLen dCap:Nat) (a:Addr) (sLen sCap:Nat) (cur:Array pU) (t:TypeId) (cs:pP)
  (hu:P.underlying dT=some (.slice elem)) (hs:(P.info? elem).map (·.size)=some sz)
  (hg:w.heap[g]? =some (.cells cur t (0,0))) (hn:cs.length=Nat.min sLen dLen*sz)
  (hsrc: ∀j v,cs[j]? =some v->w.cell? (a.add j)=some v) (hfit:o+cs.length<=cur.size) (h1: ∀v∈cs,v.oneCell'=true):
  (Builtin.copy_ #[dT,sT] ty #[.slice (some ⟨g,o,none⟩) dLen dCap,.slice (some a) sLen sCap]).run P w=
   .ok (goInt (Nat.min sLen dLen:Nat)) (w.setRow g (cur.toList.take o++cs++cur.toList.drop (o+cs.length)).toArray):=by
 have hl:=run_loadCells_list (P:=P) w a cs hsrc;have hst:=run_storeCells_at P g o t cs 0 cur w hg (by simpa using hfit) h1;cases hq:P.info? elem with
 |none=>simp [hq] at hs
 |some i=>
  have hi:i.size=sz:=by simpa[hq] using hs
  simp [Builtin.copy_,aVh hu,Builtin.lenOf,Builtin.firstCells,sizeOf,typeInfo,hq,hi,<-hn,hl,hst]
theorem aNM {P:Program}(w:pT) (tS tR e:TypeId) (ht:P.underlying tS=some (.slice e)) (size:Nat) (hz: ∀w,(Go.sizeOf e).run P w= .ok size w)
  (a b:Addr) (la ca lb cb:Nat) (hne:a.block≠b.block) (tA tB:TypeId) (kA kB:Nat)
  (hsa:w.shape? a.block=some (tA,kA)) (hkA:kA≠0) (hsb:w.shape? b.block=some (tB,kB)) (hfb: ∀o,w.frozen? ⟨b.block,o,none⟩=false) (hsp:b.spot=none):
  (Extern.SlicesOverlaps.overlaps #[tS,tS] #[tR] #[.slice (some a) la ca,.slice (some b) lb cb]).run P w= .ok (.bool false) w:=by
 have hnb:(a.block != b.block)=true:=by simpa using hne
 have hnb':(a.block==b.block)=false:=by simpa using hne
 have hfb1:w.frozen? b=false:=by
  obtain⟨bb,bo,bs⟩:=b;cases hsp;exact hfb bo
 have hfb2:=hfb kB;change Sem.run P (α:=pU) (do
  let some t:=(#[tS,tS]:Array TypeId)[0]? |stuck "slices.overlaps: no parameter types"
  let .slice elem<-underlying t|stuck "slices.overlaps: slice type expected"
  let size<-sizeOf elem
  match (some a:Option Addr),(some b:Option Addr) with
  |some a,some b=>
   if la=0\/lb=0\/size=0 then pure (Value.bool false)
   else if a.block != b.block&&(<-frozen a)&&(<-frozen b) then unsupported .addressObserved
   else do
    if a.block != b.block then do
     noView a;noView b
     if<-mayBeOne a b then return Value.bool ((<-choose (.extern "sameAddr.stringBytes" 2))==1)
    pure (Value.bool (a.block==b.block&&a.off<b.off+lb*size&&b.off<a.off+la*size))
  |_,_=>pure (Value.bool false)) w=_
 by_cases h0:la=0\/lb=0\/size=0
 .simp [aVh ht,hz,h0]
 .cases kA with
  |zero=>exact absurd rfl hkA
  |succ kA=>
   cases hfa:w.frozen? a<;>cases hfe:w.frozen? {block:=a.block,off:=kA+1}<;>
   simp [aVh ht,hz,h0,hnb,hnb',frozen,noView,viewAt,mayBeOne,stringish,shape,Sem.run,hsa,hsb,hfb1,hfb2,hfa,hfe]
theorem aNN {α:Type}{l:List α}{i n:Nat}(hin:i<=n):(l.drop (i*2)).take ((n-i)*2)=(l.take (n*2)).drop (i*2):=by
 rw[List.drop_take,show n*2-i*2=(n-i)*2 by omega]
theorem aEw {α:Type}{l:List α}{i n:Nat}{v:α}(h:v∈(l.drop (i*2)).take ((n-i)*2)):v∈l.take (n*2):=by
 rw[show (n-i)*2=n*2-i*2 by omega,<-List.drop_take] at h;exact List.mem_of_mem_drop h
theorem aNO {cur c1 c2:Array pU}{mid vs:pP}{i n m:Nat}(hc1:c1=(cur.toList.take ((i+m)*2)++mid++cur.toList.drop ((i+m)*2+mid.length)).toArray) (hc2:c2=(c1.toList.take (i*2)++vs++c1.toList.drop (i*2+vs.length)).toArray)
  (hml:mid.length=(n-i)*2) (hvl:vs.length=m*2) (hcur:(n+m)*2<=cur.toList.length) (hin:i<=n):c2.toList.take ((n+m)*2)=cur.toList.take (i*2)++vs++mid:=by
 have e1:c1.toList=cur.toList.take ((i+m)*2)++(mid++cur.toList.drop ((i+m)*2+mid.length)):=by rw[hc1,aU0]
 have l1:(cur.toList.take ((i+m)*2)).length=(i+m)*2:=by rw[aVj];omega
 have e2:c1.toList.take (i*2)=cur.toList.take (i*2):=by
  rw[e1,aVN pI,List.take_take,Nat.min_eq_left pI]
 have e3:c1.toList.drop (i*2+vs.length)=mid++cur.toList.drop ((i+m)*2+mid.length):=by
  rw[e1,hvl,show i*2+m*2=(cur.toList.take ((i+m)*2)).length by omega,aWk]
 have l2:(cur.toList.take (i*2)).length=i*2:=by rw[aVj];omega
 have e4:c2.toList=(cur.toList.take (i*2)++vs++mid)++cur.toList.drop ((i+m)*2+mid.length):=by rw[hc2,e2,e3];simp only[aU0]
 rw[e4,show (n+m)*2=(cur.toList.take (i*2)++vs++mid).length by simp only[aUW];omega,aVS]
theorem aNP (b n c i vb voff m vc:Nat) (cur:Array pU) (vs:pP) (w:pT) (hi:i<n) (hm:0<m) (hroom:n+m<=c) (hc63:c<=maxLen) (hvb:vb≠b)
  (hg:w.heap[b]? =some (.cells cur 111 (0,0))) (hcs:cur.size=c*2) (hvl:vs.length=m*2)
  (hvs: ∀j v,vs[j]? =some v->w.cell? ⟨vb,voff+j,none⟩=some v) (h1: ∀v∈cur.toList.take (n*2),v.oneCell'=true) (h1v: ∀v∈vs,v.oneCell'=true):
  Calls Tryz.prog 159 #[.slice (some ⟨b,0,none⟩) n c,.int .i64 i,.slice (some ⟨vb,voff,none⟩) m vc] w fun e w'=>
   e= .returned (.slice (some ⟨b,0,none⟩) (n+m) c)/\∃cur':Array pU,w'=w.drew.setRow b cur'/\cur'.size=cur.size/\cur'.toList.take ((n+m)*2)=cur.toList.take (i*2)++vs++(cur.toList.drop (i*2)).take ((n-i)*2):=by
 have u24:=aVh Tryz.underlying33;have hz1: ¬((m:Int)=0):=by omega
 have hz2: ¬((i:Int)=(n:Int)):=by omega
 have hw1:IntKind.i64.wrap ((i:Int)+(m:Int))=(i:Int)+(m:Int):=by rw[aWg];unfold maxLen at hc63;omega
 have hw2:IntKind.i64.wrap ((n:Int)+(m:Int))=(n:Int)+(m:Int):=by rw[aWg];unfold maxLen at hc63;omega
 have hb1:(0:Int)<=(i:Int)+(m:Int):=by omega
 have hin:i<=n:=by omega
 have htn:((i:Int)+(m:Int)).toNat=i+m:=by omega
 have hb2: ¬(c=i+m):=by omega
 have hb3:(i:Int)<=(n:Int)+(m:Int):=by omega
 have hb4: ¬(c=i):=by omega
 have z144: ∀w,(Go.sizeOf 111).run Tryz.prog w= .ok 2 w:=fun w=>by
  simp only[sizeOf,typeInfo,aVe,aV1,aU4];rfl
 have hsz:(Tryz.prog.info? 111).map (·.size)=some 2:=by kernel_rfl
 have hvs0:w.cell? ⟨vb,voff,none⟩=some (vs[0]'pI):=hvs 0 _ (aU5 pI);obtain⟨⟨tA,kA⟩,hsa,hkA⟩: ∃q:TypeId×Nat,w.shape? vb=some q/\q.2≠0:=by
  have h0:=hvs0;simp only[World.cell?] at h0;simp only[World.shape?];cases hh:w.heap[vb]? with
  |none=>rw[hh] at h0;simp at h0
  |some o=>
   rw[hh] at h0;cases o with
   |cells cs e fr=>
    refine⟨(e,cs.size),rfl,fun hz=> ?_⟩;have hz:cs.size=0:=hz;have:cs= #[]:=Array.eq_empty_of_size_eq_zero hz;subst this;simp at h0
   |_=>simp at h0
 have hov: ∀lb cb,(callFunc 192 #[.slice (some ⟨vb,voff,none⟩) m vc,.slice (some ⟨b,(i+m)*2,none⟩) lb cb]).run Tryz.prog w= .ok (.value (.bool false)) w:=fun lb cb=>by
  rw[run_callFunc_extern Tryz.func192 pW pW pW (e:=Extern.SlicesOverlaps.overlaps #[33,33] #[4]) pW,
   aNM w 33 4 111 Tryz.underlying33 2 z144 ⟨vb,voff,none⟩ ⟨b,(i+m)*2,none⟩ m vc lb cb hvb tA 111 kA cur.size hsa hkA (by simp [World.shape?,hg]) (fun o=>Lib.frozen_of_heap hg _) rfl]
  rfl
 have mixed:Tryz.prog.follows .mixedOrders=true:=by kernel_rfl
 obtain⟨mid,hmid⟩: ∃mid,mid=(cur.toList.drop (i*2)).take ((n-i)*2):=⟨_,rfl⟩;have hml:mid.length=(n-i)*2:=by rw[hmid,aVj,aVg,aVy];omega
 have hmin1:Nat.min (n+m-i) (n+m- (i+m))=n-i:=by simp only[Nat.min_def];split<;>omega
 have hmin2:Nat.min m (n+m-i)=m:=by simp only[Nat.min_def];split<;>omega
 obtain⟨c1,hc1⟩: ∃c1:Array pU,c1=(cur.toList.take ((i+m)*2)++mid++cur.toList.drop ((i+m)*2+mid.length)).toArray:=⟨_,rfl⟩;have hc1l:c1.size=cur.size:=by rw[hc1];simp only[aVP,aUW,aVj,aVg,aVy,hml];omega
 obtain⟨c2,hc2⟩: ∃c2:Array pU,c2=(c1.toList.take (i*2)++vs++c1.toList.drop (i*2+vs.length)).toArray:=⟨_,rfl⟩;have hc2l:c2.size=cur.size:=by rw[hc2];simp only[aVP,aUW,aVj,aVg,aVy,hc1l,hvl];omega
 have hcp1: ∀ty dc sc,(Builtin.copy_ #[33,33] ty #[.slice (some ⟨b,(i+m)*2,none⟩) (n+m- (i+m)) dc,.slice (some ⟨b,i*2,none⟩) (n+m-i) sc]).run Tryz.prog w.drew= .ok (goInt (n-i:Nat)) (w.drew.setRow b c1):=fun ty dc sc=>by
  have h:=XP (P:=Tryz.prog) w.drew 33 33 ty 111 2 b ((i+m)*2) (n+m- (i+m)) dc ⟨b,i*2,none⟩ (n+m-i) sc cur 111 mid Tryz.underlying33 hsz hg (by rw[hml,hmin1]) (fun j v hj=>by
    rw[aWJ];rw[hmid,aWd] at hj;split at hj
    .rw[List.getElem?_drop,aV3] at hj;show (w.cell? ⟨b,i*2+j,none⟩)=_;rw[Lib.cell_of_heap hg];exact hj
    .cases hj) (by rw[hml];omega) (fun v hv=>h1 v (aEw (hmid▸hv)))
  rw[h,hmin1,hc1]
 have hg1:(w.drew.setRow b c1).heap[b]? =some (.cells c1 111 (0,0)):=aWP w.drew b cur c1 _ _ hg;have hcp2: ∀ty dc,(Builtin.copy_ #[33,33] ty #[.slice (some ⟨b,i*2,none⟩) (n+m-i) dc,.slice (some ⟨vb,voff,none⟩) m vc]).run Tryz.prog (w.drew.setRow b c1)= .ok (goInt (m:Nat)) ((w.drew.setRow b c1).setRow b c2):=fun ty dc=>by
  have h:=XP (P:=Tryz.prog) (w.drew.setRow b c1) 33 33 ty 111 2 b (i*2) (n+m-i) dc ⟨vb,voff,none⟩ m vc c1 111 vs Tryz.underlying33 hsz hg1 (by rw[hvl,hmin2]) (fun j v hj=>by
    rw[aWJ,aVl (w:=w) (a:=⟨vb,voff+j,none⟩) (aWu w.drew b vb c1 hvb)];exact hvs j v hj) (by rw[hvl,hc1l];omega) h1v
  rw[h,hmin2,hc2]
 have Hmid:=Lib.hid hmid;have Hc1:=Lib.hid hc1;have Hc2:=Lib.hid hc2;have Hs1:=Lib.hid hc1l;have Hs2:=Lib.hid hc2l;have Hml:=Lib.hid hml;clear hmid hc1 hc2 hc1l hc2l hml hmin1 hmin2
 go_enter Tryz.func159,Tryz.ntmps159
 go_wp2_with (simp only[hov])
 go_region_law_o (refine step_copy_runI rfl _ _ 33 33 rfl _ _ (by simp [Act.eval,Act.put]) (by simp [Act.eval,Act.put]) (hcp1 _ _ _) ?_)
 go_wp2_with (at_builtin;refine wpList_copy_runI _ rfl _ _ 33 33 rfl _ _ rfl rfl (hcp2 _ _) ?_)
 go_ret
 refine⟨rfl,c2,?_,Hs2.out,?_⟩
 .rw[setRow_setRow]
 .rw[<-Hmid.out];exact aNO Hc1.out Hc2.out Hml.out hvl (by rw[aVy];omega) hin
theorem aNQ (base:Option Addr) (n c i:Nat) (v0:Option Addr) (vc:Nat) (w:pT) (hi:i<=n) (hnc:n<=c) (hc63:c<=maxLen):
  Calls Tryz.prog 159 #[.slice base n c,.int .i64 i,.slice v0 0 vc] w fun e w'=>e= .returned (.slice base n c)/\w'=w:=by
 have u24:=aVh Tryz.underlying33
 go_enter Tryz.func159,Tryz.ntmps159
 go_wp2_with fail
 all_goals (go_ret;exact⟨rfl,rfl⟩)
theorem aNR (v:pU) (n vb voff m vc:Nat) (xs vs:pP) (w:pT) (hm:0<m) (hown:w.ownsRow 0 111 2 v n xs) (h63:n+m<=maxLen) (hby:(n+m)*32<=140737488355328)
  (hvl:vs.length=m*2) (hvs: ∀j v,vs[j]? =some v->w.cell? ⟨vb,voff+j,none⟩=some v) (h1v: ∀v∈vs,v.oneCell'=true):
  Calls Tryz.prog 159 #[v,.int .i64 n,.slice (some ⟨vb,voff,none⟩) m vc] w fun e w'=>
   ∃q cap,e= .returned (.slice (some ⟨q,0,none⟩) (n+m) cap)/\w'.ownsRow 0 111 2 (.slice (some ⟨q,0,none⟩) (n+m) cap) (n+m) (xs++vs)/\
   (q=w.heap.size\/v.ownBlock=some q)/\w.grownBy w' v.ownBlock:=by
 have u24:=aVh Tryz.underlying33;obtain⟨inf,hi,hsz,hz⟩:=EL aEv;have hby2:inf.bytes=32:=by
  have:(Tryz.prog.info? 111).map (·.bytes)=some 32:=by kernel_rfl
  rw[hi] at this;exact aUZ this
 have hrun: ∀ty,∃q cap w',(Builtin.append_ #[33,33] ty #[v,.slice (some ⟨vb,voff,none⟩) m vc]).run Tryz.prog w= .ok (.slice (some ⟨q,0,none⟩) (n+m) cap) w'/\_:=
  fun ty=>a1i (P:=Tryz.prog) w 33 ty 111 inf _ 2 32 Tryz.underlying33 hi hz hsz hby2 pX v n xs hown ⟨vb,voff,none⟩ m vc vs hvl (fun j u hj=>by rw[aWJ];exact hvs j u hj) h1v hm h63 hby
 obtain⟨q,cap,w2,hr,h1,h2,h3,h4,h5⟩:=hrun 33;have H1:=Lib.hid h1;have H2:=Lib.hid h2;have H3:=Lib.hid h3;have Hown:=Lib.hid hown;have hz1: ¬((m:Int)=0):=by omega
 have hmx:n+m<=9223372036854775807:=by unfold maxLen at h63;omega
 obtain⟨hxl,hv⟩:=hown;clear h1 h2 h3 h5 hrun hz hsz hby2 hi hxl;rcases hv with⟨rfl,rfl⟩ |⟨b,c,cur,rfl,_,hbk,hnc,hcm,hcs,htk⟩
 .clear Hown;rw[aVx] at hr
  go_enter Tryz.func159,Tryz.ntmps159
  go_wp2_with (at_builtin;refine Lib.wpList_append_run _ rfl _ _ _ _ rfl _ _ rfl rfl _ _ hr ?_)
  all_goals (go_ret;exact⟨q,cap,by rw[aVx];rfl,H1.out,H2.out,H3.out⟩)
 .clear hbk hcs htk;have hcm:c<=9223372036854775807:=by unfold maxLen at hcm;omega
  go_enter Tryz.func159,Tryz.ntmps159
  go_wp2_with (at_builtin;refine Lib.wpList_append_run _ rfl _ _ _ _ rfl _ _ rfl rfl _ _ hr ?_)
  all_goals (go_ret;exact⟨q,cap,rfl,H1.out,H2.out,H3.out⟩)
theorem aNS (b n c i vb voff m vc:Nat) (cur:Array pU) (vs:pP) (w:pT) (hi:i<n) (hm:0<m) (hnc:n<=c) (hroom:c<n+m) (hbig:(n+m)*32<=140737488355328)
  (hg:w.heap[b]? =some (.cells cur 111 (0,0))) (hcs:cur.size=c*2) (hvl:vs.length=m*2)
  (hvs: ∀j v,vs[j]? =some v->w.cell? ⟨vb,voff+j,none⟩=some v) (h1: ∀v∈cur.toList.take (n*2),v.oneCell'=true) (h1v: ∀v∈vs,v.oneCell'=true):
  Calls Tryz.prog 159 #[.slice (some ⟨b,0,none⟩) n c,.int .i64 i,.slice (some ⟨vb,voff,none⟩) m vc] w fun e w'=>
   ∃G,e= .returned (.slice (some ⟨w.heap.size,0,none⟩) (n+m) G)/\w'.ownsRow 0 111 2 (.slice (some ⟨w.heap.size,0,none⟩) (n+m) G) (n+m) (cur.toList.take (i*2)++vs++(cur.toList.drop (i*2)).take ((n-i)*2))/\w.grownBy w' none:=by
 have u24:=aVh Tryz.underlying33;have mixed:Tryz.prog.follows .mixedOrders=true:=by kernel_rfl
 obtain⟨inf,hinf,hzs,hz⟩:=EL aEv;have hzb:inf.bytes=32:=by
  have:(Tryz.prog.info? 111).map (·.bytes)=some 32:=by kernel_rfl
  rw[hinf] at this;exact aUZ this
 have hsz:(Tryz.prog.info? 111).map (·.size)=some 2:=by kernel_rfl
 have hz1: ¬((m:Int)=0):=by omega
 have hz2: ¬((i:Int)=(n:Int)):=by omega
 have hz3:(c:Int)<(n:Int)+(m:Int):=by omega
 have hbw:b<w.heap.size:=by
  rcases aV8 b w.heap.size with h|h
  .exact h
  .rw[Array.getElem?_eq_none h] at hg;cases hg
 have hvw:vb<w.heap.size:=block_lt_of_cell (hvs 0 _ (aU5 pI));have hkk:(n:Int)+(m:Int)- (i:Int)=((n+m-i:Nat):Int):=by omega
 have hik:i+(n+m-i)=n+m:=by omega
 have hold:(Builtin.firstCells inf.size i (.slice (some ⟨b,0,none⟩) i c)).run Tryz.prog w.drew= .ok (cur.toList.take (i*2)).toArray w.drew:=by
  rw[hzs];exact run_firstCells_some w.drew 2 i ⟨b,0,none⟩ i c (cur.toList.take (i*2)) (by rw[aVj,aVy];omega) (fun j v hj=>by
   rw[aWJ,aVx];rw[aWd] at hj;split at hj
   .rw[aV3] at hj;show w.cell? ⟨b,j,none⟩=_;rw[Lib.cell_of_heap hg];exact hj
   .cases hj)
 have hrz: ∀ty,(Builtin.append_ #[33,3] ty #[.slice (some ⟨b,0,none⟩) i c,.int .i64 ((n:Int)+(m:Int)- (i:Int))]).run Tryz.prog w=
   .ok (.slice (some ⟨w.heap.size,0,none⟩) (n+m) (grownCap w (n+m) c 111)) (w.drew.alloc (.cells ((cur.toList.take (i*2)).toArray++Builtin.zeroCells (x4 (.pair .str (.pair .str .unit))).cells (n+m-i)++Builtin.zeroCells (x4 (.pair .str (.pair .str .unit))).cells (grownCap w (n+m) c 111- (n+m))) 111)):=fun ty=>by
  have h:=Lib.run_append_grow_zeros (P:=Tryz.prog) w 33 3 ty 111 inf _ .i64 .i64 Tryz.underlying33 Tryz.underlying3 hinf hz (some ⟨b,0,none⟩) i c (cur.toList.take (i*2)) hold (n+m-i) pI (by rw[hzs];decide) pI pI (by rw[hzb];omega) (by rw[hzb,hik];exact growslice_fits hroom hbig);rw[hik] at h;rw[hkk];exact h
 obtain⟨G,hG⟩: ∃G,G=grownCap w (n+m) c 111:=⟨_,rfl⟩;obtain⟨ROW,hROW⟩: ∃ROW:Array pU,ROW=(cur.toList.take (i*2)).toArray++Builtin.zeroCells (x4 (.pair .str (.pair .str .unit))).cells (n+m-i)++Builtin.zeroCells (x4 (.pair .str (.pair .str .unit))).cells (G- (n+m)):=⟨_,rfl⟩;rw[<-hG] at hrz;rw[<-hROW] at hrz;have hGn:n+m<=G:=by rw[hG];exact grownCap_ge w _ _ _
 have hGm:G<=maxLen:=by rw[hG];exact grownCap_le_maxLen w (n+m) c _ (by unfold maxLen;omega)
 have hzc:(x4 (.pair .str (.pair .str .unit))).cells.size=2:=rfl;have hRl:ROW.size=G*2:=by
  rw[hROW];simp only[aWK,aVP,size_zeroCells,hzc,aVj,aVy];omega
 have hRt:ROW.toList.take (i*2)=cur.toList.take (i*2):=by
  rw[hROW];simp only[Array.toList_append,aU0];rw[aVN (by rw[aVj,aVy];omega),List.take_take,Nat.min_self]
 obtain⟨q,hq⟩: ∃q,q=w.heap.size:=⟨_,rfl⟩;obtain⟨mid,hmid⟩: ∃mid,mid=(cur.toList.drop (i*2)).take ((n-i)*2):=⟨_,rfl⟩;have hml:mid.length=(n-i)*2:=by rw[hmid,aVj,aVg,aVy];omega
 have hmin1:Nat.min m (n+m-i)=m:=by simp only[Nat.min_def];split<;>omega
 have hmin2:Nat.min (n-i) (n+m- (i+m))=n-i:=by simp only[Nat.min_def];split<;>omega
 obtain⟨c1,hc1⟩: ∃c1:Array pU,c1=(ROW.toList.take (i*2)++vs++ROW.toList.drop (i*2+vs.length)).toArray:=⟨_,rfl⟩;have hc1l:c1.size=G*2:=by rw[hc1];simp only[aVP,aUW,aVj,aVg,aVy,hRl,hvl];omega
 obtain⟨c2,hc2⟩: ∃c2:Array pU,c2=(c1.toList.take ((i+m)*2)++mid++c1.toList.drop ((i+m)*2+mid.length)).toArray:=⟨_,rfl⟩;have hc2l:c2.size=G*2:=by rw[hc2];simp only[aVP,aUW,aVj,aVg,aVy,hc1l,hml];omega
 obtain⟨W1,hW1⟩: ∃W1,W1=w.drew.alloc (.cells ROW 111):=⟨_,rfl⟩;rw[<-hW1] at hrz;have hbq:b≠q:=by omega
 have hvq:vb≠q:=by omega
 have hg1:W1.heap[q]? =some (.cells ROW 111 (0,0)):=by rw[hW1,hq];exact aWX w.drew _
 have hO1: ∀k,k<w.heap.size->W1.heap[k]? =w.heap[k]? :=fun k hk=>by rw[hW1];exact aVv w.drew _ k hk
 have hcpA: ∀(W:pT),W.heap=W1.heap->∀ty dc,(Builtin.copy_ #[33,33] ty #[.slice (some ⟨q,i*2,none⟩) (n+m-i) dc,.slice (some ⟨vb,voff,none⟩) m vc]).run Tryz.prog W= .ok (goInt (m:Nat)) (W.setRow q c1):=fun W hW ty dc=>by
  have h:=XP (P:=Tryz.prog) W 33 33 ty 111 2 q (i*2) (n+m-i) dc ⟨vb,voff,none⟩ m vc ROW 111 vs Tryz.underlying33 hsz (by rw[hW];exact hg1) (by rw[hvl,hmin1]) (fun j v hj=>by
    rw[aWJ,aVl (w:=w) (a:=⟨vb,voff+j,none⟩) (by rw[hW];exact hO1 vb hvw)];exact hvs j v hj) (by rw[hvl,hRl];omega) h1v
  rw[h,hmin1,hc1]
 have hcpB: ∀(W:pT),W.heap=(W1.setRow q c1).heap->∀ty dc sc,(Builtin.copy_ #[33,33] ty #[.slice (some ⟨q,(i+m)*2,none⟩) (n+m- (i+m)) dc,.slice (some ⟨b,i*2,none⟩) (n-i) sc]).run Tryz.prog W= .ok (goInt (n-i:Nat)) (W.setRow q c2):=fun W hW ty dc sc=>by
  have h:=XP (P:=Tryz.prog) W 33 33 ty 111 2 q ((i+m)*2) (n+m- (i+m)) dc ⟨b,i*2,none⟩ (n-i) sc c1 111 mid Tryz.underlying33 hsz (by rw[hW];exact aWP W1 q ROW c1 _ _ hg1) (by rw[hml,hmin2]) (fun j v hj=>by
    rw[aWJ,aVl (w:=w) (a:=⟨b,i*2+j,none⟩) (by rw[hW,aWu W1 q b c1 hbq];exact hO1 b hbw),Lib.cell_of_heap hg];rw[hmid,aWd] at hj;split at hj
    .rw[List.getElem?_drop,aV3] at hj;exact hj
    .cases hj) (by rw[hml,hc1l];omega) (fun v hv=>h1 v (aEw (hmid▸hv)))
  rw[h,hmin2,hc2]
 have hGi: ¬(G=i):=by omega
 have hGim: ¬(G=i+m):=by omega
 have hci: ¬(c=i):=by omega
 have hw1:IntKind.i64.wrap ((i:Int)+(m:Int))=(i:Int)+(m:Int):=by rw[aWg];omega
 have hw2:IntKind.i64.wrap ((n:Int)+(m:Int))=(n:Int)+(m:Int):=by rw[aWg];omega
 have hw3:IntKind.i64.wrap ((n:Int)+(m:Int)- (i:Int))=(n:Int)+(m:Int)- (i:Int):=by rw[aWg];omega
 have hb1:(0:Int)<=(i:Int)+(m:Int):=by omega
 have hin:i<=n:=by omega
 have htn:((i:Int)+(m:Int)).toNat=i+m:=by omega
 have hb3:(i:Int)<=(n:Int):=by omega
 have hG63:G<=9223372036854775807:=by unfold maxLen at hGm;omega
 rw[<-hq] at hrz|-;have hend: ∀W:pT,W.heap=((W1.setRow q c1).setRow q c2).heap->W.os=w.os->W.tape=w.tape->W.output=w.output->
   W.ownsRow 0 111 2 (.slice (some ⟨q,0,none⟩) (n+m) G) (n+m) (cur.toList.take (i*2)++vs++mid)/\w.grownBy W none:=fun W hW e1 e2 e3=>by
  have hg2:W.heap[q]? =some (.cells c2 111 (0,0)):=by rw[hW];exact aWP (W1.setRow q c1) q c1 c2 _ _ (aWP W1 q ROW c1 _ _ hg1)
  have hs:w.heap.size<=W.heap.size:=by
   have:=(aVn.1 hg2).1;omega
  refine⟨⟨?_,.inr ⟨q,G,c2,rfl,aV4 _,hg2,hGn,hGm,hc2l,?_⟩⟩,⟨e1,e2,e3,hs,fun k hk _=> ?_⟩⟩
  .simp only[aUW,aVj,aVy,hml,hvl];omega
  .have x1:c1.toList=cur.toList.take (i*2)++vs++ROW.toList.drop (i*2+vs.length):=by rw[hc1,hRt]
   have l1:(cur.toList.take (i*2)++vs).length=(i+m)*2:=by rw[aUW,aVj,aVy,hvl];omega
   have x2:c2.toList=cur.toList.take (i*2)++vs++mid++c1.toList.drop ((i+m)*2+mid.length):=by
    rw[hc2];show c1.toList.take ((i+m)*2)++mid++_=_;rw[x1,<-l1,aVS]
   rw[x2,show (n+m)*2=(cur.toList.take (i*2)++vs++mid).length by rw[aUW,l1,hml];omega,aVS]
  .rw[hW,aWu _ q k c2 pI,aWu _ q k c1 pI];exact hO1 k hk
 have Hmid:=Lib.hid hmid;have Hq:=Lib.hid hq;have Hend:=Lib.hid hend;have HW1:=Lib.hid hW1;clear hkk hik hold hROW hG hRl hmid hq hend hW1 hc1 hc2 hc1l hc2l hml hmin1 hmin2 hz hzs hzb hinf hRt hg1 hO1
 go_enter Tryz.func159,Tryz.ntmps159
 go_wp2_with (first
  |(at_builtin;refine Lib.wpList_append_run _ rfl _ _ _ _ rfl _ _ rfl rfl _ _ (hrz _) ?_)
  |(at_builtin;refine wpList_copy_runI _ rfl _ _ 33 33 rfl _ _ rfl rfl (hcpA _ rfl _ _) ?_))
 go_region_law_o (refine step_copy_runI rfl _ _ 33 33 rfl (.slice (some ⟨q,(i+m)*2,none⟩) (n+m- (i+m)) (G- (i+m))) (.slice (some ⟨b,i*2,none⟩) (n-i) (c-i)) (by simp [Act.eval,Act.put]) (by simp [Act.eval,Act.put]) (hcpB (W1.setRow q c1).drew rfl _ (G- (i+m)) (c-i)) ?_)
 go_wp2_with fail
 go_ret
 rw[<-Hmid.out];exact⟨G,rfl,Hend.out _ rfl (by rw[HW1.out];rfl) (by rw[HW1.out];rfl) (by rw[HW1.out];rfl)⟩
theorem aNT (v:pU) (n i m vc:Nat) (v0:Option Addr) (xs vs:pP) (w:pT) (hin:i<=n) (hown:w.ownsRow 0 111 2 v n xs) (hby:(n+m)*32<=140737488355328)
  (h1: ∀u∈xs,u.oneCell'=true) (hv0:m=0\/∃vb voff,v0=some ⟨vb,voff,none⟩/\v.ownBlock≠some vb/\∀j u,vs[j]? =some u->w.cell? ⟨vb,voff+j,none⟩=some u)
  (hvl:vs.length=m*2) (h1v: ∀v∈vs,v.oneCell'=true):
  Calls Tryz.prog 159 #[v,.int .i64 i,.slice v0 m vc] w fun e w'=>
   ∃v',e= .returned v'/\w'.ownsRow 0 111 2 v' (n+m) (xs.take (i*2)++vs++xs.drop (i*2))/\(m=0->v'=v)/\(∀b,v'.ownBlock=some b->b=w.heap.size\/v.ownBlock=some b)/\w.grownBy w' v.ownBlock:=by
 have h63:n+m<=maxLen:=by unfold maxLen;omega
 rcases Nat.eq_zero_or_pos m with hm|hm
 .subst hm;have hvs:vs=[]:=aWt.1 pI;subst hvs;have hres:w.ownsRow 0 111 2 v (n+0) (xs.take (i*2)++[]++xs.drop (i*2)):=by
   rw[List.append_nil,aWi];exact hown
  obtain⟨base,c,rfl,hnc,hc⟩: ∃base c,v= .slice base n c/\n<=c/\c<=maxLen:=by
   rcases hown.2 with⟨rfl,rfl⟩ |⟨b,c,cur,rfl,_,_,h2,h3,_⟩
   .exact⟨none,0,rfl,aVi _,by unfold maxLen;omega⟩
   .exact⟨_,c,rfl,h2,h3⟩
  refine(aNQ base n c i v0 vc w hin hnc hc).mono ?_;rintro e w' ⟨rfl,rfl⟩;exact⟨_,rfl,hres,fun _=>rfl,fun b hb=> .inr hb,World.grownBy.refl _ _⟩
 .obtain⟨vb,voff,rfl,hvb,hvs⟩: ∃vb voff,v0=some ⟨vb,voff,none⟩/\v.ownBlock≠some vb/\∀j u,vs[j]? =some u->w.cell? ⟨vb,voff+j,none⟩=some u:=by
   rcases hv0 with h|h
   .omega
   .exact h
  have hxl:=hown.1;rcases aV8 i n with hlt|hge
  .rcases hown.2 with⟨rfl,rfl⟩ |⟨b,c,cur,rfl,_,hbk,hnc,hcm,hcs,htk⟩
   .omega
   .have hb:vb≠b:=fun h=>hvb (by rw[h];rfl);have hx1:cur.toList.take (i*2)=xs.take (i*2):=by rw[<-htk,List.take_take,Nat.min_eq_left pI]
    have hx2:(cur.toList.drop (i*2)).take ((n-i)*2)=xs.drop (i*2):=by rw[aNN hin,htk]
    rcases aV8 c (n+m) with hr|hr
    .refine(aNS b n c i vb voff m vc cur vs w hlt hm hnc hr hby hbk hcs hvl hvs (by rw[htk];exact h1) h1v).mono ?_;rintro e w' ⟨G,rfl,ho,hg⟩;rw[hx1,hx2] at ho;exact⟨_,rfl,ho,fun h=>by omega,fun b hb=> .inl (by simpa[Value.ownBlock] using hb.symm),⟨hg.os,hg.tape,hg.output,hg.size,fun k hk _=>hg.block k hk pK⟩⟩
    .refine(aNP b n c i vb voff m vc cur vs w hlt hm hr hcm hb hbk hcs hvl hvs (by rw[htk];exact h1) h1v).mono ?_;rintro e w' ⟨rfl,cur',rfl,hs,ht⟩;rw[hx1,hx2] at ht;refine⟨_,rfl,⟨?_,.inr ⟨b,c,cur',rfl,aV4 _,aWP w.drew b cur cur' _ _ hbk,hr,hcm,by rw[hs,hcs],ht⟩⟩,fun h=>by omega,fun b' hb'=> .inr hb',⟨rfl,rfl,rfl,by simp,fun k hk hne=>aWu w.drew b k cur' (fun h=>hne (by rw[h];rfl))⟩⟩;simp only[aUW,aVj,aVg,hxl,hvl];omega
  .obtain rfl:i=n:=by omega
   refine(aNR v i vb voff m vc xs vs w hm hown h63 hby hvl hvs h1v).mono ?_;rintro e w' ⟨q,cap,rfl,ho,hq,hg⟩;refine⟨_,rfl,?_,fun h=>by omega,fun b hb=> ?_,hg⟩
   .rw[<-hxl,List.take_length,aVR,List.append_nil];exact ho
   .have hb:q=b:=by simpa[Value.ownBlock] using hb
    exact hb▸hq
theorem aEx {α:Type}{R:α->pP->Prop}{c:Nat}: ∀{l:List α}{cs:pP}(i:Nat),uI R c l cs->uI R c (l.take i) (cs.take (i*c))
 |_,_,0,_=>by simp [uI]
 |[],_,_+1,h=>by rw[show _=[] from h];simp [uI]
 |x::l,_,i+1,⟨c1,c2,e,h1,h2,h3⟩=>by
  refine⟨c1,c2.take (i*c),?_,h1,h2,aEx i h3⟩;rw[e,aV7,Nat.add_comm,<-h1,List.take_length_add_append]
theorem aEy {α:Type}{R:α->pP->Prop}{c:Nat}: ∀{l:List α}{cs:pP}(i:Nat),uI R c l cs->uI R c (l.drop i) (cs.drop (i*c))
 |_,_,0,h=>by simpa using h
 |[],_,_+1,h=>by rw[show _=[] from h];simp [uI]
 |x::l,_,i+1,⟨c1,c2,e,h1,h2,h3⟩=>by
  rw[e,show (i+1)*c=c1.length+i*c by rw[h1,aV7,Nat.add_comm],List.drop_length_add_append];exact aEy i h3
def C0 {t:Type}(l:List t) (i:Int) (v:List t):List t:=List.take i.toNat l++v++List.drop i.toNat l
@[go_sem] def S3:List qE->List qD->Option qK
 |[(.own 0 O,none),(.val (.int .i64) Z,none),(.val (.list (.pair .str (.pair .str .unit))) aA,none)],[.row 111 (.pair .str (.pair .str .unit)) aB aC]=>
  some ⟨[O=aC,0<=Z/\Z<=List.length aB,(List.length aB+List.length aA)*32<=140737488355328],[(.own 0 (List.length (C0 aB Z aA)),none)],[.row 111 (.pair .str (.pair .str .unit)) (C0 aB Z aA) (List.length (C0 aB Z aA))]⟩
 |_,_=>none
theorem a2k:xR Tryz.prog 159 S3:=by
 refine⟨fun _ _=>rfl,fun g w args vals L r hH ha hC hs=> ?_⟩;unfold S3 at hC;split at hC
 .rename_i n iI vl l n2;cases hC;obtain rfl:n=n2:=hs _ pK;obtain⟨hi0,hil⟩:=hs (0<=iI/\iI<=List.length l) pK;have hby:=hs ((List.length l+List.length vl)*32<=140737488355328) pK;clear hs;obtain⟨va,_,rfl,ra,vb,_,rfl,rb,vc,_,rfl,rc,hv⟩:=ha;cases hv;have hg0:qH (qT 0 [qD.row 111 (.pair .str (.pair .str .unit)) l n]) 0=some (.row 111 (.pair .str (.pair .str .unit)) l n):=rfl;obtain⟨hl,v,xs,hcur,hown,hF,hnone,hseal⟩:=hH.blk 0 _ hg0;have hva:va=v:=by
   have:=ra.1.1;rw[hcur] at this;exact(aUZ this).symm
  subst hva;obtain⟨i,rfl⟩:=Int.eq_ofNat_of_zero_le hi0;have hvb:vb= .int .i64 i:=x5 rb.1;subst hvb;obtain⟨a,cap,rfl,hcap,hlist⟩:=DN rc.1;have hRone: ∀(x:(Ty.pair .str (.pair .str .unit)).den) cs,Rd g w (.pair .str (.pair .str .unit)) x cs->∀v∈cs,v.oneCell'=true:=fun x cs h=>BD h;obtain⟨vs,hFv,hv0⟩: ∃vs,uI (Rd g w (.pair .str (.pair .str .unit))) 2 vl vs/\(vl.length=0\/∃vb voff,a=some ⟨vb,voff,none⟩/\va.ownBlock≠some vb/\∀j u,vs[j]? =some u->w.cell? ⟨vb,voff+j,none⟩=some u):=by
   rcases hlist with rfl|⟨b,o,rfl,hL⟩
   .exact⟨[],rfl,.inl rfl⟩
   .obtain⟨cs,h1,h2,h3⟩:=NX hL;rcases Nat.eq_zero_or_pos vl.length with h0|h0
    .exact⟨cs,h1,.inl h0⟩
    .exact⟨cs,h1,.inr ⟨b,o,rfl,fun hb=>hseal b hb _ (h3 0 (Nat.mul_pos h0 pJ)),h2⟩⟩
  have hvl:=J9 hFv;have hil2:(i:Int)<=(l.length:Int):=hil;have hil':i<=n:=by omega
  subst hl;refine(aNT va l.length i vl.length cap a xs vs w pI hown hby (RE hRone hF) hv0 hvl (RE hRone hFv)).mono ?_;rintro e w' ⟨v',rfl,hown',hm0,hob,hgr⟩;have hlen:(C0 l (i:Int) vl).length=l.length+vl.length:=by
   simp only[C0,aVD,aUW,aVj,aVg];omega
  have hF':uI (Rd g w (.pair .str (.pair .str .unit))) 2 (C0 l (i:Int) vl) (xs.take (i*2)++vs++xs.drop (i*2)):=by
   unfold C0;rw[aVD];exact R7 (R7 (aEx i hF) hFv) (aEy i hF)
  have hsl: ∀b o,g.S b o->w'.cell? ⟨b,o,none⟩=w.cell? ⟨b,o,none⟩:=fun b o h=>aVl (a:=⟨b,o,none⟩) (hgr.block b (hH.sl b o h) (fun e=>hseal b e.symm o h));have hE:=sH.row (side:=[]) (rds:=[]) (s:=(.own 0 (C0 l (i:Int) vl).length,none)) (val:=v') (k:=0) (g:=g) (w:=w) (H:=qT 0 [qD.row 111 (.pair .str (.pair .str .unit)) l l.length]) hH (e:=111) (t:= .pair .str (.pair .str .unit)) (l:=C0 l (i:Int) vl) (n:=(C0 l (i:Int) vl).length) (v:=v') rfl (by rw[hlen];exact hown') hF'
   (fun m hm=>hnone m pI) (fun u hu=>by
    rcases Nat.eq_zero_or_pos vl.length with h0|h0
    .rw[hlen,h0,aVU,hcur] at hu;rw[hm0 h0];exact(aUZ hu).symm
    .rw[hnone _ pI] at hu;cases hu)
   (.inr ⟨va.ownBlock,hgr,fun b hb o=>⟨0,_,by simp,hg0,va,hcur,hb⟩⟩) hsl
   (fun b hb o hS=>by
    rcases hob b hb with h|h
    .have:=hH.sl b o hS;omega
    .exact hseal b h o hS)
   (fun b hb=>(hob b hb).imp (fun h=>by omega) fun h o=>⟨0,_,by simp,hg0,va,hcur,h⟩)
   ⟨⟨by simp [Gh.tok],by
    rw[hlen];rcases hown'.2 with⟨rfl,h⟩ |⟨b,cap',_,rfl,_,_,h,_⟩
    .exact .inl ⟨rfl,h⟩
    .exact .inr ⟨b,cap',rfl,h⟩⟩,trivial⟩
  refine⟨v',_,rfl,⟨fun b o h=>⟨hE.le.S b o h,hE.le.cell b o h⟩,hE.heap.ext ?_,hE.slot,hE.fr.mono fun b o ⟨i,blk,_,h1,h2⟩=>⟨i,blk,h1,h2⟩,fun i blk b o hi ho=> ?_,fun i t x ts h=> ?_,fun i t x ts u y us h _=> ?_,fun _ _ _ h=>h,fun i m u hi h=> ?_⟩⟩
  .intro i
   match i with
   |0=>rfl
   |i+1=>rfl
  .match i,hi with
   |0,hi=>
    cases hi;exact(hE.perm 0 _ b o (by simp [qJ]) rfl ho).imp id fun⟨i,blk,_,h1,h2⟩=>⟨i,blk,h1,h2⟩
   |i+1,hi=>simp at hi
  .match i,h with
   |0,h=>cases h
   |i+1,h=>simp at h
  .match i,h with
   |0,h=>cases h
   |i+1,h=>simp at h
  .exact hE.le.cur i m u h
 .cases hC
end Go.Proofs.YtkpflnijijccpaaGreatDoor
namespace Go.Proofs.YtkpflnijijccpaaGreatDoor.Vc
open Go.RowKit
@[go_sem] def a2l (np:Nat):DV->Bool
 | .any=>true
 | .nilS=>true
 | .val .ref (some (i,_))=>decide (i<np)
 | .val .ref none=>true
 | .val t _=>t.pure
 |_=>false
@[go_sem] def XQ (np:Nat):qE->Bool
 |(d,none)=>a2l np d
 |(.val (.list t) _,some k)=>t.pure&&decide (k<np)
 |_=>false
@[go_sem] def JH (np:Nat):List (Nat×qE)->Bool
 |[]=>true
 |(_,s)::r=>XQ np s&&JH np r
theorem aEz {np:Nat}: ∀{env:List (Nat×qE)},JH np env=true->∀t,XQ np (lk env t)=true
 |[],_,t=>rfl
 |(k,s)::r,h,t=>by
  simp only[JH,aU6] at h;unfold lk;split
  .exact h.1
  .exact aEz h.2 t
theorem aNU {np:Nat}{g g':Gh}{w:pT}(hS:g'.S=g.S) (hJ: ∀i,i<np->g'.J i=g.J i) (hC: ∀i n,i<np->g'.cur i n=g.cur i n) {s:qE}{v:pU}(hp:XQ np s=true) (h:rX g w s v):rX g' w s v:=by
 have hV: ∀{t:Ty}{x:t.den},t.pure=true->tT g w t x v->tT g' w t x v:=fun ht hv=>by
  rcases hv with⟨h1,cs,h2,h3⟩ |⟨h1,h2⟩
  .exact .inl ⟨h1,cs,h2,wQ hS ht h3⟩
  .exact .inr ⟨h1,wQ hS ht h2⟩
 have hD: ∀d,a2l np d=true->AL g w d v->AL g' w d v:=by
  intro d hd hr;unfold a2l at hd;split at hd
  .trivial
  .exact hr
  .rename_i i o;have hi:=aVw hd;rcases hr with⟨h1,_⟩ |⟨h1,h2⟩
   .cases h1
   .refine .inr ⟨h1,?_⟩;obtain⟨p,hp1,hp2⟩:=h2;exact⟨p,(hJ i hi).trans hp1,hp2⟩
  .rcases hr with⟨h1,_⟩ |⟨h1,h2⟩
   .cases h1
   .exact .inr ⟨h1,h2⟩
  .exact hV hd hr
  .cases hd
 obtain⟨d,k⟩:=s;cases k with
 |none=>exact⟨hD d hp h.1,trivial⟩
 |some k=>
  unfold XQ at hp;split at hp
  .rename_i heq;cases heq
  .rename_i t x k' heq;cases heq;simp only[aU6,aU8] at hp;exact⟨hV (t:= .list t) hp.1 h.1,(hC k _ hp.2).trans h.2⟩
  .cases hp
theorem aNV {np:Nat}{g g':Gh}{w w':pT}{env:List (Nat×qE)}{tmps:Array pU}(h:BF g w env tmps) (hp:JH np env=true) (hS: ∀b o,g.S b o->g'.S b o) (hc: ∀b o,g.S b o->w'.cell? ⟨b,o,none⟩=w.cell? ⟨b,o,none⟩)
  (hJ: ∀i p,i<np->g.J i=some p->g'.J i=some p) (hC: ∀i n v,i<np->g.cur i n=some v->g'.cur i n=some v):BF g' w' env tmps:=fun t=>by
 have le:Le g w ⟨g'.S,fun i=>if i<np then g'.J i else g.J i,fun i n=>if i<np then g'.cur i n else g.cur i n⟩ w':=by
  refine⟨hS,hc,fun i p hi=> ?_,fun i n v hi=> ?_⟩
  .show (if i<np then _ else _)=_;split
   .rename_i hlt;exact hJ i p hlt hi
   .exact hi
  .show (if i<np then _ else _)=_;split
   .rename_i hlt;exact hC i n v hlt hi
   .exact hi
 exact aNU (np:=np) (g:=⟨g'.S,fun i=>if i<np then g'.J i else g.J i,fun i n=>if i<np then g'.cur i n else g.cur i n⟩) (g':=g') rfl (fun i hi=>(aUU hi).symm) (fun i n hi=>by show g'.cur i n=(if i<np then g'.cur i n else g.cur i n);rw[aUU hi]) (aEz hp t) (DL le (h t))
theorem uD.inner {A A':Nat->Nat->Prop}{L L':List qD}{g0 g g':Gh}{w0 w w':pT}{H H':sD}(h:uD A L g0 w0 g w H) (k:uD A' L' g w g' w' H') (hA: ∀b o,A' b o->w.heap.size<=b\/yY g H b o) (hl:L.length<=L'.length)
  (hL: ∀i,i<L.length->∀b,L'[i]? =some b->qH H i=some b):uD A L g0 w0 g' w' H':=by
 have own: ∀b o,A' b o->w0.heap.size<=b\/A b o:=fun b o x=>by
  rcases hA b o x with h1|⟨i,blk,h1,h2⟩
  .exact .inl (aVZ h.fr.size h1)
  .exact h.perm i blk b o h1 h2
 refine⟨fun b o x=> ?_,h.fr.trans k.fr own,fun i blk b o h1 h2=> ?_,fun i p hi hp=>k.J i p pI (h.J i p hi hp),fun i hi=>k.live i pI,fun i u y us hi hg=> ?_,fun i n v hi hv=>k.cur i n v pI (h.cur i n v hi hv)⟩
 .obtain⟨h1,h2⟩:=h.shut b o x;obtain⟨k1,k2⟩:=k.shut b o h1;exact⟨k1,k2.trans h2⟩
 .rcases k.perm i blk b o h1 h2 with h3|h3
  .exact .inl (aVZ h.fr.size h3)
  .exact own b o h3
 .obtain⟨x,ts,hx⟩:=k.ty i u y us pI hg;exact h.ty i u x ts hi (hL i hi _ hx)
theorem uD.start {g:Gh}{w:pT}{H:sD}{L':List qD}(hH:sM g w H) (hL: ∀i b,L'[i]? =some b->qH H i=some b/\b≠.dead) (hty: ∀i,i<L'.length->∀b,qH H i=some b->L'[i]? =some b):uD (yY g H) L' g w g w H:=by
 refine⟨fun b o h=>⟨h,rfl⟩,Fr.refl _ _ _,fun i blk b o hg ho=> .inr ⟨i,blk,hg,ho⟩,fun _ _ _ h=>h,fun i hi=> ?_,fun i u y us hi hg=>⟨y,us,hty i hi _ hg⟩,fun _ _ _ _ h=>h⟩;obtain⟨h1,h2⟩:=hL i L'[i] pK;have hbk:=hH.blk i _ h1;generalize L'[i]=blk at hbk h2;cases blk with
 |cells t x ts=>obtain⟨p,cs,hp,_⟩:=hbk;exact .inl ⟨p,hp⟩
 |grow e c n=>obtain⟨v,xs,hv,_⟩:=hbk;exact .inr ⟨n,v,hv⟩
 |row e t l n=>obtain⟨_,v,xs,hv,_⟩:=hbk;exact .inr ⟨n,v,hv⟩
 |map k v l=>obtain⟨p,es,cl,hp,_⟩:=hbk;exact .inl ⟨p,hp⟩
 |iter s n=>obtain⟨p,hp,_⟩:=hbk;exact .inl ⟨p,hp⟩
 |dead=>exact absurd rfl h2
@[go_sem] def JI (env:List (Nat×qE)):pS->List qE->List (Nat×qE)
 |p::ps,s::ss=>JI (uM (some p) s env) ps ss
 |_,_=>env
theorem aEA {g:Gh}{w:pT}: ∀{ps:pS}{ss:List qE}{vs:pP}{env:List (Nat×qE)}{tmps:Array pU},BF g w env tmps->(∀p∈ps,p<tmps.size)->vR g w ss vs->ps.length=ss.length->
  BF g w (JI env ps ss) ((ps.zip vs).foldl (fun t (q:Nat×pU)=>t.setIfInBounds q.1 q.2) tmps)/\((ps.zip vs).foldl (fun t (q:Nat×pU)=>t.setIfInBounds q.1 q.2) tmps).size=tmps.size
 |[],[],vs,env,tmps,h,_,ha,_=>by
  have:vs=[]:=ha;subst this;exact⟨h,rfl⟩
 |p::ps,s::ss,vs,env,tmps,h,hp,ha,hl=>by
  obtain⟨v,vs',rfl,h1,h2⟩:=ha;have hput:BF g w (uM (some p) s env) (tmps.setIfInBounds p v):=a1N (a:={tmps:=tmps,defers:=[]}) (o:=⟨some p,.move (.tmp 0),0, "",#[],none⟩) (N:=tmps.size) h (Le.refl g w) h1 rfl (by simpa[J4] using hp p pK)
  have:=aEA (tmps:=tmps.setIfInBounds p v) hput (fun q hq=>by simpa using hp q (aU3 _ hq)) h2 (by simpa using hl);exact⟨this.1,by rw[List.zip_cons_cons,List.foldl_cons];rw[this.2];simp⟩
def S4 (P:Program) (gf:Nat) (u:Ty) {ι:Type}(pre:u.den->Prop) (items:u.den->List ι) (vl:ι->pP):Prop:=
 (∀args w,(callFunc gf args).run P w= .ok (.enter gf args) w)/\
 ∀(l b o:Nat) (x:u.den) (cs:pP) (g:Gh) (W0:pT) (J:Nat->pT->Prop) (Jx:pT->Prop),pre x->Rd g W0 u x cs->
  (∀i W,J i W->W.rangeAt b o cs/\∀b o,g.S b o->W.cell? ⟨b,o,none⟩=W0.cell? ⟨b,o,none⟩)->
  (∀i W W',J i W->Below W.heap.size W W'->J i W')->(∀W W',Jx W->Below W.heap.size W W'->Jx W')->(∀i W,J i W->DH W)->
  (∀i it V W,(items x)[i]? =some it->J i V->Below V.heap.size V W->YieldAt Fence.wide 0 P l (vl it).toArray W fun e W'=>((e= .returned (.bool true)/\J (i+1) W')\/(e= .returned (.bool false)/\Jx W'))/\
   ∀D,V.heap.size<=D->D<W.heap.size->W'.heap[D]? =W.heap[D]?)->
  ∀W,J 0 W->Calls P gf #[.func (.yield l) #[] #[],.pointer (some ⟨b,o,none⟩)] W fun e W'=>(∃v,e= .returned v)/\(J (items x).length W'\/Jx W')
theorem aNW {F:Fence}{m:Nat}{P:Program}{l:Nat}{args:Array pU}{W:pT}{R R':Ending->pT->Prop}(h:YieldAt F m P l args W R) (hr: ∀e W',R e W'->R' e W'):YieldAt F m P l args W R':=by
 obtain⟨fn,tmps,assign,body,h1,h2⟩:=h;exact⟨fn,tmps,assign,body,h1,h2.mono hr⟩
def zR {ι σ ρ:Type}(f:ι->σ->Option (σ⊕ρ)):List ι->σ->Option (σ⊕ρ)
 |[],x=>some (.inl x)
 |it::r,x=>(f it x).bind fun w=>match w with
  | .inl x'=>zR f r x'
  | .inr y=>some (.inr y)
theorem aNX {ι σ ρ:Type}{f:ι->σ->Option (σ⊕ρ)}{it:ι}{r:List ι}{x:σ}{y:σ⊕ρ}(h:zR f (it::r) x=some y): ∃w,f it x=some w/\(∀x',w= .inl x'->zR f r x'=some y)/\(∀z,w= .inr z->y= .inr z):=by
 unfold zR at h;cases hf:f it x with
 |none=>rw[hf] at h;cases h
 |some w=>
  rw[hf] at h;refine⟨w,rfl,fun x' e=> ?_,fun z e=> ?_⟩
  .subst e;exact h
  .subst e;exact(aUZ h).symm
def qA (st:St):Ex->St->Prop
 | .normal,s=> ∃k:wZ,s.keep k=st
 |_,_=>False
def qF {σ ρ:Type}(encH:σ->List qD) (E0:List (Nat×qE)) (N np np':Nat) (w:σ⊕ρ) (Q:Ex->St->Prop):Ex->St->Prop
 | .normal,s=> ∃(k:wZ) (x:σ),w= .inl x/\s.keep k=⟨[],qT 0 (encH x),r6 (encH x),N,np'⟩
 |e,s=> ∃(k:wZ) (B:List qD),s.keep k=⟨[],qT 0 B,r6 B,N,np'⟩/\(∃z,w= .inr z)/\Q e ⟨E0,qT 0 B,r6 B,N,np⟩
section
variable {B:Nat}{A:Nat->Nat->Prop}{L:List qD}{g0 g:Gh}{w0 w:pT}{b0 o0 n0:Nat}{cs:pP}{E0:List (Nat×qE)}{tmps:Array pU}{ds:List Deferred}
structure EQ (B:Nat) (A:Nat->Nat->Prop) (L:List qD) (g0:Gh) (w0:pT) (g:Gh) (w:pT) (b0 o0 n0:Nat) (cs:pP) (E0:List (Nat×qE)) (tmps:Array pU) (ds:List Deferred) (g1:Gh) (W:pT) (H:sD):Prop where
 env:BF g1 W E0 tmps
 heap:sM g1 W H
 good:uD A L g0 w0 g1 W H
 sld: ∀b o,g.S b o->g1.S b o/\W.cell? ⟨b,o,none⟩=w.cell? ⟨b,o,none⟩
 rng:W.rangeAt b0 o0 cs
 len:cs.length=n0
 lt:0<n0->b0<W.heap.size
 out: ∀o,o0<=o->o<o0+n0->¬yY g1 H b0 o
 defs:A8 B W ds
theorem EQ.turn {g1:Gh}{W W2:pT}{H:sD}(h:EQ B A L g0 w0 g w b0 o0 n0 cs E0 tmps ds g1 W H) (t:vS w0.heap.size W W2) {ds':List Deferred}(hd:A8 B W2 ds'):EQ B A L g0 w0 g w b0 o0 n0 cs E0 tmps ds' g1 W2 H:=by
 refine⟨fun x=>DL (t.le h.heap.sl) (h.env x),t.heapOk h.heap,h.good.turn h.heap.sl t,fun b o x=>⟨(h.sld b o x).1,(t.cell (h.heap.sl b o (h.sld b o x).1) o).1.trans (h.sld b o x).2⟩,fun j v hv=> ?_,h.len,fun x=>aVz (h.lt x) t.size,h.out,hd⟩;have hj:j<cs.length:=(aVd.1 hv).1;have:=h.len;exact(t.cell (h.lt pI) _).1.trans (h.rng j v hv)
theorem EQ.inner {g1 g2:Gh}{W W2:pT}{H H2:sD}{L':List qD}{np':Nat}(h:EQ B A L g0 w0 g w b0 o0 n0 cs E0 tmps ds g1 W H) (k:uD (yY g1 H) L' g1 W g2 W2 H2) (hH:sM g2 W2 H2) (hpin:JH np' E0=true) (hnp:np'=L'.length) (hl:L.length<=L'.length)
  (hL: ∀i,i<L.length->∀b,L'[i]? =some b->qH H i=some b):EQ B A L g0 w0 g w b0 o0 n0 cs E0 tmps ds g2 W2 H2:=by
 subst hnp;refine⟨aNV h.env hpin (fun b o x=>(k.shut b o x).1) (fun b o x=>(k.shut b o x).2) (fun i p hi x=>k.J i p hi x) (fun i n v hi x=>k.cur i n v hi x),hH,h.good.inner k (fun b o x=> .inr x) hl hL,fun b o x=> ?_,fun j v hv=> ?_,h.len,fun x=>aVz (h.lt x) k.fr.size,fun o h1 h2 ⟨i,blk,h3,h4⟩=> ?_,h.defs.same fun D hD=> ?_⟩
 .obtain⟨h1,h2⟩:=h.sld b o x;exact⟨(k.shut b o h1).1,(k.shut b o h1).2.trans h2⟩
 .have hj:j<cs.length:=(aVd.1 hv).1;have:=h.len;exact(k.fr.cell _ _ (h.lt pI) (h.out _ pI pI)).1.trans (h.rng j v hv)
 .rcases k.perm i blk _ _ h3 h4 with h5|h5
  .have:=h.lt pI;omega
  .exact h.out o h1 h2 h5
 .rw[k.fr.blk D (aVn.1 hD).1 (fun o ⟨i,blk,h1,h2⟩=>X6 (h.heap.blk i blk h1) h2 hD rfl)];exact hD
theorem aEB {g1 g2:Gh}{W W2:pT}{H H2:sD}{L':List qD}(hH:sM g1 W H) (k:uD (yY g1 H) L' g1 W g2 W2 H2) {D:Nat}{ob:Obj}(hD:W.heap[D]? =some ob) (hm:HG ob=true):W2.heap[D]? =some ob:=by
 rw[k.fr.blk D (aVn.1 hD).1 (fun o ⟨i,blk,h1,h2⟩=>X6 (hH.blk i blk h1) h2 hD hm)];exact hD
end
theorem vS.put {B:Nat}{W:pT}{l:Nat}{o o':Obj}(h:W.heap[l]? =some o) (hB:B<=l) (hN:NG<=l) (hm:HG o=true) (hm':HG o'=true):vS B W (W.putObj l o'):=by
 have hlt:=(aVn.1 h).1;refine⟨rfl,rfl,rfl,by simp [World.putObj],fun b hb=> ?_⟩;by_cases e:b=l
 .subst e;exact .inr ⟨hB,hN,_,_,h,World.putObj_heap_same hlt,hm,hm'⟩
 .exact .inl (World.putObj_heap_other e)
theorem vS.new (B:Nat) (W:pT) (o:Obj):vS B W (W.alloc o):=by
 refine⟨rfl,rfl,rfl,by simp,fun b hb=> .inl ?_⟩;exact aVv W o b hb
theorem aEC {e:Ex}{x:Exit}(h:G2 x=some e):(x= .normal/\e= .normal)\/(x= .ret/\e= .ret)\/∃id,x= .exit id/\e= .exit id:=by
 cases x<;>simp only[G2,aUT] at h
 .exact .inl ⟨rfl,h.symm⟩
 .exact .inr (.inr ⟨_,rfl,h.symm⟩)
 .cases h
 .exact .inr (.inl ⟨rfl,h.symm⟩)
 .cases h
 .cases h
def aNY:Ex->Option Code
 | .normal=>none
 | .ret=>some .ret
 | .exit id=>some (.exit id)
theorem aED {P:Program}{gf:Nat}{u:Ty}{ι:Type}{pre:u.den->Prop}{items:u.den->List ι}{vl:ι->pP}(hit:S4 P gf u pre items vl) {sl:ι->List qE}(hsl: ∀it g w,vR g w (sl it) (vl it))
  {fo:Operand}{ps:Array Tmp}{assign body:Code}{s:St}{Q:Ex->St->Prop}{c:Nat}{k0:pR}(hf:uQ s.env fo=(.val .clo (some (gf,[(c,0)])),k0)) {xc:u.den}{toks:pN}(hc:qH s.H c=some (.cells u xc toks)) (hpre:pre xc)
  {σ ρ:Type}{f:ι->σ->Option (σ⊕ρ)}{x0:σ}{y:σ⊕ρ}(hy:zR f (items xc) x0=some y)
  (E0:List (Nat×qE)) (E1:ι->List (Nat×qE)) (encH:σ->List qD) (encA:ι->σ->List qD) (np':Nat) (k:wZ) (hk:xQ s.np k.ids=true) (h0:s.keep k=⟨E0,qT 0 (encH x0),r6 (encH x0),s.N,s.np⟩)
  (hcase:k.ids.all (fun q=>decide (q.2≠c))=true\/c<s.np/\(∀g w cs g2 w2 cs2,Rd g w u xc cs->Rd g2 w2 u xc cs2->cs=cs2)/\∃toksK,∀x,qH (qT 0 (encH x)) c=some (.cells u xc toksK)) (hpin:JH np' E0=true) (hnp:s.np<=np') (hlen: ∀x,np'<=r6 (encH x)) (hdead: ∀x,((encH x).take np').all (fun b=>match b with| .dead=>false|_=>true)=true)
  (hA: ∀it x,(encA it x).take np'=(encH x).take np') (hlenA: ∀it x,np'<=r6 (encA it x))
  (hps: ∀it,ps.toList.length=(sl it).length) (hpN:(ps.toList.all fun p=>decide (p<s.N))=true)
  (hround: ∀it x w,f it x=some w->(∀z,w= .inr z->y= .inr z)->Ev true P assign ⟨JI E0 ps.toList (sl it),qT 0 (encH x),r6 (encH x),s.N,np'⟩ (qA ⟨E1 it,qT 0 (encA it x),r6 (encA it x),s.N,np'⟩)/\
   Ev true P body ⟨E1 it,qT 0 (encA it x),r6 (encA it x),s.N,np'⟩ (qF encH E0 s.N s.np np' w Q))
  (hdone: ∀x,y= .inl x->Q .normal ⟨E0,qT 0 (encH x),r6 (encH x),s.N,s.np⟩):Ev false P (.rangeFunc fo ps assign body) s Q:=by
 intro ro hro A L g0 w0 g a w B hB hr hg hn;have hN:ro=none:=by cases ro<;>first|rfl|cases hro
 subst hN;have hfv:=AP hr.env fo;rw[hf] at hfv;obtain⟨p,hpJ,hev⟩: ∃p,g.J c=some p/\a.eval fo= .func (.func gf) #[] #[.pointer (some ⟨p.1,p.2,none⟩)]:=by
  rcases hfv.1 with⟨h1,_⟩ |⟨_,vs,⟨p,vs',h4,h5,h6⟩,h3⟩
  .cases h1
  .rw[show vs'=[] from h6] at h5;subst h5;simp only[aVT,and_true] at h3;exact⟨p,h4,h3⟩
 obtain⟨p',cs,hp',hRc,hra,hth,hns,htk⟩:=hr.heap.blk c _ hc;rw[hpJ] at hp';obtain rfl:=aUZ hp';obtain⟨hr1,hg1,hn1,_⟩:=a1M hr hg hn k hk;have hpJ1:c<s.np->(vC g s.np k.ids).J c=some p:=fun hcN=>by
  show (if c<s.np then g.J c else _)=_;rw[aUU hcN];exact hpJ
 obtain⟨b0,o0,n0,cI,inv0,hrng⟩: ∃b0 o0 n0 cI,EQ B A L g0 w0 g w b0 o0 n0 cI E0 a.tmps a.defers (vC g s.np k.ids) w (qT 0 (encH x0))/\∀{g1:Gh}{W:pT}{x:σ}{dd:List Deferred},EQ B A L g0 w0 g w b0 o0 n0 cI E0 a.tmps dd g1 W (qT 0 (encH x))->(c<s.np->g1.J c=some p)->W.rangeAt p.1 p.2 cs:=by
  rcases hcase with hcd|⟨hcN,hu,toksK,hcK⟩
  .have hout: ∀o,p.2<=o->o<p.2+u.cells->¬yY (vC g s.np k.ids) (s.keep k).H p.1 o:=by
    rintro o h1 h2 ⟨i,blk,h3,h4⟩;have h3':qH (R1 s k (xQ s.np k.ids)).H i=some blk:=h3;rw[hk] at h3';obtain⟨o',h5,rfl⟩:=JE h3';obtain⟨c1,h6,h7⟩:=(LO hk h5 fun c1 hc1=>hr.heap.blk o' c1 hc1).2 _ _ h4;exact hr.heap.dis o' c c1 _ p.1 o (aVw (aVC.1 hcd _ h5)) h6 hc h7 ⟨p,hpJ,rfl,h1,h2⟩
   rw[h0] at hr1 hg1 hout;exact⟨p.1,p.2,u.cells,cs,⟨hr1.env,hr1.heap,hg1,fun b o h=>⟨h,rfl⟩,hra,tC hRc,fun hpos=>by
    obtain⟨v,hv⟩:=aUV.1 (hth.1 0 hpos).1;exact WK hv,hout,hr.def_⟩,fun h _=>h.rng⟩
  .rw[h0] at hr1 hg1;refine⟨0,0,0,[],⟨hr1.env,hr1.heap,hg1,fun b o h=>⟨h,rfl⟩,fun j v h=>by simp at h,rfl,fun h=>absurd h pI,fun o h1 h2=>by omega,hr1.def_⟩,fun h h2=> ?_⟩;obtain⟨p2,cs2,h3,h4,h5,_⟩:=h.heap.blk c _ (hcK _);rw[h2 hcN] at h3;obtain rfl:=aUZ h3;rw[hu _ _ _ _ _ _ hRc h4];exact h5
 rw[h0] at hr1 hg1;have hNG:NG<=w.heap.size:=hr.heap.tab.1.1;have hBw:w0.heap.size<=w.heap.size:=hg.fr.size;refine wpIn_rangeFunc fun fn _=> ?_;obtain⟨rec,hrec⟩: ∃rec:LoopState->Option Code->Loop,rec=fun st pe=>{state:=st,pending:=pe,fn,tmps:=a.tmps,params:=ps,assign,body,defers:=w.heap.size}:=⟨_,rfl⟩;obtain⟨W1,hW1⟩: ∃W1,(w.alloc (.deferred (some []))).alloc (.loop (rec .ready none))=W1:=⟨_,rfl⟩;have hL1:W1.heap[w.heap.size+1]? =some (.loop (rec .ready none)):=by
  rw[<-hW1];have:=World.alloc_heap_new (w.alloc (.deferred (some []))) (.loop (rec .ready none));rwa [World.size_alloc] at this
 have hK1:W1.heap[w.heap.size]? =some (.deferred (some [])):=by
  rw[<-hW1];exact(aVv _ _ _ pK).trans (World.alloc_heap_new w _)
 have t1:vS w0.heap.size w W1:=by rw[<-hW1];exact(vS.new _ _ _).trans (vS.new _ _ _)
 obtain⟨ds,hds⟩: ∃ds:List Deferred,{target:= .collected w.heap.size,args:= #[]}::a.defers=ds:=⟨_,rfl⟩;have hd1:A8 B W1 ds:=by
  rw[<-hds];refine⟨List.nodup_cons.2 ⟨fun hm=> ?_,hr.def_.1⟩,fun d hd=> ?_⟩
  .obtain⟨D,h1,_,_,h4⟩:=hr.def_.2 _ hm;have h5:w.heap.size=D:=by injection h1 with h1;injection h1
   have:=(aVn.1 h4).1;omega
  .rcases aU9.1 hd with rfl|hd
   .exact⟨_,rfl,pI,hNG,hK1⟩
   .obtain⟨D,h1,h2,h3,h4⟩:=hr.def_.2 _ hd;have hlt:=(aVn.1 h4).1;refine⟨D,h1,h2,h3,?_⟩;rw[<-hW1];exact(aVv _ _ D pL).trans ((aVv _ _ D hlt).trans h4)
 let l:=w.heap.size+1
 let J:Nat->pT->Prop:=fun i W=> ∃g1 x,zR f ((items xc).drop i) x=some y/\EQ B A L g0 w0 g w b0 o0 n0 cI E0 a.tmps ds g1 W (qT 0 (encH x))/\
  (∀j,r6 (encH x)<=j->g1.J j=none/\∀n,g1.cur j n=none)/\W.heap[l]? =some (.loop (rec .ready none))/\(c<s.np->g1.J c=some p)
 let Jx:pT->Prop:=fun W=> ∃g1 Bl e cd z,aNY e=some cd/\y= .inr z/\Q e ⟨E0,qT 0 Bl,r6 Bl,s.N,s.np⟩/\EQ B A L g0 w0 g w b0 o0 n0 cI E0 a.tmps ds g1 W (qT 0 Bl)/\
  (∀j,r6 Bl<=j->g1.J j=none/\∀n,g1.cur j n=none)/\s.np<=r6 Bl/\W.heap[l]? =some (.loop (rec .done (some cd)))
 have tbel: ∀{W W':pT},Below W.heap.size W W'->vS w0.heap.size W W':=fun hb=>⟨hb.os,hb.tape,hb.output,hb.size,fun b h=> .inl (hb.block b h)⟩;have hob: ∀{W W':pT}{D:Nat}{ob:Obj},Below W.heap.size W W'->W.heap[D]? =some ob->W'.heap[D]? =some ob:=fun hb h=>(hb.block _ (aVn.1 h).1).trans h;have hJd: ∀i W W',J i W->Below W.heap.size W W'->J i W':=fun i W W' ⟨g1,x,h1,h2,h3,h4,h5⟩ hb=>⟨g1,x,h1,h2.turn (tbel hb) (h2.defs.same fun _ h=>hob hb h),h3,hob hb h4,h5⟩;have hJxd: ∀W W',Jx W->Below W.heap.size W W'->Jx W':=fun W W' ⟨g1,Bl,e,cd,z,h1,h2,h3,h4,h5,h6,h7⟩ hb=>⟨g1,Bl,e,cd,z,h1,h2,h3,h4.turn (tbel hb) (h4.defs.same fun _ h=>hob hb h),h5,h6,hob hb h7⟩;have hround2: ∀i it V W,(items xc)[i]? =some it->J i V->Below V.heap.size V W->YieldAt Fence.wide 0 P l (vl it).toArray W fun e W'=>((e= .returned (.bool true)/\J (i+1) W')\/(e= .returned (.bool false)/\Jx W'))/\
   ∀D,V.heap.size<=D->D<W.heap.size->W'.heap[D]? =W.heap[D]? :=by
  rintro i it V W hi ⟨g1,x,hfold,invV,nb,hlV,hgc⟩ hbel;have inv:=invV.turn (tbel hbel) (invV.defs.same fun _ h=>hob hbel h);have hl:=hob hbel hlV;have hVl:l<V.heap.size:=(aVn.1 hlV).1;have hnoV: ∀D,V.heap.size<=D->∀o,¬yY g1 (qT 0 (encH x)) D o:=fun D hD o ⟨i,blk,h1,h2⟩=>by
   have:=NR (invV.heap.blk i blk h1) h2;omega
  have hil:i<(items xc).length:=(aVd.1 hi).1;have hdrop:(items xc).drop i=it::(items xc).drop (i+1):=by
   rw[aVA hil];congr 1;exact(aVd.1 hi).2
  rw[hdrop] at hfold;obtain⟨wv,hw,hinl,hinr⟩:=aNX hfold;obtain⟨evA,evB⟩:=hround it x wv hw hinr;have hvl:(vl it).toArray.size=ps.size:=by
   rw[aVP,(XH (hsl it g1 W)).1,<-hps it,aVy]
  have hyl:=run_yield (P:=P) (args:=(vl it).toArray) hl (by rw[hrec];exact hvl);rw[hrec] at hyl;refine⟨fn,_,assign,body,hyl,roundIn_of_wpIn trivial ?_⟩;have hz:(ps.zip (vl it).toArray).foldl (fun tmps (t,v)=>tmps.setIfInBounds t v) a.tmps=(ps.toList.zip (vl it)).foldl (fun t (q:Nat×pU)=>t.setIfInBounds q.1 q.2) a.tmps:=by
   rw[<-aWV,Array.toList_zip]
  rw[hz];obtain⟨henv,hsz⟩:=aEA inv.env (fun q hq=>by rw[hr.size];exact aVw (aVC.1 hpN q hq)) (hsl it g1 W) (hps it);have hL'len:((encH x).take np').length=np':=by
   rw[aVj];have:=hlen x;rw[XI] at this;omega
  have hLget: ∀i b,((encH x).take np')[i]? =some b->qH (qT 0 (encH x)) i=some b:=fun i b h=>by
   rw[y6];exact(aWa (by have:=(aVd.1 h).1;omega)).symm.trans h
  have hLget2: ∀i b,((encH x).take np')[i]? =some b->qH (qT 0 (encH x)) i=some b/\b≠.dead:=fun i b h=>⟨hLget i b h,fun e=>by
   have:=aVC.1 (hdead x) b (List.mem_of_getElem? h);subst e;cases this⟩
  have hLty: ∀i,i<((encH x).take np').length->∀b,qH (qT 0 (encH x)) i=some b->((encH x).take np')[i]? =some b:=fun i hi b h=>by
   rw[y6] at h;exact(aWa pI).trans h
  have gs:=uD.start inv.heap hLget2 hLty;have rA:w7 W.heap.size g1 W ⟨JI E0 ps.toList (sl it),qT 0 (encH x),r6 (encH x),s.N,np'⟩ {tmps:=(ps.toList.zip (vl it)).foldl (fun t (q:Nat×pU)=>t.setIfInBounds q.1 q.2) a.tmps,defers:=[]}:=⟨henv,inv.heap,hsz.trans hr.size,nb,aDo _ _,hlen x⟩;have hlow:L.length<=((encH x).take np').length:=by rw[hL'len,<-hn];exact hnp
  refine aWF (evA (some l) rfl _ _ g1 W g1 _ W _ (aVi _) rA gs hL'len.symm) fun e a1 wa hp=> ?_;obtain⟨e',g2,s2,e1,e2,e3,e4,e5⟩:=hp;rcases aEC e1 with⟨rfl,rfl⟩ |⟨rfl,rfl⟩ |⟨id,rfl,rfl⟩
  .obtain⟨kA,hkA⟩:=e2;obtain⟨g3,k1,k2,k3,_⟩:=HH e3 e4 e5 kA;rw[hkA] at k1 k2;have inva:=inv.inner k2 k1.heap hpin hL'len.symm hlow (fun i hi b h=>hLget i b h);have hla:=aEB inv.heap k2 hl rfl;refine⟨_,run_beginRound hla (by rw[hrec]),?_⟩;obtain⟨Wb,hWb⟩: ∃Wb,wa.putObj l (.loop {rec .ready none with state:= .busy})=Wb:=⟨_,rfl⟩
   have tb:vS w0.heap.size wa Wb:=by rw[<-hWb];exact vS.put hla (by show w0.heap.size<=w.heap.size+1;omega) (by show NG<=w.heap.size+1;omega) rfl rfl
   have hlt:=(aVn.1 hla).1;have other: ∀{W:pT}{o o':Obj}{D:Nat},W.heap[l]? =some (.loop (rec .ready none))\/W.heap[l]? =some (.loop {rec .ready none with state:= .busy})->W.heap[D]? =some (.deferred (some []))->(W.putObj l o').heap[D]? =some (.deferred (some [])):=by
    intro W o o' D h1 h2;rw[World.putObj_heap_other (fun e=>by subst e;rcases h1 with h1|h1<;>(rw[h1] at h2;cases h2))]
    exact h2
   have invb:=inva.turn tb (inva.defs.same fun D hD=>by rw[<-hWb];exact other (o:= .loop (rec .ready none)) (.inl hla) hD);have hlb:Wb.heap[l]? =some (.loop {rec .ready none with state:= .busy}):=by rw[<-hWb];exact World.putObj_heap_same hlt
   have hkA: ∀D,V.heap.size<=D->D<W.heap.size->Wb.heap[D]? =W.heap[D]? :=fun D h1 h2=>by
    rw[<-hWb,World.putObj_heap_other pI];exact k2.fr.blk D h2 (hnoV D h1)
   rw[hWb];have hAg: ∀i,i<np'->qH (qT 0 (encA it x)) i=qH (qT 0 (encH x)) i:=fun i hi=>by
    rw[y6,y6,<-aWa hi,hA it x,aWa hi]
   have hltL: ∀i b,((encH x).take np')[i]? =some b->i<np':=fun i b h=>by
    have:=(aVd.1 h).1;omega
   have gsb:=uD.start invb.heap (fun i b h=>by rw[hAg i (hltL i b h)];exact hLget2 i b h) (fun i hi b h=>hLty i hi b (by rw[<-hAg i pI];exact h));have rB:w7 W.heap.size g3 Wb ⟨E1 it,qT 0 (encA it x),r6 (encA it x),s.N,np'⟩ a1:=⟨fun t=>DL (tb.le k1.heap.sl) (k1.env t),invb.heap,k1.size,k1.nb,k1.def_.same fun D hD=>by rw[<-hWb];exact other (o:= .loop (rec .ready none)) (.inl hla) hD,hlenA it x⟩;have hWW:W.heap.size<=Wb.heap.size:=aVZ k2.fr.size tb.size;refine aWF (evB (some l) rfl _ _ g3 Wb g3 a1 Wb _ hWW rB gsb hL'len.symm) fun e a2 wc hp=> ?_;obtain⟨e',g4,s4,e1,e2,e3,e4,e5⟩:=hp;have wV: ∀(kB:wZ) (Bl:List qD),s4.keep kB=⟨[],qT 0 Bl,r6 Bl,s.N,np'⟩->∀jump:Option Code,∃g5,EQ B A L g0 w0 g w b0 o0 n0 cI E0 a.tmps ds g5 (wc.putObj l (.loop (rec (if jump.isNone then .ready else .done) jump))) (qT 0 Bl)/\
     (∀j,r6 Bl<=j->g5.J j=none/\∀n,g5.cur j n=none)/\np'<=r6 Bl/\(wc.putObj l (.loop (rec (if jump.isNone then .ready else .done) jump))).heap[l]? =some (.loop (rec (if jump.isNone then .ready else .done) jump))/\
     (Instr.endRound l jump).run P wc= .ok (.bool jump.isNone) (wc.putObj l (.loop (rec (if jump.isNone then .ready else .done) jump)))/\(c<s.np->g5.J c=some p)/\
     ∀D,V.heap.size<=D->D<W.heap.size->(wc.putObj l (.loop (rec (if jump.isNone then .ready else .done) jump))).heap[D]? =W.heap[D]? :=by
    intro kB Bl hkB jump;obtain⟨g5,j1,j2,j3,_⟩:=HH e3 e4 e5 kB;rw[hkB] at j1 j2;have invc:=invb.inner j2 j1.heap hpin hL'len.symm hlow (fun i hi b h=>by rw[hAg i pI];exact hLget i b h);have hlc:=aEB invb.heap j2 hlb rfl;have hltc:=(aVn.1 hlc).1;have tc:vS w0.heap.size wc (wc.putObj l (.loop (rec (if jump.isNone then .ready else .done) jump))):=vS.put hlc (by show w0.heap.size<=w.heap.size+1;omega) (by show NG<=w.heap.size+1;omega) rfl rfl;refine⟨g5,invc.turn tc (invc.defs.same fun D hD=>other (o:= .loop (rec .ready none)) (.inr hlc) hD),j1.nb,j1.np,World.putObj_heap_same hltc,?_,fun hcN=>j2.J c p pI (k2.J c p pI (hgc hcN)),fun D h1 h2=> ?_⟩
    .have:=run_endRound (P:=P) jump hlc;rw[this,hrec]
    .rw[World.putObj_heap_other pI,j2.fr.blk D pI (fun o ⟨i,blk,h3,h4⟩=>by
      rcases k2.perm i blk D o h3 h4 with h5|h5
      .omega
      .exact hnoV D h1 o h5),hkA D h1 h2]
   rcases aEC e1 with⟨rfl,rfl⟩ |⟨rfl,rfl⟩ |⟨id,rfl,rfl⟩
   .obtain⟨kB,x',rfl,hkB⟩:=e2;obtain⟨g5,q1,q2,q3,q4,q5,q6,q7⟩:=wV kB _ hkB none;exact⟨_,_,q5,.inl ⟨rfl,g5,x',hinl x' rfl,q1,q2,q4,q6⟩,q7⟩
   .obtain⟨kB,Bl,hkB,⟨z,rfl⟩,hq⟩:=e2;obtain⟨g5,q1,q2,q3,q4,q5,q6,q7⟩:=wV kB _ hkB (some .ret);exact⟨_,_,q5,.inr ⟨rfl,g5,Bl,.ret,.ret,z,rfl,hinr z rfl,hq,q1,q2,aVZ hnp q3,q4⟩,q7⟩
   .obtain⟨kB,Bl,hkB,⟨z,rfl⟩,hq⟩:=e2;obtain⟨g5,q1,q2,q3,q4,q5,q6,q7⟩:=wV kB _ hkB (some (.exit id));exact⟨_,_,q5,.inr ⟨rfl,g5,Bl,.exit id,.exit id,z,rfl,hinr z rfl,hq,q1,q2,aVZ hnp q3,q4⟩,q7⟩
  .exact e2.elim
  .exact e2.elim
 refine⟨l,[{target:= .collected w.heap.size,args:= #[]}],W1,{target:= .fn (.func gf) #[.pointer (some ⟨p.1,p.2,none⟩)],args:= #[.func (.yield l) #[] #[]]},W1,gf,#[.func (.yield l) #[] #[]]++ #[.pointer (some ⟨p.1,p.2,none⟩)],W1,?_,?_,fun _ _=>trivial,?_,fun h=>(by cases h),?_⟩
 .rw[<-hW1,hrec];exact run_enterLoop_outer _ _ _ _ _
 .simp only[resolve,hev];simp [go_sem]
 .simp [invoke,go_sem,hit.1]
 .have inv1:=inv0.turn t1 hd1;refine(aDx (ro:=none) (n:=0-1) (hit.2 l p.1 p.2 xc cs g w J Jx hpre hRc (fun i W ⟨g1,x,_,h2,_,_,h5⟩=>⟨hrng h2 h5,fun b o hb=>(h2.sld b o hb).2⟩) hJd hJxd (fun i W ⟨g1,x,_,h2,_⟩=>h2.heap.tab.1) hround2 W1 ⟨_,x0,hy,inv1,hr1.nb,hL1,hpJ1⟩)).mono ?_;have hend: ∀{W:pT}{r:Loop},W.heap[l]? =some (.loop r)->∀{ds0:List Deferred},A8 B W ds0->A8 B (W.putObj l (.loop {r with state:= .exhausted})) ds0:=by
   intro W r h1 ds0 h2;refine h2.same fun D hD=> ?_;rw[World.putObj_heap_other (fun e=>by subst e;rw[h1] at hD;cases hD)];exact hD
  rintro e W2 ⟨⟨v,rfl⟩,(⟨g1,x,h1,h2,h3,h4,_⟩ |⟨g1,Bl,e,cd,z,h1,h2,h3,h4,h5,h6,h7⟩)⟩
  .rw[aVR] at h1;have hyx:y= .inl x:=(aUZ h1).symm;have hin:=h2.turn (vS.put (o':= .loop {rec .ready none with state:= .exhausted}) h4 (by show w0.heap.size<=w.heap.size+1;omega) (by show NG<=w.heap.size+1;omega) rfl rfl) (hend h4 h2.defs)
   refine⟨none,W2.putObj l (.loop {rec .ready none with state:= .exhausted}),by have:=run_endLoop (P:=P) h4 (by rw[hrec];simp);rw[hrec] at this|-;exact this,?_⟩
   refine⟨.normal,g1,_,rfl,hdone x hyx,⟨hin.env,hin.heap,hr.size,h3,?_,aVZ hnp (hlen x)⟩,hin.good,hn⟩;have:=hin.defs;rw[<-hds] at this;exact this
  .have hin:=h4.turn (vS.put (o':= .loop {rec .done (some cd) with state:= .exhausted}) h7 (by show w0.heap.size<=w.heap.size+1;omega) (by show NG<=w.heap.size+1;omega) rfl rfl) (hend h7 h4.defs)
   refine⟨some cd,W2.putObj l (.loop {rec .done (some cd) with state:= .exhausted}),by have:=run_endLoop (P:=P) h7 (by rw[hrec];simp);rw[hrec] at this|-;exact this,?_⟩
   have hdef:=hin.defs;rw[<-hds] at hdef;have hrel:w7 B g1 (W2.putObj l (.loop {rec .done (some cd) with state:= .exhausted})) ⟨E0,qT 0 Bl,r6 Bl,s.N,s.np⟩ {a with defers:=[{target:= .collected w.heap.size,args:= #[]}]++a.defers}:=⟨hin.env,hin.heap,hr.size,h5,hdef,h6⟩
   cases e with
   |normal=>cases h1
   |ret=>
    obtain rfl:=aUZ h1;exact wpIn_ret ⟨.ret,g1,_,rfl,h3,hrel,hin.good,hn⟩
   |exit id=>
    obtain rfl:=aUZ h1;exact wpIn_exit ⟨.exit id,g1,_,rfl,h3,hrel,hin.good,hn⟩
theorem aNZ {P:Program}{gf:Nat}{u:Ty}{ι:Type}{pre:u.den->Prop}{items:u.den->List ι}{vl:ι->pP}(hit:S4 P gf u pre items vl) {sl:ι->List qE}(hsl: ∀it g w,vR g w (sl it) (vl it))
  {fo:Operand}{ps:Array Tmp}{assign body:Code}{s:St}{Q:Ex->St->Prop}{c:Nat}{k0:pR}(hf:uQ s.env fo=(.val .clo (some (gf,[(c,0)])),k0)) {xc:u.den}{toks:pN}(hc:qH s.H c=some (.cells u xc toks)) (hpre:pre xc)
  {σ ρ:Type}{f:ι->σ->Option (σ⊕ρ)}{x0:σ}{y:σ⊕ρ}(hy:zR f (items xc) x0=some y)
  (E0:List (Nat×qE)) (E1:ι->List (Nat×qE)) (encH:σ->List qD) (np':Nat) (k:wZ) (hk:xQ s.np k.ids=true) (h0:s.keep k=⟨E0,qT 0 (encH x0),r6 (encH x0),s.N,s.np⟩)
  (hcd:k.ids.all (fun q=>decide (q.2≠c))=true) (hpin:JH np' E0=true) (hnp:s.np<=np') (hlen: ∀x,np'<=r6 (encH x)) (hdead: ∀x,((encH x).take np').all (fun b=>match b with| .dead=>false|_=>true)=true)
  (hps: ∀it,ps.toList.length=(sl it).length) (hpN:(ps.toList.all fun p=>decide (p<s.N))=true)
  (hround: ∀it x w,f it x=some w->(∀z,w= .inr z->y= .inr z)->Ev true P assign ⟨JI E0 ps.toList (sl it),qT 0 (encH x),r6 (encH x),s.N,np'⟩ (qA ⟨E1 it,qT 0 (encH x),r6 (encH x),s.N,np'⟩)/\
   Ev true P body ⟨E1 it,qT 0 (encH x),r6 (encH x),s.N,np'⟩ (qF encH E0 s.N s.np np' w Q))
  (hdone: ∀x,y= .inl x->Q .normal ⟨E0,qT 0 (encH x),r6 (encH x),s.N,s.np⟩):Ev false P (.rangeFunc fo ps assign body) s Q:=
 aED hit hsl hf hc hpre hy E0 E1 encH (fun _=>encH) np' k hk h0 (.inl hcd) hpin hnp hlen hdead (fun _ _=>rfl) (fun _=>hlen) hps hpN hround hdone
theorem aN0 {P:Program}{gf:Nat}{ι:Type}{pre:pF->Prop}{items:pF->List ι}{vl:ι->pP}(hit:S4 P gf .str pre items vl) {sl:ι->List qE}(hsl: ∀it g w,vR g w (sl it) (vl it))
  {fo:Operand}{ps:Array Tmp}{assign body:Code}{s:St}{Q:Ex->St->Prop}{c:Nat}{k0:pR}(hf:uQ s.env fo=(.val .clo (some (gf,[(c,0)])),k0)) {xc:pF}{toks:pN}(hc:qH s.H c=some (.cells .str xc toks)) (hpre:pre xc)
  {σ ρ:Type}{f:ι->σ->Option (σ⊕ρ)}{x0:σ}{y:σ⊕ρ}(hy:zR f (items xc) x0=some y)
  (E0:List (Nat×qE)) (E1:ι->List (Nat×qE)) (encH:σ->List qD) (encA:ι->σ->List qD) (np':Nat) (k:wZ) (hk:xQ s.np k.ids=true) (h0:s.keep k=⟨E0,qT 0 (encH x0),r6 (encH x0),s.N,s.np⟩)
  (hcN:c<s.np) {toksK:pN}(hcK: ∀x,qH (qT 0 (encH x)) c=some (.cells .str xc toksK)) (hpin:JH np' E0=true) (hnp:s.np<=np') (hlen: ∀x,np'<=r6 (encH x)) (hdead: ∀x,((encH x).take np').all (fun b=>match b with| .dead=>false|_=>true)=true)
  (hA: ∀it x,(encA it x).take np'=(encH x).take np') (hlenA: ∀it x,np'<=r6 (encA it x))
  (hps: ∀it,ps.toList.length=(sl it).length) (hpN:(ps.toList.all fun p=>decide (p<s.N))=true)
  (hround: ∀it x w,f it x=some w->(∀z,w= .inr z->y= .inr z)->Ev true P assign ⟨JI E0 ps.toList (sl it),qT 0 (encH x),r6 (encH x),s.N,np'⟩ (qA ⟨E1 it,qT 0 (encA it x),r6 (encA it x),s.N,np'⟩)/\
   Ev true P body ⟨E1 it,qT 0 (encA it x),r6 (encA it x),s.N,np'⟩ (qF encH E0 s.N s.np np' w Q))
  (hdone: ∀x,y= .inl x->Q .normal ⟨E0,qT 0 (encH x),r6 (encH x),s.N,s.np⟩):Ev false P (.rangeFunc fo ps assign body) s Q:=
 aED (u:= .str) hit hsl hf hc hpre hy E0 E1 encH encA np' k hk h0 (.inr ⟨hcN,fun _ _ _ _ _ _ h h2=>Eq.trans h (Eq.symm h2),toksK,hcK⟩) hpin hnp hlen hdead hA hlenA hps hpN hround hdone
section
variable {σ ρ:Type}{encH:σ->List qD}{E0:List (Nat×qE)}{N np np':Nat}{w:σ⊕ρ}{Q:Ex->St->Prop}{st s:St}
theorem aEE (k:wZ) (h:s.keep k=st):qA st .normal s:=⟨k,h⟩
theorem aEF (k:wZ) (x:σ) (hw:w= .inl x) (h:s.keep k=⟨[],qT 0 (encH x),r6 (encH x),N,np'⟩):qF encH E0 N np np' w Q .normal s:=⟨k,x,hw,h⟩
end
end Go.Proofs.YtkpflnijijccpaaGreatDoor.Vc
namespace Go.Proofs.YtkpflnijijccpaaGreatDoor
open Go.RowKit Go.Shelf Vc
section
attribute [local go_sem] Oper.semAt_some
def CZ (d:(Ty.pair .str (.pair (.list .str) (.pair .str .unit))).den):List (Int×pF):=
 (0,d.1)::((List.range d.2.1.length).map fun j:Nat=>((j:Int)+1,d.2.1.getD j []))++[((d.2.1.length:Int)+1,d.2.2.1)]
def S5 (it:Int×pF):pP:=[.int .i64 it.1,.string ⟨it.2.toArray⟩]
@[go_sem] def aEG (it:Int×pF):List qE:=[(.val (.int .i64) it.1,none),(.val .str it.2,none)]
theorem aN1 (it:Int×pF) (g:Gh) (w:pT):vR g w (aEG it) (S5 it):=⟨_,_,rfl,⟨x6 _ _ _ _,trivial⟩,_,_,rfl,⟨BX _ _ _,trivial⟩,rfl⟩
theorem aN2 (d:(Ty.pair .str (.pair (.list .str) (.pair .str .unit))).den):(CZ d).length=d.2.1.length+2:=by simp [CZ]
theorem aN3 (d:(Ty.pair .str (.pair (.list .str) (.pair .str .unit))).den):(CZ d)[0]? =some (0,d.1):=by simp [CZ]
theorem aN4 (d:(Ty.pair .str (.pair (.list .str) (.pair .str .unit))).den) {j:Nat}(h:j<d.2.1.length):(CZ d)[j+1]? =some ((j:Int)+1,d.2.1.getD j []):=by
 simp [CZ,aVf,h]
theorem aN5 (d:(Ty.pair .str (.pair (.list .str) (.pair .str .unit))).den):(CZ d)[d.2.1.length+1]? =some ((d.2.1.length:Int)+1,d.2.2.1):=by
 simp [CZ]
theorem aN6:S4 Tryz.prog 57 (.pair .str (.pair (.list .str) (.pair .str .unit))) (fun d=>d.2.1.length<=4611686018427387904) CZ S5:=by
 refine⟨fun _ _=>rfl,?_⟩;intro l b o d cs g W0 J Jx hpre hR hrd hJd hJxd hJt hY W h0;replace hY:=fun i it W h1 h2=>aNW (hY i it W W h1 h2 (Below.refl _ _)) (R':=fun e W'=>(e= .returned (.bool true)/\J (i+1) W')\/(e= .returned (.bool false)/\Jx W')) (fun _ _ h=>h.1);obtain⟨c1,c2,rfl,hh,c3,c4,rfl,hl,c5,c6,rfl,ht,hu⟩:=hR;rw[show c1=[.string ⟨d.1.toArray⟩] from hh] at hrd;rw[show c5=[.string ⟨d.2.2.1.toArray⟩] from ht,show c6=[] from hu] at hrd;obtain⟨a,cap,rfl,hcap,hel⟩:=hl;have r0: ∀i W,J i W->W.cell? ⟨b,o,none⟩=some (.string ⟨d.1.toArray⟩):=fun i W h=>by simpa using(hrd i W h).1 0 _ rfl
 have r1: ∀i W,J i W->W.cell? ⟨b,o+1,none⟩=some (.slice a d.2.1.length cap):=fun i W h=>(hrd i W h).1 1 _ rfl;have r2: ∀i W,J i W->W.cell? ⟨b,o+2,none⟩=some (.string ⟨d.2.2.1.toArray⟩):=fun i W h=>(hrd i W h).1 2 _ rfl;have re: ∀j,j<d.2.1.length->∃b' o',a=some ⟨b',o',none⟩/\∀i W,J i W->W.cell? ⟨b',o'+j,none⟩=some (.string ⟨(d.2.1.getD j []).toArray⟩):=by
  intro j hj;rcases hel with h|⟨b',o',h1,h2⟩
  .rw[h] at hj;cases hj
  .refine⟨b',o',h1,fun i W h=> ?_⟩;have hg:d.2.1[j]? =some (d.2.1.getD j []):=by rw[aVq,aU5 hj];rfl
   obtain⟨cs,k1,k2,k3,k4⟩:=NU h2 hg;rw[show cs=[.string ⟨(d.2.1.getD j []).toArray⟩] from k4] at k2;have k5:=k2 0 _ rfl;have k6:=k3 0 pJ;rw[aVU,show j*Ty.str.cells=j from aWG j] at k5 k6;rw[(hrd i W h).2 _ _ k6];exact k5
 have q0:=aN3 d;have qm:=fun j=>aN4 d (j:=j);have ql:=aN5 d;have qn:=aN2 d;generalize hn:d.2.1.length=n at*;refine(callsIn_wide (n:=0)).1 (callsIn_of_wp Tryz.func57 rfl trivial ?_);simp only[Tryz.ntmps57,aVP,aUY,aU7,Nat.reduceAdd,Nat.reduceSub,Array.replicate_succ,Array.replicate_zero,List.push_toArray,List.append_toArray,List.nil_append,List.cons_append];have c0:=r0 0 W h0;obtain⟨fn,tmps,assign,body,hy,hQ⟩:=hY 0 _ W q0 h0;dsimp only[S5] at hy
 gi_wp2
 refine⟨rfl,hQ.mono ?_⟩;clear hQ hy;rintro e W1 (⟨rfl,hJ1⟩ |⟨rfl,hJx⟩)
 .have s1:=r1 _ W1 hJ1
  gi_wp2
  gi_loopw [13] (fun i wr=> ∃k:Nat,k<=n/\i= .int .i64 k/\J (k+1) wr) (fun i _=>n- (RowKit.intOf i).toNat)
  case atStart=>exact⟨0,aV4 _,rfl,hJ1⟩
  case round=>
   obtain⟨k,hk,rfl,hJs⟩:=hrel;by_cases hlt:k<n
   .obtain⟨b',o',rfl,hce⟩:=re k hlt;have hc':=hce _ _ hJs;have hq:=qm k hlt;clear re qm ql q0 hce;generalize d.2.1.getD k []=x at hc' hq;obtain⟨fn,tmps,assign,body,hy,hQ⟩:=hY _ _ wr hq hJs;dsimp only[S5] at hy
    gi_wp2
    refine⟨rfl,hQ.mono ?_⟩;clear hQ hy;rintro e W2 (⟨rfl,hJ2⟩ |⟨rfl,hJx⟩)
    .gi_wp2
     go_roundw
     case rel=>exact⟨k+1,pI,by simp,hJ2⟩
     case measure=>
      show n- (k+1)<n-k;omega
    .gi_wp2
     refine bodyPost_ret (results_none rfl _ _ _) rfl ?_;exact⟨⟨_,rfl⟩,.inr hJx⟩
   .obtain rfl:k=n:=by omega
    have s1:=r1 _ _ hJs;have s2:=r2 _ _ hJs;obtain⟨fn,tmps,assign,body,hy,hQ⟩:=hY _ _ wr ql hJs;dsimp only[S5] at hy
    gi_wp2
    refine⟨rfl,hQ.mono ?_⟩;clear hQ hy;rintro e W2 (⟨rfl,hJ2⟩ |⟨rfl,hJx⟩)
    .gi_wp2
     go_end0
     exact⟨⟨_,rfl⟩,.inl (by rw[qn];exact hJ2)⟩
    .gi_wp2
     go_end0
     exact⟨⟨_,rfl⟩,.inr hJx⟩
 .gi_wp2
  refine bodyPost_ret (results_none rfl _ _ _) rfl ?_;exact⟨⟨_,rfl⟩,.inr hJx⟩
theorem XR: ∀(s:pF) (c:UInt8),Lib.indexByte s c<s.length/\ -1<=Lib.indexByte s c
 |[],_=>by simp [Lib.indexByte]
 |b::l,c=>by
  have:=XR l c;unfold Lib.indexByte;split
  .simp
  .split
   .simp;omega
   .simp only[aUY];omega
theorem aN7 (l:pF) (m n:Nat):(⟨l.toArray⟩:ByteArray).extract m n=⟨((l.drop m).take (n-m)).toArray⟩:=by
 apply ByteArray.ext;apply aV6.1;simp
end
end Go.Proofs.YtkpflnijijccpaaGreatDoor
namespace Go.Proofs.YtkpflnijijccpaaGreatDoor
open Vc Go.RowKit
def HL (g:Gh) (k n:Nat) (v:pU):Gh:={g with cur:=fun i m=>if i=k then(if m=n then some v else none) else g.cur i m}
theorem DR (g:Gh) (k n:Nat) (v:pU):(HL g k n v).cur k n=some v:=by simp [HL]
theorem a2m (g:Gh) (k n:Nat) (v:pU) {m:Nat}(h:n<m):(HL g k n v).cur k m=none:=by
 simp only[HL,aWz];rw[aUX pI]
theorem aN8 {g:Gh}{w w':pT}{e:TypeId}{l l':pG}{n m b cap:Nat}{cur':Array pU}{side:List Prop}
  (hH:sM g w (qT 0 [.row e .str l n])) (hcur:g.cur 0 n=some (.slice (some ⟨b,0,none⟩) n cap))
  (hcm:cap<=maxLen) (hmc:m<=cap) (hl':l'.length=m)
  (hnew:w'.heap[b]? =some (.cells cur' e (0,0))) (hcs':cur'.size=cap) (htk:cur'.toList.take m=l'.map Go.Proofs.encStr) (hgr:w.grownBy w' (some b)):
  ∃g',EN g w [.row e .str l n] ⟨side,[(.own 1 m,none)],[.dead,.row e .str l' m]⟩ g' w' (.slice (some ⟨b,0,none⟩) m cap):=by
 have hg0:qH (qT 0 [qD.row e .str l n]) 0=some (.row e .str l n):=rfl;obtain⟨hl,v,xs,hc2,hown,hF,hnone,hseal⟩:=hH.blk 0 _ hg0;rw[hcur] at hc2;obtain rfl:=aUZ hc2;have hb0: ∀o,yY g (qT 0 [qD.row e .str l n]) b o:=fun o=>⟨0,_,hg0,_,hcur,rfl⟩;have hNG:NG<=b:=hH.tab.2 0 _ b 0 hg0 ⟨_,hcur,rfl⟩;have hS: ∀b' o,g.S b' o->b'≠b:=fun b' o h e1=>hseal b rfl o (e1▸h);have hcell: ∀b' o,g.S b' o->w'.cell? ⟨b',o,none⟩=w.cell? ⟨b',o,none⟩:=fun b' o h=>aVl (a:=⟨b',o,none⟩) (hgr.block b' (hH.sl b' o h) (fun e1=>hS b' o h (aUZ e1)));refine⟨HL g 1 m (.slice (some ⟨b,0,none⟩) m cap),fun b' o h=>⟨h,hcell b' o h⟩,⟨fun i blk h=> ?_,fun i j bi bj b' o hij hi hj ho hp=> ?_,fun b' o h=>aVz (hH.sl b' o h) hgr.size,KX hH.tab.1 hgr.size fun b' h=>hgr.block b' (aVz h hH.tab.1.1) (fun e1=>by have:=aUZ e1;omega),fun i blk b' o h ho=> ?_⟩,⟨⟨DR ..,.inr ⟨b,cap,rfl,hmc⟩⟩,trivial⟩,⟨hgr.os,hgr.tape,hgr.output,hgr.size,fun b' hb hn=>hgr.block b' hb fun e1=>hn 0 (by rw[aUZ e1];exact hb0 0),fun b' o hb hn=> ?_,fun b' o h=> .inl h,fun b' s h=> ?_⟩,fun i blk b' o h ho=> ?_,fun _ _ _ _ _=>rfl,fun i t x ts u y us h=> ?_,fun i p hi h=>h,fun i q u hi h=> ?_⟩
 .match i,h with
  |0,h=>cases h;trivial
  |1,h=>
   cases h;refine⟨hl',_,l'.map Go.Proofs.encStr,DR ..,⟨by simp [hl',Ty.cells],.inr ⟨b,cap,cur',rfl,aV4 _,hnew,hmc,hcm,by simpa[Ty.cells] using hcs',by simpa[Ty.cells] using htk⟩⟩,XO _,fun q hq=>a2m g 1 m _ hq,fun b' hb o hs=> ?_⟩;cases hb;exact hseal b rfl o hs
  |i+2,h=>simp [qT,qH] at h
 .match i,j,hi,hj with
  |0,_,hi,_=>cases hi;exact ho
  |_,0,_,hj=>cases hj;exact hp
  |1,1,_,_=>exact hij rfl
  |i+2,_,hi,_=>simp [qT,qH] at hi
  |1,j+2,_,hj=>simp [qT,qH] at hj
 .match i,h with
  |0,h=>cases h;exact ho.elim
  |1,h=>
   cases h;obtain⟨v,h1,h2⟩:=ho;rw[DR] at h1;obtain rfl:=aUZ h1;cases h2;exact hNG
  |i+2,h=>simp [qT,qH] at h
 .have hne:b'≠b:=fun e1=>hn (e1▸hb0 o);have:=hgr.block b' hb (fun e1=>hne (aUZ e1));exact⟨aVl (a:=⟨b',o,none⟩) this,aVO (a:=⟨b',o,none⟩) this⟩
 .by_cases e1:b'=b
  .exact .inr fun o=>e1▸hb0 o
  .exact .inl ((CX (hgr.block b' (CW h) (fun e2=>e1 (aUZ e2)))).trans h)
 .match i,h with
  |0,h=>cases h;exact ho.elim
  |1,h=>
   cases h;obtain⟨v,h1,h2⟩:=ho;rw[DR] at h1;obtain rfl:=aUZ h1;cases h2;exact .inr (hb0 o)
  |i+2,h=>simp at h
 .match i,h with
  |0,h=>cases h
  |i+1,h=>simp at h
 .match i,hi with
  |0,_=>simpa[HL] using h
theorem aN9 {g:Gh}{w:pT}{e:TypeId}{l:pG}{side:List Prop}
  (hH:sM g w (qT 0 [.row e .str l 0])) {v:pU}(hcur:g.cur 0 0=some v):
  ∃g',EN g w [.row e .str l 0] ⟨side,[(.own 1 0,none)],[.dead,.row e .str [] 0]⟩ g' w v:=by
 have hg0:qH (qT 0 [qD.row e .str l 0]) 0=some (.row e .str l 0):=rfl;obtain⟨hl,v',xs,hc2,hown,hF,hnone,hseal⟩:=hH.blk 0 _ hg0;rw[hcur] at hc2;obtain rfl:=aUZ hc2;have hb0: ∀b o,v.ownBlock=some b->yY g (qT 0 [qD.row e .str l 0]) b o:=fun b o h=>⟨0,_,hg0,_,hcur,h⟩;have hv:(v= .slice none 0 0/\0=0)\/∃b cap,v= .slice (some ⟨b,0,none⟩) 0 cap/\0<=cap:=by
  rcases hown.2 with⟨h1,h2⟩ |⟨b,cap,cur,h1,_,_,h2,_⟩
  .exact .inl ⟨h1,rfl⟩
  .exact .inr ⟨b,cap,h1,h2⟩
 refine⟨HL g 1 0 v,fun b' o h=>⟨h,rfl⟩,⟨fun i blk h=> ?_,fun i j bi bj b' o hij hi hj ho hp=> ?_,hH.sl,hH.tab.1,fun i blk b' o h ho=> ?_⟩,⟨⟨DR ..,hv⟩,trivial⟩,Fr.refl _ _ _,fun i blk b' o h ho=> ?_,fun _ _ _ _ _=>rfl,fun i t x ts u y us h=> ?_,fun i p hi h=>h,fun i q u hi h=> ?_⟩
 .match i,h with
  |0,h=>cases h;trivial
  |1,h=>
   cases h;have hx:xs=[]:=by
    have:=hown.1;simpa using this
   subst hx;exact⟨rfl,v,[],DR ..,hown,rfl,fun q hq=>a2m g 1 0 _ hq,hseal⟩
  |i+2,h=>simp [qT,qH] at h
 .match i,j,hi,hj with
  |0,_,hi,_=>cases hi;exact ho
  |_,0,_,hj=>cases hj;exact hp
  |1,1,_,_=>exact hij rfl
  |i+2,_,hi,_=>simp [qT,qH] at hi
  |1,j+2,_,hj=>simp [qT,qH] at hj
 .match i,h with
  |0,h=>cases h;exact ho.elim
  |1,h=>
   cases h;obtain⟨v',h1,h2⟩:=ho;rw[DR] at h1;obtain rfl:=aUZ h1;exact hH.tab.2 0 _ b' o hg0 ⟨_,hcur,h2⟩
  |i+2,h=>simp [qT,qH] at h
 .match i,h with
  |0,h=>cases h;exact ho.elim
  |1,h=>
   cases h;obtain⟨v',h1,h2⟩:=ho;rw[DR] at h1;obtain rfl:=aUZ h1;exact .inr (hb0 b' o h2)
  |i+2,h=>simp at h
 .match i,h with
  |0,h=>cases h
  |i+1,h=>simp at h
 .match i,hi with
  |0,_=>simpa[HL] using h
theorem aEH {g:Gh}{w w':pT}{e:TypeId}{l:pG}{n b:Nat}{side:List Prop}
  (hH:sM g w (qT 0 [])) (hb:Below w.heap.size w w') (hbb:w.heap.size<=b) (hl:l.length=n) (hnm:n<=maxLen)
  (hnew:w'.heap[b]? =some (.cells (l.map Go.Proofs.encStr).toArray e (0,0))):
  ∃g',EN g w [] ⟨side,[(.own 0 n,none)],[.row e .str l n]⟩ g' w' (.slice (some ⟨b,0,none⟩) n n):=by
 have hlt: ∀b' o,g.S b' o->b'≠b:=fun b' o h e1=>by have:=hH.sl b' o h;omega
 refine⟨HL g 0 n (.slice (some ⟨b,0,none⟩) n n),fun b' o h=>⟨h,aVl (a:=⟨b',o,none⟩) (hb.block b' (hH.sl b' o h))⟩,⟨fun i blk h=> ?_,fun i j bi bj b' o hij hi hj ho hp=> ?_,fun b' o h=>aVz (hH.sl b' o h) hb.size,KX hH.tab.1 hb.size fun b' h=>hb.block b' (aVz h hH.tab.1.1),fun i blk b' o h ho=> ?_⟩,⟨⟨DR ..,.inr ⟨b,n,rfl,aVi _⟩⟩,trivial⟩,⟨hb.os,hb.tape,hb.output,hb.size,fun b' hb' _=>hb.block b' hb',fun b' o hb' _=>⟨aVl (a:=⟨b',o,none⟩) (hb.block b' hb'),aVO (a:=⟨b',o,none⟩) (hb.block b' hb')⟩,fun b' o h=> .inl h,fun b' s h=> .inl ((CX (hb.block b' (CW h))).trans h)⟩,fun i blk b' o h ho=> ?_,fun _ _ _ _ h=>(by cases h),fun i t x ts u y us h=>(by cases h),fun i p hi h=>h,fun i q u hi h=>(by simp at hi)⟩
 .match i,h with
  |0,h=>
   cases h;refine⟨hl,_,l.map Go.Proofs.encStr,DR ..,⟨by simp [hl,Ty.cells],.inr ⟨b,n,_,rfl,aV4 _,hnew,aVi _,hnm,by simp [hl,Ty.cells],?_⟩⟩,XO _,fun q hq=>a2m g 0 n _ hq,fun b' hb' o hs=> ?_⟩
   .exact List.take_of_length_le (by simp [hl,Ty.cells])
   .cases hb';exact hlt b o hs rfl
  |i+1,h=>simp [qT,qH] at h
 .match i,j,hi,hj with
  |0,0,_,_=>exact hij rfl
  |i+1,_,hi,_=>simp [qT,qH] at hi
  |0,j+1,_,hj=>simp [qT,qH] at hj
 .match i,h with
  |0,h=>
   cases h;obtain⟨v',h1,h2⟩:=ho;rw[DR] at h1;obtain rfl:=aUZ h1;cases h2;exact aVZ hH.tab.1.1 hbb
  |i+1,h=>simp [qT,qH] at h
 .match i,h with
  |0,h=>
   cases h;obtain⟨v',h1,h2⟩:=ho;rw[DR] at h1;obtain rfl:=aUZ h1;cases h2;exact .inl hbb
  |i+1,h=>simp at h
end Go.Proofs.YtkpflnijijccpaaGreatDoor
namespace Go.Proofs
open Go.RowKit Go.Lib
def Tryz.lays160_ren:Go.Shelf.Ren:=⟨fun|160=>85|232=>118|231=>117|227=>119|234=>121|233=>120|236=>123|235=>122|228=>160|271=>163|151=>162|197=>161|120=>196|152=>195|260=>194|137=>108|119=>219|224=>187|225=>186|217=>149|266=>185|n=>n,fun|9=>9|4=>4|3=>3|5=>5|117=>162|116=>161|0=>0|124=>165|21=>21|105=>191|46=>175|119=>182|139=>230|138=>229|n=>n,fun|3=>3|4=>4|n=>n⟩
theorem Tryz.lays160:Go.Proofs.Lays.n160 Tryz.prog Tryz.lays160_ren:={
 mixed:=by kernel_rfl
 f119:=Tryz.func219.trans (aVc some pW)
 f120:=Tryz.func196.trans (aVc some pW)
 f137:=Tryz.func108.trans (aVc some pW)
 f151:=Tryz.func162.trans (aVc some pW)
 f152:=Tryz.func195.trans (aVc some pW)
 f160:=Tryz.func85.trans (aVc some pW)
 f197:=Tryz.func161.trans (aVc some pW)
 f217:=Tryz.func149.trans (aVc some pW)
 f224:=Tryz.func187.trans (aVc some pW)
 f225:=Tryz.func186.trans (aVc some pW)
 f227:=Tryz.func119.trans (aVc some pW)
 f228:=Tryz.func160.trans (aVc some pW)
 f231:=Tryz.func117.trans (aVc some pW)
 f232:=Tryz.func118.trans (aVc some pW)
 f233:=Tryz.func120.trans (aVc some pW)
 f234:=Tryz.func121.trans (aVc some pW)
 f235:=Tryz.func122.trans (aVc some pW)
 f236:=Tryz.func123.trans (aVc some pW)
 f260:=Tryz.func194.trans (aVc some pW)
 f266:=Tryz.func185.trans (aVc some pW)
 f271:=Tryz.func163.trans (aVc some pW)
 t0:=Tryz.underlying0
 a0:=Tryz.isAgg0
 z0:=Tryz.sizeOf0
 v0:=Tryz.zeroValue0
 t3:=Tryz.underlying3
 a3:=Tryz.isAgg3
 z3:=Tryz.sizeOf3
 v3:=Tryz.zeroValue3
 t4:=Tryz.underlying4
 a4:=Tryz.isAgg4
 z4:=Tryz.sizeOf4
 v4:=Tryz.zeroValue4
 t5:=Tryz.underlying5
 a5:=Tryz.isAgg5
 z5:=Tryz.sizeOf5
 v5:=Tryz.zeroValue5
 t9:=Tryz.underlying9
 a9:=Tryz.isAgg9
 z9:=Tryz.sizeOf9
 v9:=Tryz.zeroValue9
 t21:=Tryz.underlying21
 a21:=Tryz.isAgg21
 z21:=Tryz.sizeOf21
 v21:=Tryz.zeroValue21
 t46:=Tryz.underlying175
 a46:=Tryz.isAgg175
 z46:=Tryz.sizeOf175
 v46:=Tryz.zeroValue175
 t105:=Tryz.underlying191
 a105:=Tryz.isAgg191
 z105:=Tryz.sizeOf191
 v105:=Tryz.zeroValue191
 t116:=Tryz.underlying161
 a116:=Tryz.isAgg161
 z116:=Tryz.sizeOf161
 t117:=Tryz.underlying162
 a117:=Tryz.isAgg162
 z117:=Tryz.sizeOf162
 v117:=Tryz.zeroValue162
 t119:=Tryz.underlying182
 a119:=Tryz.isAgg182
 z119:=Tryz.sizeOf182
 t124:=Tryz.underlying165
 a124:=Tryz.isAgg165
 z124:=Tryz.sizeOf165
 v124:=Tryz.zeroValue165
 t138:=Tryz.underlying229
 a138:=Tryz.isAgg229
 z138:=Tryz.sizeOf229
 v138:=Tryz.zeroValue229
 t139:=Tryz.underlying230
 a139:=Tryz.isAgg230
 z139:=Tryz.sizeOf230
 v139:=Tryz.zeroValue230
 g3:=by kernel_rfl
 g4:=by kernel_rfl}
def Tryz.lays146_ren:Go.Shelf.Ren:=⟨fun|146=>131|221=>167|268=>199|138=>200|143=>110|195=>220|197=>161|218=>221|219=>151|260=>194|217=>149|225=>186|224=>187|267=>188|266=>185|314=>211|n=>n,fun|9=>9|31=>24|3=>3|4=>4|0=>0|105=>191|21=>21|5=>5|46=>175|119=>182|139=>230|138=>229|146=>233|51=>205|n=>n,fun|1=>1|3=>3|4=>4|n=>n⟩
theorem Tryz.lays146:Go.Proofs.Lays.n146 Tryz.prog Tryz.lays146_ren:={
 mixed:=by kernel_rfl
 f138:=Tryz.func200.trans (aVc some pW)
 f143:=Tryz.func110.trans (aVc some pW)
 f146:=Tryz.func131.trans (aVc some pW)
 f195:=Tryz.func220.trans (aVc some pW)
 f197:=Tryz.func161.trans (aVc some pW)
 f217:=Tryz.func149.trans (aVc some pW)
 f218:=Tryz.func221.trans (aVc some pW)
 f219:=Tryz.func151.trans (aVc some pW)
 f221:=Tryz.func167.trans (aVc some pW)
 f224:=Tryz.func187.trans (aVc some pW)
 f225:=Tryz.func186.trans (aVc some pW)
 f260:=Tryz.func194.trans (aVc some pW)
 f266:=Tryz.func185.trans (aVc some pW)
 f267:=Tryz.func188.trans (aVc some pW)
 f268:=Tryz.func199.trans (aVc some pW)
 f314:=Tryz.func211.trans (aVc some pW)
 t0:=Tryz.underlying0
 a0:=Tryz.isAgg0
 z0:=Tryz.sizeOf0
 v0:=Tryz.zeroValue0
 t3:=Tryz.underlying3
 a3:=Tryz.isAgg3
 z3:=Tryz.sizeOf3
 v3:=Tryz.zeroValue3
 t4:=Tryz.underlying4
 a4:=Tryz.isAgg4
 z4:=Tryz.sizeOf4
 v4:=Tryz.zeroValue4
 t5:=Tryz.underlying5
 a5:=Tryz.isAgg5
 z5:=Tryz.sizeOf5
 v5:=Tryz.zeroValue5
 t9:=Tryz.underlying9
 a9:=Tryz.isAgg9
 z9:=Tryz.sizeOf9
 v9:=Tryz.zeroValue9
 t21:=Tryz.underlying21
 a21:=Tryz.isAgg21
 z21:=Tryz.sizeOf21
 v21:=Tryz.zeroValue21
 t31:=Tryz.underlying24
 a31:=Tryz.isAgg24
 z31:=Tryz.sizeOf24
 v31:=Tryz.zeroValue24
 t46:=Tryz.underlying175
 a46:=Tryz.isAgg175
 z46:=Tryz.sizeOf175
 v46:=Tryz.zeroValue175
 t51:=Tryz.underlying205
 a51:=Tryz.isAgg205
 z51:=Tryz.sizeOf205
 v51:=Tryz.zeroValue205
 t105:=Tryz.underlying191
 a105:=Tryz.isAgg191
 z105:=Tryz.sizeOf191
 v105:=Tryz.zeroValue191
 t119:=Tryz.underlying182
 a119:=Tryz.isAgg182
 z119:=Tryz.sizeOf182
 t138:=Tryz.underlying229
 a138:=Tryz.isAgg229
 z138:=Tryz.sizeOf229
 v138:=Tryz.zeroValue229
 t139:=Tryz.underlying230
 a139:=Tryz.isAgg230
 z139:=Tryz.sizeOf230
 v139:=Tryz.zeroValue230
 t146:=Tryz.underlying233
 a146:=Tryz.isAgg233
 z146:=Tryz.sizeOf233
 v146:=Tryz.zeroValue233
 g1:=by kernel_rfl
 g3:=by kernel_rfl
 g4:=by kernel_rfl}
def Tryz.lays157_ren:Go.Shelf.Ren:=⟨fun|157=>113|229=>152|199=>153|261=>189|311=>212|312=>213|n=>n,fun|9=>9|31=>24|3=>3|5=>5|4=>4|119=>182|0=>0|40=>184|152=>211|21=>21|154=>213|51=>205|141=>215|196=>238|193=>235|198=>241|49=>239|194=>236|201=>244|226=>254|46=>175|227=>255|n=>n,fun|0=>0|6=>2|n=>n⟩
theorem Tryz.lays157:Go.Proofs.Lays.n157 Tryz.prog Tryz.lays157_ren:={
 mixed:=by kernel_rfl
 f157:=Tryz.func113.trans (aVc some pW)
 f199:=Tryz.func153.trans (aVc some pW)
 f229:=Tryz.func152.trans (aVc some pW)
 f261:=Tryz.func189.trans (aVc some pW)
 f311:=Tryz.func212.trans (aVc some pW)
 f312:=Tryz.func213.trans (aVc some pW)
 t0:=Tryz.underlying0
 a0:=Tryz.isAgg0
 z0:=Tryz.sizeOf0
 v0:=Tryz.zeroValue0
 t3:=Tryz.underlying3
 a3:=Tryz.isAgg3
 z3:=Tryz.sizeOf3
 v3:=Tryz.zeroValue3
 t4:=Tryz.underlying4
 a4:=Tryz.isAgg4
 z4:=Tryz.sizeOf4
 v4:=Tryz.zeroValue4
 t5:=Tryz.underlying5
 a5:=Tryz.isAgg5
 z5:=Tryz.sizeOf5
 v5:=Tryz.zeroValue5
 t9:=Tryz.underlying9
 a9:=Tryz.isAgg9
 z9:=Tryz.sizeOf9
 v9:=Tryz.zeroValue9
 t21:=Tryz.underlying21
 a21:=Tryz.isAgg21
 z21:=Tryz.sizeOf21
 v21:=Tryz.zeroValue21
 t31:=Tryz.underlying24
 a31:=Tryz.isAgg24
 z31:=Tryz.sizeOf24
 v31:=Tryz.zeroValue24
 t40:=Tryz.underlying184
 a40:=Tryz.isAgg184
 z40:=Tryz.sizeOf184
 v40:=Tryz.zeroValue184
 t46:=Tryz.underlying175
 a46:=Tryz.isAgg175
 z46:=Tryz.sizeOf175
 v46:=Tryz.zeroValue175
 t49:=Tryz.underlying239
 a49:=Tryz.isAgg239
 z49:=Tryz.sizeOf239
 v49:=Tryz.zeroValue239
 t51:=Tryz.underlying205
 a51:=Tryz.isAgg205
 z51:=Tryz.sizeOf205
 v51:=Tryz.zeroValue205
 t119:=Tryz.underlying182
 a119:=Tryz.isAgg182
 z119:=Tryz.sizeOf182
 t141:=Tryz.underlying215
 a141:=Tryz.isAgg215
 z141:=Tryz.sizeOf215
 v141:=Tryz.zeroValue215
 t152:=Tryz.underlying211
 a152:=Tryz.isAgg211
 z152:=Tryz.sizeOf211
 v152:=Tryz.zeroValue211
 t154:=Tryz.underlying213
 a154:=Tryz.isAgg213
 z154:=Tryz.sizeOf213
 v154:=Tryz.zeroValue213
 t193:=Tryz.underlying235
 a193:=Tryz.isAgg235
 z193:=Tryz.sizeOf235
 v193:=Tryz.zeroValue235
 t194:=Tryz.underlying236
 a194:=Tryz.isAgg236
 z194:=Tryz.sizeOf236
 v194:=Tryz.zeroValue236
 t196:=Tryz.underlying238
 a196:=Tryz.isAgg238
 z196:=Tryz.sizeOf238
 v196:=Tryz.zeroValue238
 t198:=Tryz.underlying241
 a198:=Tryz.isAgg241
 z198:=Tryz.sizeOf241
 v198:=Tryz.zeroValue241
 t201:=Tryz.underlying244
 a201:=Tryz.isAgg244
 z201:=Tryz.sizeOf244
 v201:=Tryz.zeroValue244
 t226:=Tryz.underlying254
 a226:=Tryz.isAgg254
 z226:=Tryz.sizeOf254
 v226:=Tryz.zeroValue254
 t227:=Tryz.underlying255
 a227:=Tryz.isAgg255
 z227:=Tryz.sizeOf255
 v227:=Tryz.zeroValue255
 g0:=by kernel_rfl
 g6:=by kernel_rfl}
def Tryz.lays194_ren:Go.Shelf.Ren:=⟨fun|194=>91|n=>n,fun|31=>24|9=>9|3=>3|4=>4|0=>0|n=>n,fun|n=>n⟩
theorem Tryz.lays194:Go.Proofs.Lays.n194 Tryz.prog Tryz.lays194_ren:={
 mixed:=by kernel_rfl
 f194:=Tryz.func91.trans (aVc some pW)
 t0:=Tryz.underlying0
 a0:=Tryz.isAgg0
 z0:=Tryz.sizeOf0
 v0:=Tryz.zeroValue0
 t3:=Tryz.underlying3
 a3:=Tryz.isAgg3
 z3:=Tryz.sizeOf3
 v3:=Tryz.zeroValue3
 t4:=Tryz.underlying4
 a4:=Tryz.isAgg4
 z4:=Tryz.sizeOf4
 v4:=Tryz.zeroValue4
 t9:=Tryz.underlying9
 a9:=Tryz.isAgg9
 z9:=Tryz.sizeOf9
 v9:=Tryz.zeroValue9
 t31:=Tryz.underlying24
 a31:=Tryz.isAgg24
 z31:=Tryz.sizeOf24
 v31:=Tryz.zeroValue24}
def Tryz.lays171M_ren:Go.Shelf.Ren:=⟨fun|171=>181|243=>208|246=>223|283=>229|284=>230|285=>231|286=>232|129=>178|317=>236|318=>237|319=>238|320=>239|337=>242|338=>243|n=>n,fun|3=>3|9=>9|2=>2|4=>4|171=>259|0=>0|53=>207|37=>22|5=>5|173=>261|212=>267|51=>205|20=>20|213=>268|46=>175|232=>271|233=>272|n=>n,fun|17=>5|18=>6|19=>7|n=>n⟩
theorem Tryz.lays171M:Go.Proofs.LaysM.n171 Tryz.prog Tryz.lays171M_ren:={
 mixed:=by kernel_rfl
 f129:=Tryz.func178.trans (aVc some pW)
 f171:=Tryz.func181.trans (aVc some pW)
 f243:=Tryz.func208.trans (aVc some pW)
 f246:=Tryz.func223.trans (aVc some pW)
 f283:=Tryz.func229.trans (aVc some pW)
 f284:=Tryz.func230.trans (aVc some pW)
 f285:=Tryz.func231.trans (aVc some pW)
 f286:=Tryz.func232.trans (aVc some pW)
 f317:=Tryz.func236.trans (aVc some pW)
 f318:=Tryz.func237.trans (aVc some pW)
 f319:=Tryz.func238.trans (aVc some pW)
 f320:=Tryz.func239.trans (aVc some pW)
 f337:=Tryz.func242.trans (aVc some pW)
 f338:=Tryz.func243.trans (aVc some pW)
 t0:=Tryz.underlying0
 a0:=Tryz.isAgg0
 z0:=Tryz.sizeOf0
 v0:=Tryz.zeroValue0
 t2:=Tryz.underlying2
 a2:=Tryz.isAgg2
 z2:=Tryz.sizeOf2
 v2:=Tryz.zeroValue2
 t3:=Tryz.underlying3
 a3:=Tryz.isAgg3
 z3:=Tryz.sizeOf3
 v3:=Tryz.zeroValue3
 t4:=Tryz.underlying4
 a4:=Tryz.isAgg4
 z4:=Tryz.sizeOf4
 v4:=Tryz.zeroValue4
 t5:=Tryz.underlying5
 a5:=Tryz.isAgg5
 z5:=Tryz.sizeOf5
 v5:=Tryz.zeroValue5
 t9:=Tryz.underlying9
 a9:=Tryz.isAgg9
 z9:=Tryz.sizeOf9
 v9:=Tryz.zeroValue9
 t20:=Tryz.underlying20
 a20:=Tryz.isAgg20
 z20:=Tryz.sizeOf20
 v20:=Tryz.zeroValue20
 t37:=Tryz.underlying22
 a37:=Tryz.isAgg22
 z37:=Tryz.sizeOf22
 v37:=Tryz.zeroValue22
 t46:=Tryz.underlying175
 a46:=Tryz.isAgg175
 z46:=Tryz.sizeOf175
 v46:=Tryz.zeroValue175
 t51:=Tryz.underlying205
 a51:=Tryz.isAgg205
 z51:=Tryz.sizeOf205
 v51:=Tryz.zeroValue205
 t53:=Tryz.underlying207
 a53:=Tryz.isAgg207
 z53:=Tryz.sizeOf207
 v53:=Tryz.zeroValue207
 t171:=Tryz.underlying259
 a171:=Tryz.isAgg259
 z171:=Tryz.sizeOf259
 v171:=Tryz.zeroValue259
 t173:=Tryz.underlying261
 a173:=Tryz.isAgg261
 z173:=Tryz.sizeOf261
 v173:=Tryz.zeroValue261
 t212:=Tryz.underlying267
 a212:=Tryz.isAgg267
 z212:=Tryz.sizeOf267
 v212:=Tryz.zeroValue267
 t213:=Tryz.underlying268
 a213:=Tryz.isAgg268
 z213:=Tryz.sizeOf268
 t232:=Tryz.underlying271
 a232:=Tryz.isAgg271
 z232:=Tryz.sizeOf271
 v232:=Tryz.zeroValue271
 t233:=Tryz.underlying272
 a233:=Tryz.isAgg272
 z233:=Tryz.sizeOf272
 v233:=Tryz.zeroValue272
 g17:=by kernel_rfl
 g18:=by kernel_rfl
 g19:=by kernel_rfl
 i0:=by kernel_rfl
 i2:=by kernel_rfl
 i3:=by kernel_rfl
 i4:=by kernel_rfl
 i5:=by kernel_rfl
 i9:=by kernel_rfl
 i20:=by kernel_rfl
 i37:=by kernel_rfl
 i46:=by kernel_rfl
 i51:=by kernel_rfl
 i53:=by kernel_rfl
 i171:=by kernel_rfl
 i173:=by kernel_rfl
 i212:=by kernel_rfl
 i232:=by kernel_rfl
 i233:=by kernel_rfl
 m17:=by kernel_rfl
 m18:=by kernel_rfl
 m19:=by kernel_rfl}
def Tryz.laysDf_ren:Go.Shelf.Ren:=⟨fun|10=>130|6=>137|n=>n,fun|22=>24|23=>9|25=>58|3=>3|4=>4|0=>0|n=>n,fun|n=>n⟩
theorem Tryz.laysDf:Go.Proofs.SlLaysH.n10 Tryz.prog Tryz.laysDf_ren:={
 mixed:=by kernel_rfl
 f6:=⟨Tryz.f137.name,pJ,Tryz.func137.trans (aVc some pW)⟩
 f10:=⟨Tryz.f130.name,pJ,Tryz.func130.trans (aVc some pW)⟩
 t0:=Tryz.underlying0
 a0:=Tryz.isAgg0
 z0:=Tryz.sizeOf0
 v0:=Tryz.zeroValue0
 t3:=Tryz.underlying3
 a3:=Tryz.isAgg3
 z3:=Tryz.sizeOf3
 v3:=Tryz.zeroValue3
 t4:=Tryz.underlying4
 a4:=Tryz.isAgg4
 z4:=Tryz.sizeOf4
 v4:=Tryz.zeroValue4
 t22:=Tryz.underlying24
 a22:=Tryz.isAgg24
 z22:=Tryz.sizeOf24
 v22:=Tryz.zeroValue24
 a23:=Tryz.isAgg9
 z23:=Tryz.sizeOf9
 t25:=Tryz.underlying58
 a25:=Tryz.isAgg58
 z25:=Tryz.sizeOf58
 v25:=Tryz.zeroValue58}
def Tryz.lays156_ren:Go.Shelf.Ren:=⟨fun|156=>70|165=>101|166=>30|169=>31|240=>58|241=>142|276=>94|277=>183|n=>n,fun|31=>24|9=>9|3=>3|4=>4|0=>0|20=>20|72=>73|76=>76|70=>71|37=>22|75=>75|127=>106|164=>142|5=>5|80=>78|n=>n,fun|n=>n⟩
theorem Tryz.lays156:Go.Proofs.Lays.n156 Tryz.prog Tryz.lays156_ren:={
 mixed:=by kernel_rfl
 f156:=Tryz.func70.trans (aVc some pW)
 f165:=Tryz.func101.trans (aVc some pW)
 f166:=Tryz.func30.trans (aVc some pW)
 f169:=Tryz.func31.trans (aVc some pW)
 f240:=Tryz.func58.trans (aVc some pW)
 f241:=Tryz.func142.trans (aVc some pW)
 f276:=Tryz.func94.trans (aVc some pW)
 f277:=Tryz.func183.trans (aVc some pW)
 t0:=Tryz.underlying0
 a0:=Tryz.isAgg0
 z0:=Tryz.sizeOf0
 v0:=Tryz.zeroValue0
 t3:=Tryz.underlying3
 a3:=Tryz.isAgg3
 z3:=Tryz.sizeOf3
 v3:=Tryz.zeroValue3
 t4:=Tryz.underlying4
 a4:=Tryz.isAgg4
 z4:=Tryz.sizeOf4
 v4:=Tryz.zeroValue4
 t9:=Tryz.underlying9
 a9:=Tryz.isAgg9
 z9:=Tryz.sizeOf9
 v9:=Tryz.zeroValue9
 t20:=Tryz.underlying20
 a20:=Tryz.isAgg20
 z20:=Tryz.sizeOf20
 v20:=Tryz.zeroValue20
 t31:=Tryz.underlying24
 a31:=Tryz.isAgg24
 z31:=Tryz.sizeOf24
 v31:=Tryz.zeroValue24
 t37:=Tryz.underlying22
 a37:=Tryz.isAgg22
 z37:=Tryz.sizeOf22
 v37:=Tryz.zeroValue22
 t70:=Tryz.underlying71
 a70:=Tryz.isAgg71
 z70:=Tryz.sizeOf71
 v70:=Tryz.zeroValue71
 t72:=Tryz.underlying73
 a72:=Tryz.isAgg73
 z72:=Tryz.sizeOf73
 v72:=Tryz.zeroValue73
 t75:=Tryz.underlying75
 a75:=Tryz.isAgg75
 z75:=Tryz.sizeOf75
 v75:=Tryz.zeroValue75
 t76:=Tryz.underlying76
 a76:=Tryz.isAgg76
 z76:=Tryz.sizeOf76
 v76:=Tryz.zeroValue76
 t127:=Tryz.underlying106
 a127:=Tryz.isAgg106
 z127:=Tryz.sizeOf106
 v127:=Tryz.zeroValue106
 t164:=Tryz.underlying142
 a164:=Tryz.isAgg142
 z164:=Tryz.sizeOf142
 v164:=Tryz.zeroValue142}
def Tryz.lays219_ren:Go.Shelf.Ren:=⟨fun|219=>151|217=>149|225=>186|224=>187|267=>188|266=>185|314=>211|n=>n,fun|9=>9|3=>3|4=>4|5=>5|46=>175|146=>233|51=>205|n=>n,fun|1=>1|n=>n⟩
theorem Tryz.lays219:Go.Proofs.Lays.n219 Tryz.prog Tryz.lays219_ren:={
 mixed:=by kernel_rfl
 f217:=Tryz.func149.trans (aVc some pW)
 f219:=Tryz.func151.trans (aVc some pW)
 f224:=Tryz.func187.trans (aVc some pW)
 f225:=Tryz.func186.trans (aVc some pW)
 f266:=Tryz.func185.trans (aVc some pW)
 f267:=Tryz.func188.trans (aVc some pW)
 f314:=Tryz.func211.trans (aVc some pW)
 t3:=Tryz.underlying3
 a3:=Tryz.isAgg3
 z3:=Tryz.sizeOf3
 v3:=Tryz.zeroValue3
 t4:=Tryz.underlying4
 a4:=Tryz.isAgg4
 z4:=Tryz.sizeOf4
 v4:=Tryz.zeroValue4
 t5:=Tryz.underlying5
 a5:=Tryz.isAgg5
 z5:=Tryz.sizeOf5
 v5:=Tryz.zeroValue5
 t9:=Tryz.underlying9
 a9:=Tryz.isAgg9
 z9:=Tryz.sizeOf9
 v9:=Tryz.zeroValue9
 t46:=Tryz.underlying175
 a46:=Tryz.isAgg175
 z46:=Tryz.sizeOf175
 v46:=Tryz.zeroValue175
 t51:=Tryz.underlying205
 a51:=Tryz.isAgg205
 z51:=Tryz.sizeOf205
 v51:=Tryz.zeroValue205
 t146:=Tryz.underlying233
 a146:=Tryz.isAgg233
 z146:=Tryz.sizeOf233
 v146:=Tryz.zeroValue233
 g1:=by kernel_rfl}
theorem Tryz.builderExtraJ:Builder.Extra Tryz.prog Tryz.lays156_ren:={
 sizeBuilder:=by kernel_rfl
 liesBuilder:=by kernel_rfl
 t5:=Tryz.underlying5
 a5:=Tryz.isAgg5
 z5:=Tryz.sizeOf5
 v5:=Tryz.zeroValue5
 infoByte:=by kernel_rfl
 cellsByte:=by kernel_rfl
 sizeByte:=by kernel_rfl
 neB5:=by decide}
end Go.Proofs
namespace Go.Proofs.YtkpflnijijccpaaGreatDoor
open Vc Go.RowKit
theorem aEI {g:Gh}{w:pT}{e:TypeId}{l:pG}{n:Nat}{v:pU}(hH:sM g w (qT 0 [.row e .str l n])) (hv:rX g w (.own 0 n,none) v):
  l.length=n/\g.cur 0 n=some v/\((v= .slice none 0 0/\n=0)\/∃b cap cur,v= .slice (some ⟨b,0,none⟩) n cap/\w.heap[b]? =some (.cells cur e (0,0))/\n<=cap/\cap<=maxLen/\cur.size=cap/\Go.Sort.Holds Go.Proofs.encStr w b 0 l.toArray/\b<w.heap.size):=by
 have hg0:qH (qT 0 [qD.row e .str l n]) 0=some (.row e .str l n):=rfl;obtain⟨hl,v',xs,hcur,hown,hF,hnone,hseal⟩:=hH.blk 0 _ hg0;have hva:v=v':=by
  have:=hv.1.1;rw[hcur] at this;exact(aUZ this).symm
 subst hva;subst hl;refine⟨rfl,hcur,?_⟩;obtain⟨hx,⟨rfl,h0⟩ |⟨b,cap,cur,rfl,hb0,hbk,hnc,hcm,hcs,htk⟩⟩:=hown
 .exact .inl ⟨rfl,h0⟩
 .have hxs:=a2e hF;subst hxs;have hc1:(Ty.str).cells=1:=rfl;rw[hc1,aWG] at hcs htk;refine .inr ⟨b,cap,cur,rfl,hbk,hnc,hcm,hcs,?_,?_⟩
  .intro j hj;have hj':j<l.length:=by simpa using hj
   refine⟨?_,Lib.frozen_of_heap hbk _⟩;rw[Lib.cell_of_heap hbk,aVx];have h2:(cur.toList.take l.length)[j]? =(l.map Go.Proofs.encStr)[j]? :=by rw[htk]
   rw[aWa hj',aV3] at h2;rw[h2];simp [hj']
  .rcases aV8 b w.heap.size with h|h
   .exact h
   .rw[Array.getElem?_eq_none h] at hbk;cases hbk
theorem aEJ {g:Gh}{w:pT}{e:TypeId}{l l':pG}{n q b cap:Nat}{cur:Array pU}{side:List Prop}{pad:pG}
  (hH:sM g w (qT 0 [.row e .str l n])) (hcur:g.cur 0 n=some (.slice (some ⟨b,0,none⟩) n cap)) (hbk:w.heap[b]? =some (.cells cur e (0,0))) (hcs:cur.size=cap)
  (hcm:cap<=maxLen) (hp:l'.length+pad.length<=cap):
  ∃g',EN g w [.row e .str l n] ⟨side,[(.own 1 l'.length,none)],[.dead,.row e .str l' l'.length]⟩ g' (Go.Sort.putRow Go.Proofs.encStr (Go.Sort.ahead w q) b 0 (l'++pad).toArray) (.slice (some ⟨b,0,none⟩) l'.length cap):=by
 refine aN8 (cur':=Go.Sort.putCells Go.Proofs.encStr 0 (l'++pad).toArray cur) hH hcur hcm pI rfl ?_ (by simpa[Go.Sort.putCells] using hcs) ?_ ⟨rfl,rfl,rfl,by simp,fun k hk hne=> ?_⟩
 .simp [Go.Sort.putRow,Go.Sort.mapBlock,aWb,hbk,Go.Sort.onCells]
 .have h1:=aEs (l'++pad) cur (by rw[aUW];omega);have h2:=aVc (List.take l'.length) h1;rw[List.take_take,aUW,Nat.min_eq_left (Nat.le_add_right _ _),List.map_append,aVN pK] at h2;exact h2.trans (List.take_of_length_le pK)
 .have hkb:b≠k:=fun h=>hne (by rw[h]);simp [Go.Sort.putRow,Go.Sort.mapBlock,aWb,hkb]
@[go_sem] def S6:List qE->List qD->Option qK
 |[(.own 0 n,none)],[.row 9 .str l n2]=>some ⟨[n=n2,n2<=9223372036854775807],[(.own 1 (List.length (Lib.compact l)),none)],[.dead,.row 9 .str (Lib.compact l) (List.length (Lib.compact l))]⟩
 |_,_=>none
theorem a2n:xR Tryz.prog 91 S6:=by
 refine⟨fun _ _=>rfl,fun g w args vals L r hH ha hC hs=> ?_⟩;unfold S6 at hC;split at hC
 .rename_i n l n2;cases hC;obtain rfl:n=n2:=hs _ pK;have hn:=hs (n<=9223372036854775807) pK;clear hs;obtain⟨va,_,rfl,ra,hv⟩:=ha;cases hv;obtain⟨hl,hcur,⟨rfl,rfl⟩ |⟨b,cap,cur,rfl,hbk,hnc,hcm,hcs,hho,hb⟩⟩:=aEI hH ra
  .obtain rfl:l=[]:=aWt.1 hl;refine(Any.slices_Compact_string_empty Tryz.lays194 none 0 w).mono ?_;rintro en w' ⟨rfl,rfl⟩;obtain⟨g',hg⟩:=aN9 (side:=[]) hH hcur;exact⟨_,g',rfl,hg.shut,hg.heap,hg.ret,hg.fr,hg.perm,hg.J,hg.ty,hg.Jt,hg.cur⟩
  .subst hl;refine(Any.slices_Compact_string Tryz.lays194 b 0 cap l w hho hn hnc).mono ?_;rintro en w' ⟨rfl,q,rfl⟩;obtain⟨g',hg⟩:=aEJ (side:=[]) (q:=q) (l':=Lib.compact l) (pad:=List.replicate (l.length- (Lib.compact l).length) []) hH hcur hbk hcs hcm (by have:=Lib.compact_length_le l;simp;omega);exact⟨_,g',rfl,hg.shut,hg.heap,hg.ret,hg.fr,hg.perm,hg.J,hg.ty,hg.Jt,hg.cur⟩
 .cases hC
def uO (l:pG):pG:=l.filter fun x=> !decide (x=[])
@[go_sem] def S7:List qE->List qD->Option qK
 |[(.own 0 n,none),(.val .clo (some (132,[])),none)],[.row 9 .str l n2]=>some ⟨[n=n2,0<n2/\n2<=9223372036854775807],[(.own 1 (List.length (uO l)),none)],[.dead,.row 9 .str (uO l) (List.length (uO l))]⟩
 |_,_=>none
theorem aEK (x:pF) (W:pT):FnGives Tryz.prog 132 #[] #[Go.Proofs.encStr x] (.bool (decide (x=[]))) W:=by
 show Calls Tryz.prog 132 #[.string ⟨x.toArray⟩] W _
 go_enter Tryz.func132,Tryz.ntmps132
 go_wp2
 all_goals (go_ret;refine⟨?_,0,rfl⟩;cases x<;>simp_all)
theorem a2o:xR Tryz.prog 130 S7:=by
 refine⟨fun _ _=>rfl,fun g w args vals L r hH ha hC hs=> ?_⟩;unfold S7 at hC;split at hC
 .rename_i n l n2;cases hC;obtain rfl:n=n2:=hs _ pK;obtain⟨hn0,hn⟩:=hs (0<n/\n<=9223372036854775807) pK;clear hs;obtain⟨va,_,rfl,ra,vb,_,rfl,rb,hv⟩:=ha;cases hv;obtain rfl:vb= .func (.func 132) #[] #[]:=by
   rcases rb.1 with⟨h1,_⟩ |⟨_,vs,h2,h3⟩
   .cases h1
   .rw[show vs=[] from h2] at h3;simpa using h3
  obtain⟨hl,hcur,⟨rfl,rfl⟩ |⟨b,cap,cur,rfl,hbk,hnc,hcm,hcs,hho,hb⟩⟩:=aEI hH ra
  .omega
  .subst hl;refine(AnyE.slices_DeleteFunc Tryz.laysDf Go.Proofs.encStr (fun _=>rfl) (fun x=>decide (x=[])) 132 #[] (fun _ _=>rfl) [] Tryz.zeroValue9 b 0 cap l.toArray w (fun W x _=>aEK x W) (fun n os dk x _=>aEK x _) hho (by simpa using hn) (by simpa using hnc)).mono ?_;rintro en w' ⟨rfl,q,rfl⟩;obtain⟨g',hg⟩:=aEJ (side:=[]) (q:=q) (l':=uO l) (pad:=List.replicate (l.length- (uO l).length) []) hH hcur hbk hcs hcm (by have:(uO l).length<=l.length:=List.length_filter_le _ _;simp;omega);exact⟨_,g',rfl,hg.shut,hg.heap,hg.ret,hg.fr,hg.perm,hg.J,hg.ty,hg.Jt,hg.cur⟩
 .cases hC
theorem aOa {w:pT}(h:DH w):Lib.TabIs Tryz.prog w "internal/strconv.uint64pow10" .u64 Lib.pow10Tab:=by
 obtain⟨_,e,fz,h1⟩:=h.2.2.2 _ (aU2);unfold Lib.TabIs World.var?;rw[show Tryz.prog.globalNamed "internal/strconv.uint64pow10" =some 5 from by kernel_rfl]
 simp only[aUS];rw[h1]
theorem aOb {w:pT}(h:DH w):Lib.TabIs Tryz.prog w "strings.asciiSpace" .u8 Lib.asciiSpaceTab:=by
 obtain⟨_,e,fz,h1⟩:=h.2.2.2 _ (aU3 _ aU2);unfold Lib.TabIs World.var?;rw[show Tryz.prog.globalNamed "strings.asciiSpace" =some 0 from by kernel_rfl]
 simp only[aUS];rw[h1]
@[go_sem] def S8:List qE->List qD->Option qK
 |[(.val .str O,none),(.val .str Z,none)],[]=>some ⟨[(List.all Z fun b=>decide (b.toNat<128))=true/\List.length Z<4294967281,List.length O<=9223372036854775807],[(.val .str (Lib.trimS O Z),none)],[]⟩
 |_,_=>none
theorem a2p:xR Tryz.prog 85 S8:=by
 refine JG (fun _ _=>rfl) fun g w args vals L r hT ha hC hs=> ?_;unfold S8 at hC;split at hC
 .rename_i s c;cases hC;obtain⟨h1,h2⟩:=hs _ aU2;have h3:=hs (List.length s<=9223372036854775807) pK;obtain⟨va,_,rfl,ra,vb,_,rfl,rb,hv⟩:=ha;obtain rfl:=xC ra.1;obtain rfl:=xC rb.1;cases hv;exact⟨rfl,rfl,(Any.strings_Trim_laid Tryz.lays160 pW ⟨List.toArray s⟩ ⟨List.toArray c⟩ w h3 h2 (ascii_of_all h1)).mono fun e w' ⟨he,hb⟩=>⟨_,he,hb,BX _ _ _,trivial⟩⟩
 .cases hC
@[go_sem] def S9:List qE->List qD->Option qK
 |[(.val (.int .i64) n,none)],[]=>some ⟨[-9223372036854775808<=n/\n<=9223372036854775807],[(.val .str (Lib.itoa n),none)],[]⟩
 |_,_=>none
theorem a2q:xR Tryz.prog 181 S9:=by
 refine JG (fun _ _=>rfl) fun g w args vals L r hT ha hC hs=> ?_;unfold S9 at hC;split at hC
 .rename_i n;cases hC;obtain⟨h1,h2⟩:=hs _ aU2;obtain⟨va,_,rfl,ra,hv⟩:=ha;obtain rfl:=x5 ra.1;cases hv;refine⟨rfl,rfl,(Any.strconv_Itoa Tryz.lays171M n h1 h2 w (aOa hT)).mono fun e w' ⟨he,k,os,hw⟩=>⟨_,he,?_,BX _ _ _,trivial⟩⟩;subst hw;exact⟨rfl,rfl,rfl,by show w.heap.size<=(w.heap++os).size;rw[aWK];omega,fun _ hj=>Sort.heap_grow_old (w.drewN k) os hj⟩
 .cases hC
@[go_sem] def SA:List qE->List qD->Option qK
 |[(.val .str s,none)],[]=>some ⟨[(List.all s fun b=>decide (b.toNat<128))=true/\List.length s<4294967281],[(.own 0 (List.length (Lib.fields s)),none)],[.row 9 .str (Lib.fields s) (List.length (Lib.fields s))]⟩
 |_,_=>none
theorem aEL: ∀(ws:Bool) (s:pF),Lib.cntF ws s<=s.length
 |_,[]=>aVi _
 |ws,b::l=>by
  have:=aEL (Lib.isSp b) l;simp only[Lib.cntF,aUY];split<;>omega
theorem a2r:xR Tryz.prog 113 SA:=by
 refine⟨fun _ _=>rfl,fun g w args vals L r hH ha hC hs=> ?_⟩;unfold SA at hC;split at hC
 .rename_i s;cases hC;obtain⟨h1,h2⟩:=hs _ aU2;obtain⟨va,_,rfl,ra,hv⟩:=ha;obtain rfl:=xC ra.1;cases hv;refine(Any.strings_Fields Tryz.lays157 pW pW ⟨List.toArray s⟩ w h2 (ascii_of_all h1) (aOb hH.tab.1)).mono fun e w' ⟨he,hw⟩=> ?_;subst hw;obtain⟨g',hg⟩:=aEH (side:=[]) (w':=w.alloc (.cells ((Lib.fields s).map fun l=>Value.string ⟨l.toArray⟩).toArray 9)) (e:=9) (l:=Lib.fields s) (b:=w.heap.size) hH ((Below.refl _ _).alloc (aVi _) _) (aVi _) rfl (by rw[Lib.fields_length];have:=aEL true s;have:maxLen=9223372036854775807:=rfl;omega) (World.alloc_heap_new _ _);exact⟨_,g',he,hg.shut,hg.heap,hg.ret,hg.fr,hg.perm,hg.J,hg.ty,hg.Jt,hg.cur⟩
 .cases hC
def tG (s c:pF):pG:=(Lib.splitB ⟨List.toArray c⟩ 0 (Lib.countB ⟨List.toArray s⟩ ⟨List.toArray c⟩) ⟨List.toArray s⟩).map (·.data.toList)
@[go_sem] def SB:List qE->List qD->Option qK
 |[(.val .str s,none),(.val .str c,none)],[]=>some ⟨[0<List.length c/\List.length s<4294967281],[(.own 0 (List.length (tG s c)),none)],[.row 9 .str (tG s c) (List.length (tG s c))]⟩
 |_,_=>none
theorem a2s:xR Tryz.prog 131 SB:=by
 refine⟨fun _ _=>rfl,fun g w args vals L r hH ha hC hs=> ?_⟩;unfold SB at hC;split at hC
 .rename_i s c;cases hC;obtain⟨h1,h2⟩:=hs _ aU2;obtain⟨va,_,rfl,ra,vb,_,rfl,rb,hv⟩:=ha;obtain rfl:=xC ra.1;obtain rfl:=xC rb.1;cases hv;obtain⟨m,hm⟩:=hH.tab.1.2.2.1;refine(Any.strings_Split Tryz.lays146 pW ⟨List.toArray s⟩ ⟨List.toArray c⟩ m w h2 hm h1).mono fun e w' ⟨he,hw⟩=> ?_;subst hw;have hlen:=Lib.splitB_all ⟨List.toArray c⟩ h1 0 _ ⟨List.toArray s⟩ rfl;have hle:=Lib.countB_le ⟨List.toArray c⟩ h1 (List.length s) ⟨List.toArray s⟩ (aVi _);have hls:(tG s c).length=Lib.countB ⟨List.toArray s⟩ ⟨List.toArray c⟩+1:=by unfold tG;rw[aVX,hlen]
  obtain⟨g',hg⟩:=aEH (side:=[]) (w':=w.alloc (.cells ((Lib.splitB ⟨List.toArray c⟩ 0 (Lib.countB ⟨List.toArray s⟩ ⟨List.toArray c⟩) ⟨List.toArray s⟩).map Value.string).toArray 9)) (e:=9) (l:=tG s c) (b:=w.heap.size) hH ((Below.refl _ _).alloc (aVi _) _) (aVi _) rfl (by rw[hls];have:(⟨List.toArray s⟩:ByteArray).size=List.length s:=rfl;have:maxLen=9223372036854775807:=rfl;omega) (by
   rw[World.alloc_heap_new];unfold tG;rw[List.map_map];rfl)
  exact⟨_,g',he,hg.shut,hg.heap,by rw[<-hls];exact hg.ret,hg.fr,hg.perm,hg.J,hg.ty,hg.Jt,hg.cur⟩
 .cases hC
@[go_sem] def SC:List qE->List qD->Option qK
 |[(.val .str O,none),(.val .str Z,none)],[]=>some ⟨[List.length O<4294967281],[(.val (.int .i64) (z6 O Z),none)],[]⟩
 |_,_=>none
theorem a2t:xR Tryz.prog 151 SC:=by
 refine JG (fun _ _=>rfl) fun g w args vals L r hT ha hC hs=> ?_;unfold SC at hC;split at hC
 .rename_i s c;cases hC;have h1:=hs _ aU2;obtain⟨va,_,rfl,ra,vb,_,rfl,rb,hv⟩:=ha;obtain rfl:=xC ra.1;obtain rfl:=xC rb.1;cases hv;obtain⟨m,hm⟩:=hT.2.2.1;exact⟨rfl,rfl,(XL (Any.stringslite_Index Tryz.lays219 ⟨List.toArray s⟩ ⟨List.toArray c⟩ m w h1 hm)).mono fun e w' ⟨he,hb⟩=>⟨_,he,hb,x6 _ _ _ _,trivial⟩⟩
 .cases hC
def vX (l:pG) (sep:pF):pF:=Lib.join l sep
@[go_sem] def SD:List qE->List qD->Option qK
 |[(.val (.list .str) l,none),(.val .str c,none)],[]=>some ⟨[List.length l<=140737488355328/\List.length (vX l c)<=140737488355328],[(.val .str (vX l c),none)],[]⟩
 |_,_=>none
theorem a2u:xR Tryz.prog 70 SD:=by
 refine JG (fun _ _=>rfl) fun g w args vals L r hT ha hC hs=> ?_;unfold SD at hC;split at hC
 .rename_i l c;cases hC;obtain⟨h1,h2⟩:=hs _ aU2;obtain⟨va,_,rfl,ra,vb,_,rfl,rb,hv⟩:=ha;obtain⟨a,cap,rfl,hcap,hlist⟩:=DN ra.1;obtain rfl:=xC rb.1;cases hv;refine⟨rfl,rfl,?_⟩;unfold vX at h2;have hxm:(l.map fun x=>(⟨x.toArray⟩:ByteArray)).map (·.data.toList)=l:=by
   rw[List.map_map];exact(List.map_congr_left fun x _=>rfl).trans (List.map_id l)
  rcases l with _|⟨x,_|⟨y,r⟩⟩
  .exact(XL (Any.strings_Join_none Tryz.lays156 Tryz.builderExtraJ a cap ⟨List.toArray c⟩ w)).mono fun e w' ⟨he,hb⟩=>⟨_,he,hb,BX _ _ _,trivial⟩
  .rcases hlist with h|⟨b,o,rfl,hL⟩
   .cases h
   .obtain⟨cs,k1,k2,k3,k4⟩:=NU hL (i:=0) (x:=x) rfl;rw[show cs=[.string ⟨List.toArray x⟩] from k4] at k2;have k5:=k2 0 _ rfl;rw[Nat.zero_mul,aVU] at k5;exact(XL (Any.strings_Join_one Tryz.lays156 Tryz.builderExtraJ b o cap ⟨List.toArray x⟩ ⟨List.toArray c⟩ w k5)).mono fun e w' ⟨he,hb⟩=>⟨_,he,hb,(by rw[show vX [x] c=x from Lib.join_one x c];exact BX _ _ _),trivial⟩
  .rcases hlist with h|⟨b,o,rfl,hL⟩
   .cases h
   .have hc: ∀(j:Nat) z,((x::y::r).map fun x=>(⟨List.toArray x⟩:ByteArray))[j]? =some z->w.cell? ⟨b,o+j,none⟩=some (.string z):=by
     intro j z hz;rw[List.getElem?_map] at hz;obtain⟨u,hu,rfl⟩:=aU1.1 hz;obtain⟨cs,k1,k2,k3,k4⟩:=NU hL hu;rw[show cs=[.string ⟨List.toArray u⟩] from k4] at k2;have k5:=k2 0 _ rfl;rw[aVU,show j*Ty.str.cells=j from aWG j] at k5;exact k5
    have h0:=hc 0 _ rfl;have:=Any.strings_Join_many Tryz.lays156 Tryz.builderExtraJ b o cap ((x::y::r).map fun x=>(⟨List.toArray x⟩:ByteArray)) ⟨List.toArray c⟩ w hc (World.block_lt_of_cell? _ _ h0) pK (by simpa using h1) (by simpa using hcap) (by rw[hxm];exact h2);rw[hxm] at this;rw[aVX] at this;exact this.mono fun e w' ⟨he,hb⟩=>⟨_,he,hb,BX _ _ _,trivial⟩
 .cases hC
def SE (_a _b:Int):pF:=[]
def JJ (_a:Int):pF:=[]
@[go_sem] def SF:List qE->List qD->Option qK
 |[(.val (.int .u8) a,none),(.val (.int .i64) b,none)],[]=>some ⟨[False],[(.val .str (SE a b),none)],[]⟩
 |_,_=>none
theorem a2v:xR Tryz.prog 182 SF:=by
 refine JG (fun _ _=>rfl) fun g w args vals L r hT ha hC hs=> ?_;unfold SF at hC;split at hC
 .cases hC;exact(hs _ aU2).elim
 .cases hC
@[go_sem] abbrev a2w:Nat×TI:=(3,⟨(.int .i64),0,0,true,[]⟩)
theorem aOc:uG Tryz.prog a2w.1 a2w.2:=⟨pW,(show Tryz.prog.underlying _=_ from by kernel_rfl)⟩
end Go.Proofs.YtkpflnijijccpaaGreatDoor
namespace Go.Proofs.YtkpflnijijccpaaGreatDoor
open Vc
namespace Gf
noncomputable section
@[go_sem] abbrev sN:Ty:=(.pair .str (.pair .str (.pair .str (.pair (.list .str) (.pair (.list .str) (.pair (.int .i64) (.pair (.list (.pair .str (.pair .str .unit))) .unit)))))))
@[go_sem] abbrev D0:Ty:=(.pair .str (.pair (.list .str) (.pair (.list (.pair .str (.pair .str .unit))) (.pair (.list sN) .unit))))
@[go_sem] abbrev AR:Ty:=(.pair .str (.pair (.list .str) (.pair .str .unit)))
@[go_sem] abbrev wR:Ty:=(.pair .mref (.pair (.list (.int .u8)) .unit))
abbrev r7:Type:=(pF×(pF×Unit))
abbrev s8:Type:=(pF×(pF×(pF×(pG×(pG×(Int×((List r7)×Unit)))))))
abbrev G3:Type:=(pF×(pG×(pF×Unit)))
abbrev sR:Type:=(pF×(pG×((List r7)×((List s8)×Unit))))
@[go_sem] abbrev sZ:Ty:=(.pair (.int .i64) (.pair .str (.pair (.int .i64) .unit)))
@[go_sem] abbrev sL:Nat×TI:=(9,⟨.str,0,0,false,[]⟩)
theorem sP:uG Tryz.prog sL.1 sL.2:=⟨pW,(show Tryz.prog.underlying _=_ from by kernel_rfl)⟩
@[go_sem] abbrev AS:Nat×TI:=(94,⟨sZ,0,1,false,[]⟩)
theorem G4:uG Tryz.prog AS.1 AS.2:=⟨pW,(show ((_/\∃_,_/\_)\/_)/\_ from⟨.inl ⟨rfl,_,Tryz.underlying94,(show _/\_/\_/\_ from⟨rfl,pW,pW,(show _/\_/\_/\_ from⟨rfl,pW,pW,(show _/\_/\_/\_ from⟨rfl,pW,pW,trivial⟩)⟩)⟩)⟩,(fun _=>⟨pW,1,pJ,(.struct rfl Tryz.underlying94 pW (.cons pJ rfl pW pW (.int Tryz.underlying3) (.cons pJ rfl pW pW (.str Tryz.underlying9) (.cons pJ rfl pW pW (.int Tryz.underlying3) .nil))))⟩)⟩)⟩
theorem rK:Tryz.prog.follows .mixedOrders=true:=by kernel_rfl
@[go_sem] abbrev G5:Nat×r5:=(108,⟨[.v,.v],RY,[],[],none⟩)
theorem LU:r8 Tryz.prog G5:=⟨a2b,fun _ h=>by cases h⟩
@[go_sem] abbrev OB:Nat×r5:=(127,⟨[.v,.v],RZ,[],[],none⟩)
theorem a2x:r8 Tryz.prog OB:=⟨a2c,fun _ h=>by cases h⟩
@[go_sem] abbrev LV:Nat×r5:=(85,⟨[.v,.v],S8,[],[],none⟩)
theorem XS:r8 Tryz.prog LV:=⟨a2p,fun _ h=>by cases h⟩
@[go_sem] abbrev OC:Nat×r5:=(179,⟨[.v],S0,[],[],none⟩)
theorem a2y:r8 Tryz.prog OC:=⟨a2d,fun _ h=>by cases h⟩
@[go_sem] abbrev OD:Nat×r5:=(181,⟨[.v],S9,[],[],none⟩)
theorem a2z:r8 Tryz.prog OD:=⟨a2q,fun _ h=>by cases h⟩
@[go_sem] abbrev OE:Nat×r5:=(182,⟨[.v,.v],SF,[],[],none⟩)
theorem a2A:r8 Tryz.prog OE:=⟨a2v,fun _ h=>by cases h⟩
@[go_sem] abbrev JK:Nat×r5:=(58,⟨[.p wR [1]],S1,[],[],none⟩)
theorem SG:r8 Tryz.prog JK:=⟨a2g,fun _ h=>by cases h⟩
@[go_sem] abbrev HM:Nat×r5:=(31,⟨[.p wR [1]],S2,[],[],none⟩)
theorem OF:r8 Tryz.prog HM:=⟨a2j,fun _ h=>by cases h⟩
@[go_sem] abbrev LW:Nat×r5:=(113,⟨[.v],SA,[],[],none⟩)
theorem XT:r8 Tryz.prog LW:=⟨a2r,fun _ h=>by cases h⟩
@[go_sem] abbrev OG:Nat×r5:=(131,⟨[.v,.v],SB,[],[],none⟩)
theorem a2B:r8 Tryz.prog OG:=⟨a2s,fun _ h=>by cases h⟩
@[go_sem] abbrev LX:Nat×r5:=(91,⟨[.r],S6,[],[],none⟩)
theorem XU:r8 Tryz.prog LX:=⟨a2n,fun _ h=>by cases h⟩
@[go_sem] abbrev OH:Nat×r5:=(130,⟨[.r,.v],S7,[],[],none⟩)
theorem a2C:r8 Tryz.prog OH:=⟨a2o,fun _ h=>by cases h⟩
@[go_sem] abbrev OI:Nat×r5:=(159,⟨[.r,.v,.v],S3,[],[],none⟩)
theorem a2D:r8 Tryz.prog OI:=⟨a2k,fun _ h=>by cases h⟩
@[go_sem] abbrev LY:Nat×r5:=(151,⟨[.v,.v],SC,[],[],none⟩)
theorem XV:r8 Tryz.prog LY:=⟨a2t,fun _ h=>by cases h⟩
@[go_sem] abbrev OJ:Nat×r5:=(70,⟨[.v,.v],SD,[],[],none⟩)
theorem a2E:r8 Tryz.prog OJ:=⟨a2u,fun _ h=>by cases h⟩
@[go_sem] abbrev LZ:Nat×r5:=(88,⟨[.v],XM,[],[],some XN⟩)
theorem XW:r8 Tryz.prog LZ:=a2f
end
end Gf
namespace Gf
noncomputable section
def elements_closing_step1 (O:pF):(Bool×Int)→Option ((Bool×Int)⊕(Unit⊕Int)):=fun(Z,aA)=>
 if (decide (aA<(List.length O:Int)))=true then
  if 0≤aA∧aA<(List.length O:Int) then
   if (decide ((sJ O aA)=(34:Int)))=true then
    if qG (aA+(1:Int)) then
     some (.inl ((!Z),(aA+(1:Int))))
    else none
   else
    if 0≤aA∧aA<(List.length O:Int) then
     if ((decide ((sJ O aA)=(62:Int)))&&(!Z))=true then
      some (.inr (.inr (aA)))
     else
      if qG (aA+(1:Int)) then
       some (.inl (Z,(aA+(1:Int))))
      else none
    else none
  else none
 else
  some (.inr (.inl ()))
def elements_closing (O:pF):Option Int:=
 uF (rQ (elements_closing_step1 O) (false,(0:Int))) fun _=>
 some ((-1:Int))
section
variable (O:pF)
abbrev a2F:List qE:=[(.val .str O,none)]
abbrev a2G:List qD:=[]
@[go_sem] def a2H:qK:=⟨[((elements_closing O)).isSome=true],[(.val (.int .i64) (val (elements_closing O)),none)],[]⟩
def aEM:List qE→List qD→Option qK:=rP (V:=pF) (fun x=>a2F x) (fun x=>a2G) fun x=>a2H x
@[go_sem] theorem aSZ:aEM (no_index (a2F O)) (no_index a2G)=some (a2H O):=rT (fun a0 b0 h1 h2=>by cases h1;cases h2;rfl) O
end
@[go_sem] abbrev aEN:Nat×r5:=(111,⟨[.v],aEM,[],[],none⟩)
theorem D1:rH Tryz.prog [sL] (rI []):=⟨⟨sP,trivial⟩,rN,rK⟩
theorem aOd:r8 Tryz.prog aEN:=by
 refine rU D1 Tryz.func111 (c:=_) rfl (N:=28) pW (ts:=[(2,none)]) rfl (fun _ _=>rfl) ?_;intro O hs hrow;dsimp only[a2F,a2G,a2H,rM,qT,r6,rC,rO,Nat.reduceAdd] at hs hrow|-;have hz:=hs;obtain⟨z0,hC0⟩:=aUV.1 hz
 try rw[s7 hC0]
 clear hz hs;unfold elements_closing at hC0;refine qC D1 ?_;refine qC D1 ?_;refine qQ ?_;refine qC D1 ?_;refine rS ?_;obtain⟨y1,hy1,hC0⟩:=vF hC0;refine uA 0 (fun s=> ∃v,y1= .inl v∧s=(fun _=>⟨[],[],0,28,0⟩) v) ?_ ?_
 .refine tZ hy1 (fun x=>⟨[(0,(.val .str O,none)),(3,(.val .bool x.1,none)),(6,(.val (.int .i64) (List.length O:Int),none)),(7,(.val (.int .i64) x.2,none))],[],0,28,0⟩) ⟨[0,3,6,7],[]⟩ pX ?_;intro x1 w1 n1 hC1 hN1;obtain⟨Z,aA⟩:=x1;unfold elements_closing_step1 at hC1;dsimp only at hC1|-;refine qC D1 ?_;refine qQ ?_;refine qV hC1 (fun hC1 hc1=> ?_) (fun hC1 hc1=> ?_)
  .refine r9 (qM (qQ (rS ?_)));refine qC D1 ?_;refine rS ?_;obtain⟨hg1,hC1⟩:=qI hC1;refine qC D1 ?_ (hp:=by exact hg1);refine qV hC1 (fun hC1 hc2=> ?_) (fun hC1 hc2=> ?_)
   .refine rF D1 ?_;refine rW (rW (qM ?_));obtain⟨hg2,hC1⟩:=qI hC1;refine rF D1 ?_ (hp:=by exact hg2);cases hC1;exact sX ⟨⟨[0,3,6,7],[]⟩,_,by rfl,hN1⟩
   .obtain⟨hg3,hC1⟩:=qI hC1;refine qC D1 ?_ (hp:=by exact⟨hg3,fun hh=>hh,(fun hh=>sI hh)⟩);refine qV hC1 (fun hC1 hc3=> ?_) (fun hC1 hc3=> ?_)
    .refine qC D1 ?_;refine qS (rY (rY (rG (vE (vM (rY (rG ?_)))))));cases hC1;cases hN1;dsimp only at hC0;cases hC0;exact pH []
    .refine r9 (rW (rW (qM ?_)));obtain⟨hg4,hC1⟩:=qI hC1;refine rF D1 ?_ (hp:=by exact hg4);cases hC1;exact sX ⟨⟨[0,3,6,7],[]⟩,_,by rfl,hN1⟩
  .refine tV (tU (tX ?_));cases hC1;cases hN1;exact tW ⟨⟨[],[]⟩,_,rfl,by rfl⟩
 .rintro _ ⟨v,rfl,rfl⟩;dsimp only at hC0|-;refine u7 (qM ?_);refine qC D1 ?_;refine qS ?_;cases hC0;exact pH []
attribute [irreducible] elements_closing
def strings_Index (O:pF) (Z:pF):Option Unit:=
 if List.length O<4294967281 then
  some (())
 else none
section
variable (O:pF) (Z:pF)
abbrev a2I:List qE:=[(.val .str O,none),(.val .str Z,none)]
abbrev a2J:List qD:=[]
@[go_sem] def a2K:qK:=⟨[((strings_Index O Z)).isSome=true],[(.val (.int .i64) (z6 O Z),none)],[]⟩
def aEO:List qE→List qD→Option qK:=rP (V:=(pF×pF)) (fun x=>a2I x.1 x.2) (fun x=>a2J) fun x=>a2K x.1 x.2
@[go_sem] theorem aS0:aEO (no_index (a2I O Z)) (no_index a2J)=some (a2K O Z):=rT (fun⟨a0,a1⟩ ⟨b0,b1⟩ h1 h2=>by cases h1;cases h2;rfl) (O,Z)
end
@[go_sem] abbrev aEP:Nat×r5:=(110,⟨[.v,.v],aEO,[],[],none⟩)
theorem a2L:rH Tryz.prog [] (rI [LY]):=⟨trivial,qP XV rN,rK⟩
theorem aOe:r8 Tryz.prog aEP:=by
 refine rU a2L Tryz.func110 (c:=_) rfl (N:=8) pW (ts:=[(4,none)]) rfl (fun _ _=>rfl) ?_;intro⟨O,Z⟩ hs hrow;dsimp only[a2I,a2J,a2K,rM,qT,r6,rC,rO,Nat.reduceAdd] at hs hrow|-;have hz:=hs;obtain⟨z0,hC0⟩:=aUV.1 hz
 try rw[s7 hC0]
 clear hz hs;unfold strings_Index at hC0;refine qC a2L ?_;obtain⟨hg1,hC0⟩:=qI hC0;refine qC a2L ?_ (hp:=by exact hg1);refine qS ?_;cases hC0;exact pH []
attribute [irreducible] strings_Index
def internal_stringslite_HasPrefix (O:pF) (Z:pF):Option Unit:=
 if (((decide ((List.length Z:Int)≤(List.length O:Int)))==true)=true→0≤(0:Int)∧(0:Int)≤(List.length Z:Int)∧(List.length Z:Int)≤(List.length O:Int)) then
  some (())
 else none
section
variable (O:pF) (Z:pF)
abbrev M0:List qE:=[(.val .str O,none),(.val .str Z,none)]
abbrev M1:List qD:=[]
@[go_sem] def M2:qK:=⟨[((internal_stringslite_HasPrefix O Z)).isSome=true],[(.val .bool ((decide ((List.length Z:Int)≤(List.length O:Int)))&&(decide ((sF O (0:Int) (List.length Z:Int))=Z))),none)],[]⟩
def SH:List qE→List qD→Option qK:=rP (V:=(pF×pF)) (fun x=>M0 x.1 x.2) (fun x=>M1) fun x=>M2 x.1 x.2
@[go_sem] theorem aOf:SH (no_index (M0 O Z)) (no_index M1)=some (M2 O Z):=rT (fun⟨a0,a1⟩ ⟨b0,b1⟩ h1 h2=>by cases h1;cases h2;rfl) (O,Z)
end
@[go_sem] abbrev SI:Nat×r5:=(150,⟨[.v,.v],SH,[],[],none⟩)
theorem M3:rH Tryz.prog [sL] (rI []):=⟨⟨sP,trivial⟩,rN,rK⟩
theorem a2M:r8 Tryz.prog SI:=by
 refine rU M3 Tryz.func150 (c:=_) rfl (N:=18) pW (ts:=[(4,none)]) rfl (fun _ _=>rfl) ?_;intro⟨O,Z⟩ hs hrow;dsimp only[M0,M1,M2,rM,qT,r6,rC,rO,Nat.reduceAdd] at hs hrow|-;have hz:=hs;obtain⟨z0,hC0⟩:=aUV.1 hz
 try rw[s7 hC0]
 clear hz hs;unfold internal_stringslite_HasPrefix at hC0;refine qC M3 ?_;obtain⟨hg1,hC0⟩:=qI hC0;refine qC M3 ?_ (hp:=by exact⟨fun hh=>hh,fun hh=>hh,fun hh=>hh,hg1,fun hh=>hh,fun hh=>hh,(fun hh=>sI hh)⟩);refine qS ?_;cases hC0;exact pH []
attribute [irreducible] internal_stringslite_HasPrefix
def strings_HasPrefix (O:pF) (Z:pF):Option Unit:=
 (internal_stringslite_HasPrefix O Z).bind fun aA=>
 some (())
section
variable (O:pF) (Z:pF)
abbrev a2N:List qE:=[(.val .str O,none),(.val .str Z,none)]
abbrev a2O:List qD:=[]
@[go_sem] def a2P:qK:=⟨[((strings_HasPrefix O Z)).isSome=true],[(.val .bool ((decide ((List.length Z:Int)≤(List.length O:Int)))&&(decide ((sF O (0:Int) (List.length Z:Int))=Z))),none)],[]⟩
def aEQ:List qE→List qD→Option qK:=rP (V:=(pF×pF)) (fun x=>a2N x.1 x.2) (fun x=>a2O) fun x=>a2P x.1 x.2
@[go_sem] theorem aS1:aEQ (no_index (a2N O Z)) (no_index a2O)=some (a2P O Z):=rT (fun⟨a0,a1⟩ ⟨b0,b1⟩ h1 h2=>by cases h1;cases h2;rfl) (O,Z)
end
@[go_sem] abbrev aER:Nat×r5:=(109,⟨[.v,.v],aEQ,[],[],none⟩)
theorem a2Q:rH Tryz.prog [] (rI [SI]):=⟨trivial,qP a2M rN,rK⟩
theorem aOg:r8 Tryz.prog aER:=by
 refine rU a2Q Tryz.func109 (c:=_) rfl (N:=8) pW (ts:=[(4,none)]) rfl (fun _ _=>rfl) ?_;intro⟨O,Z⟩ hs hrow;dsimp only[a2N,a2O,a2P,rM,qT,r6,rC,rO,Nat.reduceAdd] at hs hrow|-;have hz:=hs;obtain⟨z0,hC0⟩:=aUV.1 hz
 try rw[s7 hC0]
 clear hz hs;unfold strings_HasPrefix at hC0;refine qC a2Q ?_;obtain⟨aA,hv1,hw1,hC0⟩:=qY hC0
 try simp only[go_sem] at hw1
 refine qC a2Q ?_ (hp:=by exact(qW hv1)) (h:=by simp only[go_sem,hw1];rfl);refine qS ?_;cases hC0;exact pH []
attribute [irreducible] strings_HasPrefix
def elements_first (O:pF) (Z:Int):Option (Int×pF):=
 sU (σ:=(Int×Int)) (
   (strings_HasPrefix O ([60,33,45,45]:pF)).bind fun aA=>
   if ((decide ((List.length ([60,33,45,45]:pF):Int)≤(List.length O:Int)))&&(decide ((sF O (0:Int) (List.length ([60,33,45,45]:pF):Int))=([60,33,45,45]:pF))))=true then
    if 0≤(4:Int)∧(4:Int)≤(List.length O:Int)∧(List.length O:Int)≤(List.length O:Int) then
     (strings_Index (sF O (4:Int) (List.length O:Int)) ([45,45,62]:pF)).bind fun aB=>
     if (decide ((0:Int)≤(z6 (sF O (4:Int) (List.length O:Int)) ([45,45,62]:pF))))=true then
      if qG ((z6 (sF O (4:Int) (List.length O:Int)) ([45,45,62]:pF))+(7:Int)) then
       some (((1:Int),((z6 (sF O (4:Int) (List.length O:Int)) ([45,45,62]:pF))+(7:Int))))
      else none
     else
      some (((1:Int),(z6 (sF O (4:Int) (List.length O:Int)) ([45,45,62]:pF))))
    else none
   else
    if 0≤(0:Int)∧(0:Int)<(List.length O:Int) then
     if (decide ((sJ O (0:Int))=(60:Int)))=true then
      (elements_closing O).bind fun aC=>
      if qG (aC+(1:Int)) then
       if (decide ((aC+(1:Int))=(0:Int)))=true then
        some (((2:Int),(-1:Int)))
       else
        some (((2:Int),(aC+(1:Int))))
      else none
     else
      if (decide ((vD O (60:Int))<(0:Int)))=true then
       some (((3:Int),(List.length O:Int)))
      else
       some (((3:Int),(vD O (60:Int))))
    else none
  ) fun(aD,aE)=>
 if (decide (aE<(0:Int)))=true then
  some (((0:Int),([]:pF)))
 else
  if 0≤(0:Int)∧(0:Int)≤aE∧aE≤(List.length O:Int) then
   some ((aD,(sF O (0:Int) aE)))
  else none
section
variable (O:pF) (Z:Int)
abbrev a2R:List qE:=[(.val .str O,none),(.val (.int .i64) Z,none)]
abbrev a2S:List qD:=[]
@[go_sem] def elements_firstR:qK:=⟨[((elements_first O Z)).isSome=true],[(.val sZ ((val (elements_first O Z)).1,((val (elements_first O Z)).2,(Z,()))),none)],[]⟩
def aES:List qE→List qD→Option qK:=rP (V:=(pF×Int)) (fun x=>a2R x.1 x.2) (fun x=>a2S) fun x=>elements_firstR x.1 x.2
@[go_sem] theorem elements_firstC_eq:aES (no_index (a2R O Z)) (no_index a2S)=some (elements_firstR O Z):=rT (fun⟨a0,a1⟩ ⟨b0,b1⟩ h1 h2=>by cases h1;cases h2;rfl) (O,Z)
end
@[go_sem] abbrev aOh:Nat×r5:=(79,⟨[.v,.v],aES,[],[],none⟩)
theorem AT:rH Tryz.prog [sL,AS] (rI [G5,aER,aEP,aEN]):=⟨⟨sP,⟨G4,trivial⟩⟩,qP LU (qP aOg (qP aOe (qP aOd rN))),rK⟩
theorem elements_first_con:r8 Tryz.prog aOh:=by
 refine rU AT Tryz.func79 (c:=_) rfl (N:=43) pW (ts:=[(4,some 94)]) rfl (fun _ _=>rfl) ?_;intro⟨O,Z⟩ hs hrow;dsimp only[a2R,a2S,elements_firstR,rM,qT,r6,rC,rO,Nat.reduceAdd] at hs hrow|-;have hz:=hs;obtain⟨z0,hC0⟩:=aUV.1 hz
 try rw[s7 hC0]
 clear hz hs;unfold elements_first at hC0;refine qC AT ?_;refine qC AT ?_;refine qQ ?_;obtain⟨y1,hC1,hC0⟩:=qO hC0;refine yZ (fun s=>s=(fun x=>⟨[(0,(.val .str O,none)),(1,(.val (.int .i64) Z,none)),(4,(.val .ref (some (0,0)),none)),(5,(.val (.int .i64) x.1,none)),(6,(.val (.int .i64) x.2,none))],[(0,.cells sZ ((0:Int),(([]:pF),((0:Int),()))) [])],1,43,0⟩) y1) ?_ ?_
 .refine rS ?_;obtain⟨aA,hv1,hw1,hC1⟩:=qY hC1
  try simp only[go_sem] at hw1
  refine qC AT ?_ (hp:=by exact(qW hv1)) (h:=by simp only[go_sem,hw1];rfl);refine qV hC1 (fun hC1 hc1=> ?_) (fun hC1 hc1=> ?_)
  .obtain⟨hg2,hC1⟩:=qI hC1;obtain⟨aB,hv3,hw3,hC1⟩:=qY hC1
   try simp only[go_sem] at hw3
   refine qC AT ?_ (hp:=by exact⟨hg2,(qW hv3)⟩) (h:=by simp only[go_sem,hw3];rfl);refine qC AT ?_;refine qV hC1 (fun hC1 hc2=> ?_) (fun hC1 hc2=> ?_)
   .obtain⟨hg4,hC1⟩:=qI hC1;refine rF AT ?_ (hp:=by exact hg4);refine rW ?_;cases hC1;exact uE ⟨⟨[0,1,4,5,6],[(0,0)]⟩,by rfl⟩
   .refine r9 (rW ?_);cases hC1;exact uE ⟨⟨[0,1,4,5,6],[(0,0)]⟩,by rfl⟩
  .obtain⟨hg5,hC1⟩:=qI hC1;refine qC AT ?_ (hp:=by exact hg5);refine qV hC1 (fun hC1 hc3=> ?_) (fun hC1 hc3=> ?_)
   .obtain⟨aC,hv6,hw6,hC1⟩:=qY hC1
    try simp only[go_sem] at hw6
    obtain⟨hg7,hC1⟩:=qI hC1;refine qC AT ?_ (hp:=by exact⟨qW hv6,hg7⟩) (h:=by simp only[go_sem,hw6];rfl);refine qC AT ?_;refine qV hC1 (fun hC1 hc4=> ?_) (fun hC1 hc4=> ?_)
    .refine rF AT ?_;refine rW ?_;cases hC1;exact uE ⟨⟨[0,1,4,5,6],[(0,0)]⟩,by rfl⟩
    .refine r9 (rW ?_);cases hC1;exact uE ⟨⟨[0,1,4,5,6],[(0,0)]⟩,by rfl⟩
   .refine qC AT ?_;refine qV hC1 (fun hC1 hc5=> ?_) (fun hC1 hc5=> ?_)
    .refine rF AT ?_;refine rW ?_;cases hC1;exact uE ⟨⟨[0,1,4,5,6],[(0,0)]⟩,by rfl⟩
    .refine r9 (rW ?_);cases hC1;exact uE ⟨⟨[0,1,4,5,6],[(0,0)]⟩,by rfl⟩
 .rintro _ rfl;obtain⟨aD,aE⟩:=y1;dsimp only at hC0|-;refine qM (qQ ?_);refine qC AT ?_;refine qV hC0 (fun hC0 hc6=> ?_) (fun hC0 hc6=> ?_)
  .refine qC AT ?_;refine qS (rG ?_);cases hC0;exact pH []
  .refine r9 (qM ?_);obtain⟨hg8,hC0⟩:=qI hC0;refine qC AT ?_ (hp:=by exact hg8);refine qS ?_;cases hC0;exact pH []
attribute [irreducible] elements_first
end
end Gf
end Go.Proofs.YtkpflnijijccpaaGreatDoor
section
end
namespace Go.Proofs.YtkpflnijijccpaaGreatDoor
open Go.RowKit Go.Shelf Vc
theorem aOi {f:FuncId}{C:List qE→List qD→Option qK}{args:List qE}{vals:pP}{r:qK}{t:Ty}{x:t.den}{w:pT}(h:xR Tryz.prog f C) (hT:DH w)
    (ha: ∀g,vR g w args vals) (hC:C args []=some r) (hs: ∀p∈r.side,p) (hr:r.ret=[(.val t x,none)]):
    Calls Tryz.prog f vals.toArray w fun e w'=> ∃v,e= .returned v∧Below w.heap.size w w'∧∃g',tT g' w' t x v:=by
  have hH:sM ⟨fun _ _=>False,fun _=>none,fun _ _=>none⟩ w (qT 0 []):=⟨fun _ _ h=>(by cases h),fun _ _ _ _ _ _ _ h=>(by cases h),fun _ _ h=>h.elim,⟨hT,fun _ _ _ _ h=>(by cases h)⟩⟩;refine(h.2 _ w args vals [] r hH (ha _) hC hs).mono ?_;rintro e w' ⟨v,g',he,ho⟩;refine⟨v,he,⟨ho.fr.os,ho.fr.tape,ho.fr.output,ho.fr.size,fun b hb=>ho.fr.blk b hb fun o ⟨i,blk,h1,_⟩=>(by cases h1)⟩,g',?_⟩;have:=ho.ret;rw[hr] at this;exact this.1
def clo:Bool→pF→pR
  |_,[]=>none
  |q,b::r=>if b=34 then(clo (!q) r).map (· +1) else if b=62∧q=false then some 0 else(clo q r).map (· +1)
def BI (s:pF):Int:=match clo false s with
  |some k=>k
  |none=> -1
theorem XX: ∀{s:pF}{q:Bool}{k:Nat},clo q s=some k→k<s.length
  |[],_,_,h=>by cases h
  | b::r,q,k,h=>by
    unfold clo at h;split at h
    · obtain⟨j,h1,rfl⟩:=aU1.1 h
      have:=XX h1;simp only[aUY];omega
    · split at h
      .cases h;simp
      · obtain⟨j,h1,rfl⟩:=aU1.1 h
        have:=XX h1;simp only[aUY];omega
theorem XY {l:pF}{i:Nat}(h:i<l.length):sJ l (i:Int)=(l[i].toNat:Int):=by
  unfold sJ;rw[aVD,aVq,aU5 h];rfl
theorem a2T (b:UInt8) (n:Nat) (hn:n<256):decide ((b.toNat:Int)=(n:Int))=decide (b=n.toUInt8):=by
  rw[aWq];constructor
  · intro h
    have:b.toNat=n:=by omega
    rw[←this];simp
  · rintro rfl
    simp only[Nat.toUInt8,UInt8.toNat_ofNat'];omega
theorem a2U (s:pF) (hs:s.length≤4294967281): ∀(n i:Nat) (q:Bool),i+n=s.length→rQ (Gf.elements_closing_step1 s) (q,(i:Int))=some (match clo q (s.drop i) with
    |some k=> .inr ((i+k:Nat):Int)
    |none=> .inl ())
  | 0,i,q,hi=>by
    have:i=s.length:=by omega
    subst this;rw[aVR];refine uU ?_;unfold Gf.elements_closing_step1;dsimp only;rw[aUX pK];rfl
  | n+1,i,q,hi=>by
    have h:i<s.length:=by omega
    rw[aVA h];have h34:decide ((s[i].toNat:Int)=34)=decide (s[i]=34):=a2T s[i] 34 pJ;have h62:decide ((s[i].toNat:Int)=62)=decide (s[i]=62):=a2T s[i] 62 pJ;have hr:0≤(i:Int)∧(i:Int)<(s.length:Int):=⟨pI,pI⟩;have hi64:qG ((i:Int)+1):=by unfold qG;omega
    unfold clo;by_cases e34:s[i]=34
    · have hst:Gf.elements_closing_step1 s (q,(i:Int))=some (.inl (!q,((i+1:Nat):Int))):=by
        unfold Gf.elements_closing_step1;dsimp only;rw[aUU (by simpa using h),aUU hr,XY h,h34,aUU (by simpa using e34),aUU hi64];rfl
      rw[vT hst,a2U s hs n (i+1) (!q) pI,aUU e34];cases clo (!q) (s.drop (i+1)) with
      |none=>rfl
      |some k=>simp only[Option.map_some];rw[show i+1+k=i+(k+1) by omega]
    · by_cases e62:s[i]=62∧q=false
      · obtain⟨e1,rfl⟩:=e62
        have hst:Gf.elements_closing_step1 s (false,(i:Int))=some (.inr (.inr (i:Int))):=by
          unfold Gf.elements_closing_step1;dsimp only;rw[aUU (by simpa using h),aUU hr,XY h,h34,aUX (by simpa using e34),aUU hr,h62,aUU (by simpa using e1)]
        rw[uU hst,aUX e34,aUU ⟨e1,rfl⟩];rfl
      · have hst:Gf.elements_closing_step1 s (q,(i:Int))=some (.inl (q,((i+1:Nat):Int))):=by
          unfold Gf.elements_closing_step1;dsimp only;rw[aUU (by simpa using h),aUU hr,XY h,h34,aUX (by simpa using e34),aUU hr,h62,aUX (by simpa using e62),aUU hi64];rfl
        rw[vT hst,a2U s hs n (i+1) q pI,aUX e34,aUX e62];cases clo q (s.drop (i+1)) with
        |none=>rfl
        |some k=>simp only[Option.map_some];rw[show i+1+k=i+(k+1) by omega]
theorem aOj (s:pF) (hs:s.length≤4294967281):Gf.elements_closing s=some (BI s):=by
  have h:=a2U s hs s.length 0 false pI;rw[aWc] at h;have h':rQ (Gf.elements_closing_step1 s) (false,(0:Int))=_:=h;unfold Gf.elements_closing BI;rw[h'];cases clo false s with
  |none=>rfl
  |some k=>simp only[aVx];rfl
theorem a2V (s:pF): -1≤BI s∧BI s<s.length:=by
  unfold BI;cases h:clo false s with
  |none=>exact⟨pJ,by show (-1:Int)<_;omega⟩
  |some k=>have:=XX h;exact⟨by show (-1:Int)≤(k:Int);omega,by show (k:Int)<_;omega⟩
abbrev M4:pF:=[60,33,45,45]
def xH (s:pF):Bool:=decide (s.take 4=M4)
def wB (s:pF):Int×Int:=
  if xH s=true then(1,if 0≤Lib.index (s.drop 4) [45,45,62] then Lib.index (s.drop 4) [45,45,62]+7 else Lib.index (s.drop 4) [45,45,62])
  else if s.head? =some 60 then(2,if BI s+1=0 then-1 else BI s+1)
  else(3,if Lib.indexByte s 60<0 then s.length else Lib.indexByte s 60)
def sA (s:pF):Int×pF:=if (wB s).2<0 then(0,[]) else((wB s).1,s.take (wB s).2.toNat)
theorem a2W (s:pF) (hs:s≠[]):(wB s).2≤s.length∧((wB s).2<0∨0<(wB s).2):=by
  unfold wB;split
  · rename_i hn
    have h4:4≤s.length:=by
      have:=aVc List.length (aVw hn);rw[aVj] at this;simp only[aUY,aU7] at this;omega
    dsimp only;split
    · rename_i h0
      have:=Lib.index_room (s.drop 4) [45,45,62] h0;rw[aVg] at this;simp only[aUY,aU7] at this;omega
    .omega
  · split
    · have:=a2V s
      dsimp only;split<;>omega
    · rename_i h60
      have:=XR s 60;dsimp only;split
      · have:s.length≠0:=by simpa using hs
        omega
      · cases s with
        |nil=>exact absurd rfl hs
        | cons b r=>
          have hb:b≠60:=fun e=>h60 (by rw[e];rfl);rename_i h0
          have hne:Lib.indexByte (b::r) 60≠0:=by
            unfold Lib.indexByte;rw[aUX (by simpa using hb)];have h2:=XR r 60;split
            .simp
            · rename_i h5
              have h6:Lib.indexByte r 60≠ -1:=by simpa using h5
              omega
          rcases Int.lt_or_gt_of_ne hne with h9|h9
          .exact absurd h9 h0
          .exact⟨pI,.inr h9⟩
theorem aET {α:Type}(s:List α) (n:Int):sF s 0 n=s.take n.toNat:=by unfold sF;simp
theorem aOk (s:pF) (hs:s≠[]) (hl:s.length<4294967281) (fr:Int):Gf.elements_first s fr=some (sA s):=by
  have hpos:0<s.length:=aVp.2 hs;have h0:sJ s 0=(s[0].toNat:Int):=XY (i:=0) hpos;have hhd:s.head? =some s[0]:=by rw[List.head?_eq_getElem?,aU5 hpos]
  have h60:decide ((s[0].toNat:Int)=60)=decide (s[0]=60):=a2T s[0] 60 pJ;have hle:=a2W s hs
  have hp:Gf.strings_HasPrefix s ([60,33,45,45]:pF)=some ():=by
    unfold Gf.strings_HasPrefix Gf.internal_stringslite_HasPrefix;rw[aUU (fun h=>⟨aVY _,pJ,by simpa using h⟩)];rfl
  have hpre:((decide ((List.length ([60,33,45,45]:pF):Int)≤(List.length s:Int)))&&(decide ((sF s (0:Int) (List.length ([60,33,45,45]:pF):Int))=([60,33,45,45]:pF))))=xH s:=by
    rw[aET];unfold xH;show (_&&decide (s.take 4=M4))=decide (s.take 4=M4);by_cases h:s.take 4=M4
    · have:=aVc List.length h
      rw[aVj] at this;simp only[aUY,aU7] at this;simp [h];omega
    .simp [h]
  have hsi:vD s (60:Int)=Lib.indexByte s 60:=rfl
  have key:((Gf.strings_HasPrefix s ([60,33,45,45]:pF)).bind fun O=>
   if ((decide ((List.length ([60,33,45,45]:pF):Int)≤(List.length s:Int)))&&(decide ((sF s (0:Int) (List.length ([60,33,45,45]:pF):Int))=([60,33,45,45]:pF))))=true then
    if 0≤(4:Int)∧(4:Int)≤(List.length s:Int)∧(List.length s:Int)≤(List.length s:Int) then
     (Gf.strings_Index (sF s (4:Int) (List.length s:Int)) ([45,45,62]:pF)).bind fun Z=>
     if (decide ((0:Int)≤(z6 (sF s (4:Int) (List.length s:Int)) ([45,45,62]:pF))))=true then
      if qG ((z6 (sF s (4:Int) (List.length s:Int)) ([45,45,62]:pF))+(7:Int)) then
       some (((1:Int),((z6 (sF s (4:Int) (List.length s:Int)) ([45,45,62]:pF))+(7:Int))))
      else none
     else
      some (((1:Int),(z6 (sF s (4:Int) (List.length s:Int)) ([45,45,62]:pF))))
    else none
   else
    if 0≤(0:Int)∧(0:Int)<(List.length s:Int) then
     if (decide ((sJ s (0:Int))=(60:Int)))=true then
      (Gf.elements_closing s).bind fun aA=>
      if qG (aA+(1:Int)) then
       if (decide ((aA+(1:Int))=(0:Int)))=true then
        some (((2:Int),(-1:Int)))
       else
        some (((2:Int),(aA+(1:Int))))
      else none
     else
      if (decide ((vD s (60:Int))<(0:Int)))=true then
       some (((3:Int),(List.length s:Int)))
      else
       some (((3:Int),(vD s (60:Int))))
    else none)=some (wB s):=by
    rw[hp,aUS,hpre]
    have hcut:sF s (4:Int) (List.length s:Int)=s.drop 4:=by
      unfold sF;rw[aVD,show (4:Int).toNat=4 from rfl];exact List.take_of_length_le (by rw[aVg];omega)
    by_cases hn:xH s=true
    · have h4:4≤s.length:=by
        have:=aVc List.length (aVw hn);rw[aVj] at this;simp only[aUY,aU7] at this;omega
      rw[aUU hn,aUU ⟨pJ,pI,aVY _⟩,hcut]
      have hix:Gf.strings_Index (s.drop 4) ([45,45,62]:pF)=some ():=by
        unfold Gf.strings_Index;rw[aUU (by rw[aVg];omega)]
      have hge:=Lib.index_ge (s.drop 4) [45,45,62];have hrm:=Lib.index_room (s.drop 4) [45,45,62];rw[aVg] at hrm;rw[hix,aUS];unfold wB z6;rw[aUU hn];by_cases hq:0≤Lib.index (s.drop 4) [45,45,62]
      .rw[aUU (aVk hq),aUU (by have:=hrm hq;simp only[aUY,aU7] at this;unfold qG;omega),aUU hq]
      .rw[aUX (by simpa using hq),aUX hq]
    · unfold wB
      rw[aUX hn,aUX hn,aUU ⟨aVY _,pI⟩,h0,h60,hhd];by_cases h6:s[0]=60
      · have hc:=a2V s
        have h6':some s[0]=some (60:UInt8):=by rw[h6]
        rw[aUU (aVk h6),aOj s pI,aUS,aUU (by unfold qG;omega),aUU h6'];by_cases hz:BI s+1=0
        .rw[aUU (aVk hz),aUU hz]
        .rw[aUX (by simpa using hz),aUX hz]
      · rw[aUX (by simpa using h6),aUX (fun h=>h6 (aUZ h)),hsi]
        by_cases hz:Lib.indexByte s 60<0
        .rw[aUU (aVk hz),aUU hz]
        .rw[aUX (by simpa using hz),aUX hz]
  unfold Gf.elements_first;rw[key];unfold sU sA;rw[aUS];clear key;generalize wB s=N at hle;obtain⟨k,n⟩:=N;dsimp only at hle|-;by_cases hz:n<0
  .rw[aUU hz,aUU (aVk hz)]
  .rw[aUX hz,aUX (by simpa using hz),aUU ⟨aVY _,pI,hle.1⟩,aET]
abbrev OK:=Int×pF×Int×Unit
def xE (s:pF):Nat→Nat→List OK
  |0,_=>[]
  | n +1,i=>if i<s.length then
      ((sA (s.drop i)).1,(sA (s.drop i)).2,(i:Int),())::(if (sA (s.drop i)).1=0 then[] else xE s n (i+(sA (s.drop i)).2.length))
    else[(4,[],(s.length:Int),())]
def wC (s:Ty.str.den):List OK:=xE s (List.length s+1) 0
def XZ (it:OK):pP:=[.agg #[.int .i64 it.1,.string ⟨it.2.1.toArray⟩,.int .i64 it.2.2.1]]
@[go_sem] def aEU (it:OK):List qE:=[(.val (.pair (.int .i64) (.pair .str (.pair (.int .i64) .unit))) it,none)]
theorem aOl (it:OK) (g:Gh) (w:pT):vR g w (aEU it) (XZ it):=
  ⟨_,_,rfl,⟨.inl ⟨rfl,[_,_,_],rfl,[_],[_,_],rfl,rfl,[_],[_],rfl,rfl,[_],[],rfl,rfl,rfl⟩,trivial⟩,rfl⟩
theorem aOm {g:Gh}{w:pT}{it:OK}{v:pU}(h:tT g w (.pair (.int .i64) (.pair .str (.pair (.int .i64) .unit))) it v):v= .agg #[.int .i64 it.1,.string ⟨it.2.1.toArray⟩,.int .i64 it.2.2.1]:=by
  rcases h with⟨_,cs,rfl,c1,c2,rfl,h1,c3,c4,rfl,h2,c5,c6,rfl,h3,h4⟩ |⟨h,_⟩
  .rw[show c1=[.int .i64 it.1] from h1,show c3=[.string ⟨it.2.1.toArray⟩] from h2,show c5=[.int .i64 it.2.2.1] from h3,show c6=[] from h4];rfl
  .cases h
theorem aOn (s:pF) (hs:s≠[]) (hl:s.length<4294967281) (i:Int) (w:pT) (hT:DH w):
    Calls Tryz.prog 79 #[.string ⟨s.toArray⟩,.int .i64 i] w fun e w'=>e= .returned (.agg #[.int .i64 (sA s).1,.string ⟨(sA s).2.toArray⟩,.int .i64 i])∧Below w.heap.size w w':=by
  have he:=aOk s hs hl i;refine(aOi (args:=[(.val .str s,none),(.val (.int .i64) i,none)]) (vals:=[.string ⟨s.toArray⟩,.int .i64 i]) (t:= .pair (.int .i64) (.pair .str (.pair (.int .i64) .unit))) (x:=((sA s).1,(sA s).2,i,())) Gf.elements_first_con.1 hT (fun g=>⟨_,_,rfl,⟨BX _ _ _,trivial⟩,_,_,rfl,⟨x6 _ _ _ _,trivial⟩,rfl⟩) (Gf.elements_firstC_eq s i) ?_ ?_).mono ?_
  · intro p hp
    rcases aU9.1 hp with rfl|hp
    .rw[he];rfl
    .cases hp
  · unfold Gf.elements_firstR
    rw[s7 he]
  · rintro e w' ⟨v,rfl,hb,g',hv⟩
    exact⟨by rw[aOm hv],hb⟩
section
attribute [local go_sem] Oper.semAt_some
theorem aOo:S4 Tryz.prog 78 .str (fun s=>List.length s<4294967281) wC XZ:=by
  refine⟨fun _ _=>rfl,?_⟩;intro l b o (d:pF) cs g W0 J Jx hpre hR hrd hJd hJxd hJt hY W h0;rw[show cs=[.string ⟨d.toArray⟩] from hR] at hrd;have hl4:d.length<4294967281:=hpre;have r0: ∀i W,J i W→W.cell? ⟨b,o,none⟩=some (.string ⟨d.toArray⟩):=fun i W h=>by simpa using(hrd i W h).1 0 _ rfl
  refine(callsIn_wide (n:=0)).1 (callsIn_of_wp Tryz.func78 rfl trivial ?_);simp only[Tryz.ntmps78,aVP,aUY,aU7,Nat.reduceAdd,Nat.reduceSub,Array.replicate_succ,Array.replicate_zero,List.push_toArray,List.append_toArray,List.nil_append,List.cons_append]
  gi_wp2
  gi_loopw [3] (fun p wr=> ∃i k n:Nat,i≤d.length∧p= .int .i64 i∧d.length<n+i∧(wC d).drop k=xE d n i∧k≤(wC d).length∧J k wr) (fun p _=>d.length- (RowKit.intOf p).toNat)
  case atStart=>exact⟨0,0,d.length+1,aV4 _,rfl,pI,rfl,aV4 _,h0⟩
  case round=>
    obtain⟨i,k,n,hi,rfl,hn,hdrop,hk,hJs⟩:=hrel;have s1:=r0 _ _ hJs;obtain⟨n',rfl⟩: ∃n',n=n'+1:=⟨n-1,pI⟩;by_cases hlt:i<d.length
    · have hu:xE d (n'+1) i=((sA (d.drop i)).1,(sA (d.drop i)).2,(i:Int),())::(if (sA (d.drop i)).1=0 then[] else xE d n' (i+(sA (d.drop i)).2.length)):=by rw[xE,aUU hlt]
      rw[hu] at hdrop
      have hq:(wC d)[k]? =some ((sA (d.drop i)).1,(sA (d.drop i)).2,(i:Int),()):=by
        have:=aVc (·[0]?) hdrop;simpa using this
      have hd2:(wC d).drop (k+1)=(if (sA (d.drop i)).1=0 then[] else xE d n' (i+(sA (d.drop i)).2.length)):=by
        have:=aVc (List.drop 1) hdrop;simpa[aWA,Nat.add_comm] using this
      have hk2:k+1≤(wC d).length:=(aVd.1 hq).1
      have hne:d.drop i≠[]:=by
        intro e;have:=aVc List.length e;rw[aVg,aU7] at this;omega
      have hcall:=aOn (d.drop i) hne (by rw[aVg];omega) (i:Int);have hle:=a2W (d.drop i) hne;rw[aVg] at hle
      have hlen:(sA (d.drop i)).2.length≤d.length-i∧((sA (d.drop i)).1≠0→0<(sA (d.drop i)).2.length):=by
        unfold sA;split
        .exact⟨by simp,fun h=>absurd rfl h⟩
        · rw[aVj,aVg]
          exact⟨pI,fun _=>by omega⟩
      generalize sA (d.drop i)=T at hcall hlen hq hd2;obtain⟨kd,tx⟩:=T
      have hext:((⟨d.toArray⟩:ByteArray).extract i d.length)=⟨(d.drop i).toArray⟩:=by
        rw[aN7];congr 2;exact List.take_of_length_le pK
      clear hu hdrop hle
      gi_wp2
      refine⟨trivial,rfl,(callsIn_wide.2 (hcall wr (hJt _ _ hJs))).mono ?_⟩;rintro e w' ⟨rfl,hbl⟩;have hJ1:=hJd _ _ _ hJs hbl;have s2:=r0 _ _ hJ1;have hb2:Below w'.heap.size w' (w'.alloc (.cells #[.int .i64 kd,.string ⟨tx.toArray⟩,.int .i64 i] 94)):=(Below.refl _ _).alloc (aVi _) _;obtain⟨fn,tmps,assign,body,hy,hQ⟩:=hY _ _ _ _ hq hJ1 hb2;dsimp only[XZ] at hy
      gi_wp2
      refine⟨rfl,hQ.mono ?_⟩;clear hQ hy;rintro e W2 ⟨h12,hkeep⟩;have hblk:=(hkeep w'.heap.size (aVi _) pK).trans (World.alloc_heap_new w' _);have hc1:W2.cell? ⟨w'.heap.size,0,none⟩=some (.int .i64 kd):=Lib.cell_of_heap hblk 0;have hc2:W2.cell? ⟨w'.heap.size,1,none⟩=some (.string ⟨tx.toArray⟩):=Lib.cell_of_heap hblk 1;clear hkeep hblk hb2 hcall;rcases h12 with⟨rfl,hJ2⟩ |⟨rfl,hJx⟩
      · by_cases hk0:kd=0
        · subst hk0
          rw[aUU rfl] at hd2
          have hkk:k+1=(wC d).length:=by
            have h1:=aVc List.length hd2;rw[aVg,aU7] at h1;omega
          gi_wp2
          refine bodyPost_ret (results_none rfl _ _ _) rfl ?_;exact⟨⟨_,rfl⟩,.inl (hkk▸hJ2)⟩
        · rw[aUX hk0] at hd2
          have hpos:=hlen.2 hk0;have hle:=hlen.1;have hkd:decide (kd=0)=false:=decide_eq_false hk0
          gi_wp2
          go_roundw
          case rel=>exact⟨i+tx.length,k+1,n',pI,by simp,pI,hd2,hk2,hJ2⟩
          case measure=>
            show d.length- (i+tx.length)<d.length-i;omega
      · gi_wp2
        refine bodyPost_ret (results_none rfl _ _ _) rfl ?_;exact⟨⟨_,rfl⟩,.inr hJx⟩
    · obtain rfl:i=d.length:=by omega
      have hu:xE d (n'+1) d.length=[(4,[],(d.length:Int),())]:=by rw[xE,aUX (aWw _)]
      rw[hu] at hdrop
      have hq:(wC d)[k]? =some (4,[],(d.length:Int),()):=by
        have:=aVc (·[0]?) hdrop;simpa using this
      have hkk:k+1=(wC d).length:=by
        have h1:=aVc List.length hdrop;rw[aVg] at h1;simp only[aUY,aU7] at h1;omega
      obtain⟨fn,tmps,assign,body,hy,hQ⟩:=hY _ _ _ _ hq hJs (Below.refl _ _);dsimp only[XZ] at hy
      gi_wp2
      refine⟨rfl,hQ.mono ?_⟩;clear hQ hy;rintro e W2 ⟨⟨rfl,hJ2⟩ |⟨rfl,hJx⟩,-⟩
      · gi_wp2
        go_end0
        exact⟨⟨_,rfl⟩,.inl (hkk▸hJ2)⟩
      · gi_wp2
        go_end0
        exact⟨⟨_,rfl⟩,.inr hJx⟩
end
end Go.Proofs.YtkpflnijijccpaaGreatDoor
namespace Go.Proofs.YtkpflnijijccpaaGreatDoor
open Vc
namespace Gs
noncomputable section
@[go_sem] abbrev sN:Ty:=(.pair .str (.pair .str (.pair .str (.pair (.list .str) (.pair (.list .str) (.pair (.int .i64) (.pair (.list (.pair .str (.pair .str .unit))) .unit)))))))
@[go_sem] abbrev D0:Ty:=(.pair .str (.pair (.list .str) (.pair (.list (.pair .str (.pair .str .unit))) (.pair (.list sN) .unit))))
@[go_sem] abbrev AR:Ty:=(.pair .str (.pair (.list .str) (.pair .str .unit)))
@[go_sem] abbrev wR:Ty:=(.pair .mref (.pair (.list (.int .u8)) .unit))
abbrev r7:Type:=(pF×(pF×Unit))
abbrev s8:Type:=(pF×(pF×(pF×(pG×(pG×(Int×((List r7)×Unit)))))))
abbrev G3:Type:=(pF×(pG×(pF×Unit)))
abbrev sR:Type:=(pF×(pG×((List r7)×((List s8)×Unit))))
abbrev sE:Type:=(Int×(pF×(Int×Unit)))
@[go_sem] abbrev sZ:Ty:=(.pair (.int .i64) (.pair .str (.pair (.int .i64) .unit)))
@[go_sem] abbrev D2:Nat×TI:=(61,⟨(.list sZ),94,32,false,[]⟩)
theorem HN:uG Tryz.prog D2.1 D2.2:=⟨pW,(show _/\_/\_ from⟨pW,pW,pW⟩)⟩
@[go_sem] abbrev AS:Nat×TI:=(94,⟨sZ,0,1,false,[]⟩)
theorem G4:uG Tryz.prog AS.1 AS.2:=⟨pW,(show ((_/\∃_,_/\_)\/_)/\_ from⟨.inl ⟨rfl,_,Tryz.underlying94,(show _/\_/\_/\_ from⟨rfl,pW,pW,(show _/\_/\_/\_ from⟨rfl,pW,pW,(show _/\_/\_/\_ from⟨rfl,pW,pW,trivial⟩)⟩)⟩)⟩,(fun _=>⟨pW,1,pJ,(.struct rfl Tryz.underlying94 pW (.cons pJ rfl pW pW (.int Tryz.underlying3) (.cons pJ rfl pW pW (.str Tryz.underlying9) (.cons pJ rfl pW pW (.int Tryz.underlying3) .nil))))⟩)⟩)⟩
theorem rK:Tryz.prog.follows .mixedOrders=true:=by kernel_rfl
@[go_sem] abbrev G5:Nat×r5:=(108,⟨[.v,.v],RY,[],[],none⟩)
theorem LU:r8 Tryz.prog G5:=⟨a2b,fun _ h=>by cases h⟩
@[go_sem] abbrev OB:Nat×r5:=(127,⟨[.v,.v],RZ,[],[],none⟩)
theorem a2x:r8 Tryz.prog OB:=⟨a2c,fun _ h=>by cases h⟩
@[go_sem] abbrev LV:Nat×r5:=(85,⟨[.v,.v],S8,[],[],none⟩)
theorem XS:r8 Tryz.prog LV:=⟨a2p,fun _ h=>by cases h⟩
@[go_sem] abbrev OC:Nat×r5:=(179,⟨[.v],S0,[],[],none⟩)
theorem a2y:r8 Tryz.prog OC:=⟨a2d,fun _ h=>by cases h⟩
@[go_sem] abbrev OD:Nat×r5:=(181,⟨[.v],S9,[],[],none⟩)
theorem a2z:r8 Tryz.prog OD:=⟨a2q,fun _ h=>by cases h⟩
@[go_sem] abbrev OE:Nat×r5:=(182,⟨[.v,.v],SF,[],[],none⟩)
theorem a2A:r8 Tryz.prog OE:=⟨a2v,fun _ h=>by cases h⟩
@[go_sem] abbrev JK:Nat×r5:=(58,⟨[.p wR [1]],S1,[],[],none⟩)
theorem SG:r8 Tryz.prog JK:=⟨a2g,fun _ h=>by cases h⟩
@[go_sem] abbrev HM:Nat×r5:=(31,⟨[.p wR [1]],S2,[],[],none⟩)
theorem OF:r8 Tryz.prog HM:=⟨a2j,fun _ h=>by cases h⟩
@[go_sem] abbrev LW:Nat×r5:=(113,⟨[.v],SA,[],[],none⟩)
theorem XT:r8 Tryz.prog LW:=⟨a2r,fun _ h=>by cases h⟩
@[go_sem] abbrev OG:Nat×r5:=(131,⟨[.v,.v],SB,[],[],none⟩)
theorem a2B:r8 Tryz.prog OG:=⟨a2s,fun _ h=>by cases h⟩
@[go_sem] abbrev LX:Nat×r5:=(91,⟨[.r],S6,[],[],none⟩)
theorem XU:r8 Tryz.prog LX:=⟨a2n,fun _ h=>by cases h⟩
@[go_sem] abbrev OH:Nat×r5:=(130,⟨[.r,.v],S7,[],[],none⟩)
theorem a2C:r8 Tryz.prog OH:=⟨a2o,fun _ h=>by cases h⟩
@[go_sem] abbrev OI:Nat×r5:=(159,⟨[.r,.v,.v],S3,[],[],none⟩)
theorem a2D:r8 Tryz.prog OI:=⟨a2k,fun _ h=>by cases h⟩
@[go_sem] abbrev LY:Nat×r5:=(151,⟨[.v,.v],SC,[],[],none⟩)
theorem XV:r8 Tryz.prog LY:=⟨a2t,fun _ h=>by cases h⟩
@[go_sem] abbrev OJ:Nat×r5:=(70,⟨[.v,.v],SD,[],[],none⟩)
theorem a2E:r8 Tryz.prog OJ:=⟨a2u,fun _ h=>by cases h⟩
@[go_sem] abbrev LZ:Nat×r5:=(88,⟨[.v],XM,[],[],some XN⟩)
theorem XW:r8 Tryz.prog LZ:=a2f
end
end Gs
namespace Gs
noncomputable section
def slices_AppendSeq_elements_token_elements_tokensF1_step1:(Int×pF×Int×Unit)→(List sE)→Option ((List sE)⊕(List sE)):=fun O Z=>
 if (List.length Z+List.length ([O]:List sE))*32≤140737488355328 then
  some (.inl (Z++([O]:List sE)))
 else none
def slices_AppendSeq_elements_token_elements_tokensF1 (O:pF):Option (List sE):=
 if List.length O<4294967281 then
  uF (zR (slices_AppendSeq_elements_token_elements_tokensF1_step1) (wC O) ([]:List sE)) fun Z=>
  some (Z)
 else none
section
variable (O:pF)
abbrev a2X:List qE:=[(.nilS,none),(.val .clo (some (78,[(0,0)])),none)]
abbrev a2Y:List qD:=[.cells .str O []]
@[go_sem] def a2Z:qK:=⟨[((slices_AppendSeq_elements_token_elements_tokensF1 O)).isSome=true],[(.val (.list sZ) (val (slices_AppendSeq_elements_token_elements_tokensF1 O)),none)],[.cells .str O []]⟩
def aEV:List qE→List qD→Option qK:=rP (V:=pF) (fun x=>a2X) (fun x=>a2Y x) fun x=>a2Z x
@[go_sem] theorem aS2:aEV (no_index a2X) (no_index (a2Y O))=some (a2Z O):=rT (fun a0 b0 h1 h2=>by cases h1;cases h2;rfl) O
end
@[go_sem] abbrev a24:Nat×r5:=(77,⟨[.v,.f [(.str,[])]],aEV,[],[0],none⟩)
theorem OL:rH Tryz.prog [D2,AS] (rI []):=⟨⟨HN,⟨G4,trivial⟩⟩,rN,rK⟩
theorem aEW:r8 Tryz.prog a24:=by
 refine rU OL Tryz.func77 (c:=_) rfl (N:=13) pW (ts:=[(4,none)]) rfl (fun _ _=>rfl) ?_;intro O hs hrow;dsimp only[a2X,a2Y,a2Z,rM,qT,r6,rC,rO,Nat.reduceAdd] at hs hrow|-;have hz:=hs;obtain⟨z0,hC0⟩:=aUV.1 hz
 try rw[s7 hC0]
 clear hz hs;unfold slices_AppendSeq_elements_token_elements_tokensF1 at hC0;refine qC OL ?_;refine qQ ?_;refine qC OL ?_;refine rS ?_;obtain⟨hgF2,hC0⟩:=qI hC0;obtain⟨y1,hy1,hC0⟩:=vF hC0;refine aN0 aOo aOl pX pX hgF2 hy1 [(2,(.val .ref (some (1,0)),none))] (fun Z=>[(2,(.val .ref (some (1,0)),none)),(5,(.val .ref (some (3,0)),none))]) (fun x=>[.cells .str O [],.cells (.list sZ) x [(0,2)],.grow 94 3 (List.length x)]) (fun Z x=>[.cells .str O [],.cells (.list sZ) x [(0,2)],.grow 94 3 (List.length x),.cells sZ Z []]) 2 ⟨[2],[(0,0),(1,1),(2,2)]⟩ pX pX (aWh pX) (fun _=>by rfl) pX (aWh pX) (fun _=>aWh rfl) (fun _=>by rfl) (fun _ _=>by rfl) (fun _ _=>aWh rfl) (fun _=>rfl) pX ?_ ?_
 .intro Z aA w1 hC1 hN1;refine⟨?_,?_⟩
  .dsimp only[JI,aEU,uM,qT,r6,Nat.reduceAdd,List.toList_toArray];refine rF OL ?_;exact aEE ⟨[2,5],[(0,0),(1,1),(2,2),(3,3)]⟩ pX
  .unfold slices_AppendSeq_elements_token_elements_tokensF1_step1 at hC1;dsimp only[qT,r6,Nat.reduceAdd] at hC1|-;refine rS ?_;obtain⟨hg1,hC1⟩:=qI hC1;refine rF OL ?_ (hp:=by exact⟨pV,hg1⟩)
   refine rW ?_;cases hC1;exact aEF ⟨[],[(0,0),(1,1),(2,2)]⟩ _ rfl pX
 .rintro aA rfl;dsimp only[qT,r6,Nat.reduceAdd] at hC0|-;refine rW (qM ?_);refine qC OL ?_;refine qS ?_;cases hC0;exact pH [(0,0)]
attribute [irreducible] slices_AppendSeq_elements_token_elements_tokensF1
def slices_Collect_elements_token_elements_tokensF1 (O:pF):Option (List sE):=
 (slices_AppendSeq_elements_token_elements_tokensF1 O).bind fun Z=>
 some (Z)
section
variable (O:pF)
abbrev a26:List qE:=[(.val .clo (some (78,[(0,0)])),none)]
abbrev a27:List qD:=[.cells .str O []]
@[go_sem] def a28:qK:=⟨[((slices_Collect_elements_token_elements_tokensF1 O)).isSome=true],[(.val (.list sZ) (val (slices_Collect_elements_token_elements_tokensF1 O)),none)],[.cells .str O []]⟩
def aEX:List qE→List qD→Option qK:=rP (V:=pF) (fun x=>a26) (fun x=>a27 x) fun x=>a28 x
@[go_sem] theorem aS3:aEX (no_index a26) (no_index (a27 O))=some (a28 O):=rT (fun a0 b0 h1 h2=>by cases h1;cases h2;rfl) O
end
@[go_sem] abbrev slices_Collect_elements_token_elements_tokensF1E:Nat×r5:=(49,⟨[.f [(.str,[])]],aEX,[],[0],none⟩)
theorem aEY:rH Tryz.prog [D2] (rI [a24]):=⟨⟨HN,trivial⟩,qP aEW rN,rK⟩
theorem aOp:rH Tryz.prog [] (rI [a24]):=⟨trivial,qP aEW rN,rK⟩
theorem slices_Collect_elements_token_elements_tokensF1_con:r8 Tryz.prog slices_Collect_elements_token_elements_tokensF1E:=by
 refine rU aEY Tryz.func49 (c:=_) rfl (N:=5) pW (ts:=[(2,none)]) rfl (fun _ _=>rfl) ?_;intro O hs hrow;dsimp only[a26,a27,a28,rM,qT,r6,rC,rO,Nat.reduceAdd] at hs hrow|-;have hz:=hs;obtain⟨z0,hC0⟩:=aUV.1 hz
 try rw[s7 hC0]
 clear hz hs;unfold slices_Collect_elements_token_elements_tokensF1 at hC0;refine qC aEY ?_;obtain⟨Z,hv1,hw1,hC0⟩:=qY hC0
 try simp only[go_sem] at hw1
 refine qC aOp ?_ (hp:=by exact⟨pV,(qW hv1)⟩) (h:=by simp only[go_sem,hw1];rfl)
 refine qS ?_;cases hC0;exact pH [(0,0)]
attribute [irreducible] slices_Collect_elements_token_elements_tokensF1
end
end Gs
end Go.Proofs.YtkpflnijijccpaaGreatDoor
section
end
namespace Go.Proofs.YtkpflnijijccpaaGreatDoor
open Vc
@[reducible,go_sem] noncomputable def a29:Nat×r5:=Gs.slices_Collect_elements_token_elements_tokensF1E
theorem aOq:r8 Tryz.prog a29:=Gs.slices_Collect_elements_token_elements_tokensF1_con
theorem aOr:r8 Tryz.prog a29:=aOq
noncomputable section
@[go_sem] abbrev sN:Ty:=(.pair .str (.pair .str (.pair .str (.pair (.list .str) (.pair (.list .str) (.pair (.int .i64) (.pair (.list (.pair .str (.pair .str .unit))) .unit)))))))
@[go_sem] abbrev D0:Ty:=(.pair .str (.pair (.list .str) (.pair (.list (.pair .str (.pair .str .unit))) (.pair (.list sN) .unit))))
@[go_sem] abbrev AR:Ty:=(.pair .str (.pair (.list .str) (.pair .str .unit)))
@[go_sem] abbrev wR:Ty:=(.pair .mref (.pair (.list (.int .u8)) .unit))
abbrev r7:Type:=(pF×(pF×Unit))
abbrev s8:Type:=(pF×(pF×(pF×(pG×(pG×(Int×((List r7)×Unit)))))))
abbrev G3:Type:=(pF×(pG×(pF×Unit)))
abbrev sR:Type:=(pF×(pG×((List r7)×((List s8)×Unit))))
abbrev sE:Type:=(Int×(pF×(Int×Unit)))
@[go_sem] abbrev sZ:Ty:=(.pair (.int .i64) (.pair .str (.pair (.int .i64) .unit)))
@[go_sem] abbrev t6:Ty:=(.pair (.list sZ) (.pair (.int .i64) (.pair (.int .i64) (.pair D0 (.pair .mp (.pair (.list (.int .i64)) .unit))))))
@[go_sem] abbrev xF:Ty:=(.pair (.int .i64) (.pair .str (.pair (.list (.pair .str (.pair .str .unit))) (.pair .bool .unit))))
abbrev z7:Type:=(Int×(pF×((List r7)×(Bool×Unit))))
@[go_sem] abbrev wD:Nat×TI:=(3,⟨(.int .i64),0,0,false,[]⟩)
theorem wS:uG Tryz.prog wD.1 wD.2:=⟨pW,(show Tryz.prog.underlying _=_ from by kernel_rfl)⟩
@[go_sem] abbrev ER:Nat×TI:=(5,⟨(.int .u8),0,0,false,[]⟩)
theorem HO:uG Tryz.prog ER.1 ER.2:=⟨pW,(show Tryz.prog.underlying _=_ from by kernel_rfl)⟩
@[go_sem] abbrev sL:Nat×TI:=(9,⟨.str,0,0,false,[]⟩)
theorem sP:uG Tryz.prog sL.1 sL.2:=⟨pW,(show Tryz.prog.underlying _=_ from by kernel_rfl)⟩
@[go_sem] abbrev ES:Nat×TI:=(22,⟨(.list (.int .u8)),5,1,false,[]⟩)
theorem HP:uG Tryz.prog ES.1 ES.2:=⟨pW,(show _/\_/\_ from⟨pW,pW,pW⟩)⟩
@[go_sem] abbrev vY:Nat×TI:=(24,⟨(.list .str),9,16,false,[]⟩)
theorem wE:uG Tryz.prog vY.1 vY.2:=⟨pW,(show _/\_/\_ from⟨pW,pW,pW⟩)⟩
@[go_sem] abbrev JL:Nat×TI:=(26,⟨AR,0,0,false,[(1,9,1)]⟩)
theorem OM:uG Tryz.prog JL.1 JL.2:=⟨pW,(show ((_/\∃_,_/\_)\/_)/\_ from⟨.inl ⟨rfl,_,Tryz.underlying26,(show _/\_/\_/\_ from⟨rfl,pW,pW,(show _/\_/\_/\_ from⟨rfl,pW,pW,(show _/\_/\_/\_ from⟨rfl,pW,pW,trivial⟩)⟩)⟩)⟩,(fun h=>absurd h pJ)⟩)⟩
@[go_sem] abbrev G6:Nat×TI:=(34,⟨(.list sN),53,128,false,[]⟩)
theorem JM:uG Tryz.prog G6.1 G6.2:=⟨pW,(show _/\_/\_ from⟨pW,pW,pW⟩)⟩
@[go_sem] abbrev BJ:Nat×TI:=(36,⟨D0,0,0,false,[(1,9,1),(2,111,2),(3,53,7)]⟩)
theorem D3:uG Tryz.prog BJ.1 BJ.2:=⟨pW,(show ((_/\∃_,_/\_)\/_)/\_ from⟨.inl ⟨rfl,_,Tryz.underlying36,(show _/\_/\_/\_ from⟨rfl,pW,pW,(show _/\_/\_/\_ from⟨rfl,pW,pW,(show _/\_/\_/\_ from⟨rfl,pW,pW,(show _/\_/\_/\_ from⟨rfl,pW,pW,trivial⟩)⟩)⟩)⟩)⟩,(fun h=>absurd h pJ)⟩)⟩
@[go_sem] abbrev xI:Nat×TI:=(53,⟨sN,0,0,false,[(3,9,1),(4,9,1),(6,111,2)]⟩)
theorem y7:uG Tryz.prog xI.1 xI.2:=⟨pW,(show ((_/\∃_,_/\_)\/_)/\_ from⟨.inl ⟨rfl,_,Tryz.underlying53,(show _/\_/\_/\_ from⟨rfl,pW,pW,(show _/\_/\_/\_ from⟨rfl,pW,pW,(show _/\_/\_/\_ from⟨rfl,pW,pW,(show _/\_/\_/\_ from⟨rfl,pW,pW,(show _/\_/\_/\_ from⟨rfl,pW,pW,(show _/\_/\_/\_ from⟨rfl,pW,pW,(show _/\_/\_/\_ from⟨rfl,pW,pW,trivial⟩)⟩)⟩)⟩)⟩)⟩)⟩)⟩,(fun h=>absurd h pJ)⟩)⟩
@[go_sem] abbrev HQ:Nat×TI:=(73,⟨wR,0,0,false,[(1,5,1)]⟩)
theorem M5:uG Tryz.prog HQ.1 HQ.2:=⟨pW,(show ((_/\∃_,_/\_)\/_)/\_ from⟨.inl ⟨rfl,_,Tryz.underlying73,(show _/\_/\_/\_ from⟨rfl,pW,pW,(show _/\_/\_/\_ from⟨rfl,pW,pW,trivial⟩)⟩)⟩,(fun h=>absurd h pJ)⟩)⟩
@[go_sem] abbrev y8:Nat×TI:=(33,⟨(.list (.pair .str (.pair .str .unit))),111,32,false,[]⟩)
theorem z8:uG Tryz.prog y8.1 y8.2:=⟨pW,(show _/\_/\_ from⟨pW,pW,pW⟩)⟩
@[go_sem] abbrev D4:Nat×TI:=(111,⟨(.pair .str (.pair .str .unit)),0,1,false,[]⟩)
theorem ET:uG Tryz.prog D4.1 D4.2:=⟨pW,(show ((_/\∃_,_/\_)\/_)/\_ from⟨.inl ⟨rfl,_,Tryz.underlying111,(show _/\_/\_/\_ from⟨rfl,pW,pW,(show _/\_/\_/\_ from⟨rfl,pW,pW,trivial⟩)⟩)⟩,(fun _=>⟨pW,1,pJ,(.struct rfl Tryz.underlying111 pW (.cons pJ rfl pW pW (.str Tryz.underlying9) (.cons pJ rfl pW pW (.str Tryz.underlying9) .nil)))⟩)⟩)⟩
@[go_sem] abbrev D5:Nat×TI:=(27,⟨(.int .i64),0,0,false,[]⟩)
theorem EU:uG Tryz.prog D5.1 D5.2:=⟨pW,(show Tryz.prog.underlying _=_ from by kernel_rfl)⟩
@[go_sem] abbrev D2:Nat×TI:=(61,⟨(.list sZ),94,32,false,[]⟩)
theorem HN:uG Tryz.prog D2.1 D2.2:=⟨pW,(show _/\_/\_ from⟨pW,pW,pW⟩)⟩
@[go_sem] abbrev C1:Nat×TI:=(65,⟨t6,0,0,false,[(0,94,3),(4,9,1),(5,111,2),(6,53,7),(8,3,1)]⟩)
theorem DS:uG Tryz.prog C1.1 C1.2:=⟨pW,(show ((_/\∃_,_/\_)\/_)/\_ from⟨.inl ⟨rfl,_,Tryz.underlying65,(show _/\_/\_/\_ from⟨rfl,pW,pW,(show _/\_/\_/\_ from⟨rfl,pW,pW,(show _/\_/\_/\_ from⟨rfl,pW,pW,(show _/\_/\_/\_ from⟨rfl,pW,pW,(show _/\_/\_/\_ from⟨rfl,pW,pW,(show _/\_/\_/\_ from⟨rfl,pW,pW,trivial⟩)⟩)⟩)⟩)⟩)⟩)⟩,(fun h=>absurd h pJ)⟩)⟩
@[go_sem] abbrev AS:Nat×TI:=(94,⟨sZ,0,1,false,[]⟩)
theorem G4:uG Tryz.prog AS.1 AS.2:=⟨pW,(show ((_/\∃_,_/\_)\/_)/\_ from⟨.inl ⟨rfl,_,Tryz.underlying94,(show _/\_/\_/\_ from⟨rfl,pW,pW,(show _/\_/\_/\_ from⟨rfl,pW,pW,(show _/\_/\_/\_ from⟨rfl,pW,pW,trivial⟩)⟩)⟩)⟩,(fun _=>⟨pW,1,pJ,(.struct rfl Tryz.underlying94 pW (.cons pJ rfl pW pW (.int Tryz.underlying3) (.cons pJ rfl pW pW (.str Tryz.underlying9) (.cons pJ rfl pW pW (.int Tryz.underlying3) .nil))))⟩)⟩)⟩
@[go_sem] abbrev C2:Nat×TI:=(127,⟨(.pair .str (.pair .str .unit)),0,1,false,[]⟩)
theorem DT:uG Tryz.prog C2.1 C2.2:=⟨pW,(show ((_/\∃_,_/\_)\/_)/\_ from⟨.inl ⟨rfl,_,Tryz.underlying127,(show _/\_/\_/\_ from⟨rfl,pW,pW,(show _/\_/\_/\_ from⟨rfl,pW,pW,trivial⟩)⟩)⟩,(fun _=>⟨pW,1,pJ,(.struct rfl Tryz.underlying127 pW (.cons pJ rfl pW pW (.str Tryz.underlying9) (.cons pJ rfl pW pW (.str Tryz.underlying9) .nil)))⟩)⟩)⟩
@[go_sem] abbrev SJ:Nat×TI:=(21,⟨(.int .i32),0,0,false,[]⟩)
theorem a3a:uG Tryz.prog SJ.1 SJ.2:=⟨pW,(show Tryz.prog.underlying _=_ from by kernel_rfl)⟩
@[go_sem] abbrev Y0:Nat×TI:=(205,⟨(.int .u32),0,0,false,[]⟩)
theorem aEZ:uG Tryz.prog Y0.1 Y0.2:=⟨pW,(show Tryz.prog.underlying _=_ from by kernel_rfl)⟩
@[go_sem] abbrev Y1:Nat×TI:=(33,⟨(.list (.pair .str (.pair .str .unit))),111,32,true,[]⟩)
theorem aE0:uG Tryz.prog Y1.1 Y1.2:=⟨pW,(show _/\_/\_ from⟨pW,pW,pW⟩)⟩
@[go_sem] abbrev D6:Nat×TI:=(98,⟨(.list (.pair .str (.pair .str .unit))),127,32,false,[]⟩)
theorem EV:uG Tryz.prog D6.1 D6.2:=⟨pW,(show _/\_/\_ from⟨pW,pW,pW⟩)⟩
@[go_sem] abbrev SK:Nat×TI:=(24,⟨(.list .str),9,16,true,[]⟩)
theorem a3b:uG Tryz.prog SK.1 SK.2:=⟨pW,(show _/\_/\_ from⟨pW,pW,pW⟩)⟩
@[go_sem] abbrev zJ:Nat×TI:=(100,⟨xF,0,0,false,[(2,127,2)]⟩)
theorem AA:uG Tryz.prog zJ.1 zJ.2:=⟨pW,(show ((_/\∃_,_/\_)\/_)/\_ from⟨.inl ⟨rfl,_,Tryz.underlying100,(show _/\_/\_/\_ from⟨rfl,pW,pW,(show _/\_/\_/\_ from⟨rfl,pW,pW,(show _/\_/\_/\_ from⟨rfl,pW,pW,(show _/\_/\_/\_ from⟨rfl,pW,pW,trivial⟩)⟩)⟩)⟩)⟩,(fun h=>absurd h pJ)⟩)⟩
@[go_sem] abbrev G7:Nat×TI:=(123,⟨.mp,9,9,false,[]⟩)
theorem JN:uG Tryz.prog G7.1 G7.2:=⟨pW,(show Tryz.prog.underlying _=_ from by kernel_rfl)⟩
@[go_sem] abbrev BK:Nat×TI:=(4,⟨.bool,0,0,false,[]⟩)
theorem D7:uG Tryz.prog BK.1 BK.2:=⟨pW,(show Tryz.prog.underlying _=_ from by kernel_rfl)⟩
@[go_sem] abbrev EW:Nat×TI:=(63,⟨(.list (.int .i64)),3,8,false,[]⟩)
theorem HS:uG Tryz.prog EW.1 EW.2:=⟨pW,(show _/\_/\_ from⟨pW,pW,pW⟩)⟩
@[go_sem] abbrev JO:Nat×TI:=(62,⟨.mp,9,4,false,[]⟩)
theorem ON:uG Tryz.prog JO.1 JO.2:=⟨pW,(show Tryz.prog.underlying _=_ from by kernel_rfl)⟩
@[go_sem] abbrev Y2:Nat×TI:=(34,⟨(.list sN),53,128,true,[]⟩)
theorem aE1:uG Tryz.prog Y2.1 Y2.2:=⟨pW,(show _/\_/\_ from⟨pW,pW,pW⟩)⟩
theorem rK:Tryz.prog.follows .mixedOrders=true:=by kernel_rfl
@[go_sem] abbrev G5:Nat×r5:=(108,⟨[.v,.v],RY,[],[],none⟩)
theorem LU:r8 Tryz.prog G5:=⟨a2b,fun _ h=>by cases h⟩
@[go_sem] abbrev OB:Nat×r5:=(127,⟨[.v,.v],RZ,[],[],none⟩)
theorem a2x:r8 Tryz.prog OB:=⟨a2c,fun _ h=>by cases h⟩
@[go_sem] abbrev LV:Nat×r5:=(85,⟨[.v,.v],S8,[],[],none⟩)
theorem XS:r8 Tryz.prog LV:=⟨a2p,fun _ h=>by cases h⟩
@[go_sem] abbrev OC:Nat×r5:=(179,⟨[.v],S0,[],[],none⟩)
theorem a2y:r8 Tryz.prog OC:=⟨a2d,fun _ h=>by cases h⟩
@[go_sem] abbrev OD:Nat×r5:=(181,⟨[.v],S9,[],[],none⟩)
theorem a2z:r8 Tryz.prog OD:=⟨a2q,fun _ h=>by cases h⟩
@[go_sem] abbrev OE:Nat×r5:=(182,⟨[.v,.v],SF,[],[],none⟩)
theorem a2A:r8 Tryz.prog OE:=⟨a2v,fun _ h=>by cases h⟩
@[go_sem] abbrev JK:Nat×r5:=(58,⟨[.p wR [1]],S1,[],[],none⟩)
theorem SG:r8 Tryz.prog JK:=⟨a2g,fun _ h=>by cases h⟩
@[go_sem] abbrev HM:Nat×r5:=(31,⟨[.p wR [1]],S2,[],[],none⟩)
theorem OF:r8 Tryz.prog HM:=⟨a2j,fun _ h=>by cases h⟩
@[go_sem] abbrev LW:Nat×r5:=(113,⟨[.v],SA,[],[],none⟩)
theorem XT:r8 Tryz.prog LW:=⟨a2r,fun _ h=>by cases h⟩
@[go_sem] abbrev OG:Nat×r5:=(131,⟨[.v,.v],SB,[],[],none⟩)
theorem a2B:r8 Tryz.prog OG:=⟨a2s,fun _ h=>by cases h⟩
@[go_sem] abbrev LX:Nat×r5:=(91,⟨[.r],S6,[],[],none⟩)
theorem XU:r8 Tryz.prog LX:=⟨a2n,fun _ h=>by cases h⟩
@[go_sem] abbrev OH:Nat×r5:=(130,⟨[.r,.v],S7,[],[],none⟩)
theorem a2C:r8 Tryz.prog OH:=⟨a2o,fun _ h=>by cases h⟩
@[go_sem] abbrev OI:Nat×r5:=(159,⟨[.r,.v,.v],S3,[],[],none⟩)
theorem a2D:r8 Tryz.prog OI:=⟨a2k,fun _ h=>by cases h⟩
@[go_sem] abbrev LY:Nat×r5:=(151,⟨[.v,.v],SC,[],[],none⟩)
theorem XV:r8 Tryz.prog LY:=⟨a2t,fun _ h=>by cases h⟩
@[go_sem] abbrev OJ:Nat×r5:=(70,⟨[.v,.v],SD,[],[],none⟩)
theorem a2E:r8 Tryz.prog OJ:=⟨a2u,fun _ h=>by cases h⟩
@[go_sem] abbrev LZ:Nat×r5:=(88,⟨[.v],XM,[],[],some XN⟩)
theorem XW:r8 Tryz.prog LZ:=a2f
end
noncomputable section
def a3c (O:Int):Option pF:=if (decide ((10:Int)≤O))=true then if False then if False then if (((JJ (IntKind.wrap .i64 (Int.tdiv O (10:Int))))++(JJ (Int.tmod O (10:Int)))).length:Int)≤9223372036854775807 then some (((JJ (IntKind.wrap .i64 (Int.tdiv O (10:Int))))++(JJ (Int.tmod O (10:Int))))) else none else none else none else if qG ((48:Int)+O) then some ((uC ([(IntKind.wrap .u8 ((48:Int)+O))]:pO))) else none
def a3d (O:Int):Option pF:=if (decide ((10:Int)≤O))=true then (a3c (IntKind.wrap .i64 (Int.tdiv O (10:Int)))).bind fun Z=>(a3c (Int.tmod O (10:Int))).bind fun aA=>if ((Z++aA).length:Int)≤9223372036854775807 then some ((Z++aA)) else none else if qG ((48:Int)+O) then some ((uC ([(IntKind.wrap .u8 ((48:Int)+O))]:pO))) else none
def aE2 (O:Int):Option pF:=if (decide ((10:Int)≤O))=true then (a3d (IntKind.wrap .i64 (Int.tdiv O (10:Int)))).bind fun Z=>(a3d (Int.tmod O (10:Int))).bind fun aA=>if ((Z++aA).length:Int)≤9223372036854775807 then some ((Z++aA)) else none else if qG ((48:Int)+O) then some ((uC ([(IntKind.wrap .u8 ((48:Int)+O))]:pO))) else none
def SL (O:sR) (Z:pF):Int→Option (Int⊕(Unit⊕(Int×Bool))):=fun aA=>if (decide (aA<(O.2.2.2.1.length:Int)))=true then if 0≤aA∧aA<(O.2.2.2.1.length:Int) then if (decide ((qR sN O.2.2.2.1 aA).1=Z))=true then some (.inr (.inr ((aA,true)))) else if qG (aA+(1:Int)) then some (.inl (aA+(1:Int))) else none else none else some (.inr (.inl ()))
def JP (O:sR) (Z:pF):Option (Int×Bool):=uF (rQ (SL O Z) (0:Int)) fun _=>some (((0:Int),false))
section
variable (O:sR) (Z:pF)
abbrev a3e:List qE:=[(.val D0 O,none),(.val .str Z,none)]
abbrev a3f:List qD:=[]
@[go_sem] def a3g:qK:=⟨[((JP O Z)).isSome=true],[(.val (.int .i64) ((val (JP O Z)).1),none),(.val .bool ((val (JP O Z)).2),none)],[]⟩
def aE3:List qE→List qD→Option qK:=rP (V:=(sR×pF)) (fun x=>a3e x.1 x.2) (fun x=>a3f) fun x=>a3g x.1 x.2
@[go_sem] def aS4:aE3 (no_index (a3e O Z)) (no_index a3f)=some (a3g O Z):=rT (fun⟨a0,a1⟩ ⟨b0,b1⟩ h1 h2=>by cases h1;cases h2;rfl) (O,Z)
end
@[go_sem] abbrev a3h:Nat×r5:=(25,⟨[.v,.v],aE3,[],[],none⟩)
def JQ:rH Tryz.prog [sL,G6,BJ,xI] (rI []):=⟨⟨sP,⟨JM,⟨D3,⟨y7,trivial⟩⟩⟩⟩,rN,rK⟩
def aOs:r8 Tryz.prog a3h:=by
 refine rU JQ Tryz.func25 (c:=_) rfl (N:=23) pW (ts:=[(4,none),(5,none)]) rfl (fun _ _=>rfl) ?_;intro⟨O,Z⟩ hs hrow;dsimp only[a3e,a3f,a3g,rM,qT,r6,rC,rO,Nat.reduceAdd] at hs hrow|-;have hz:=hs;obtain⟨z0,e⟩:=aUV.1 hz
 try rw[s7 e]
 clear hz hs;unfold JP at e;refine qC JQ ?_;refine qQ ?_;refine qC JQ ?_;refine rS ?_;obtain⟨y1,hy1,e⟩:=vF e;refine uA 0 (fun s=> ∃v,y1= .inl v∧s=(fun _=>⟨[],[],0,23,0⟩) v) ?_ ?_
 .refine tZ hy1 (fun x=>⟨[(1,(.val .str Z,none)),(2,(.val .ref (some (0,0)),none)),(6,(.val (.int .i64) x,none))],[(0,.cells D0 O [])],1,23,0⟩) ⟨[1,2,6],[(0,0)]⟩ pX ?_;intro aA w1 n1 d f;unfold SL at d;dsimp only at d|-;refine qQ ?_;refine qC JQ ?_;refine qV d (fun d hc1=> ?_) (fun d hc1=> ?_)
  .refine r9 (qM (qQ (rS ?_)));obtain⟨hg1,d⟩:=qI d;refine qC JQ ?_ (hp:=by exact hg1);refine qV d (fun d hc2=> ?_) (fun d hc2=> ?_)
   .refine qC JQ ?_;refine qS (rY (rG (vE (vM (rY (rG ?_))))));cases d;cases f;dsimp only at e;cases e;exact pH []
   .refine r9 (rW (qM ?_));obtain⟨hg2,d⟩:=qI d;refine rF JQ ?_ (hp:=by exact hg2);cases d;exact sX ⟨⟨[1,2,6],[(0,0)]⟩,_,by rfl,f⟩
  .refine tV (tU (tX ?_));cases d;cases f;exact tW ⟨⟨[],[]⟩,_,rfl,by rfl⟩
 .rintro _ ⟨v,rfl,rfl⟩;dsimp only at e|-;refine u7 (qM ?_);refine qC JQ ?_;refine qS ?_;cases e;exact pH []
def aE4 (O:G3):Unit:=()
section
variable (O:G3)
abbrev a3i:List qE:=[(.val AR O,none)]
abbrev a3j:List qD:=[]
@[go_sem] def a3k:qK:=⟨[],[(.val .clo (some (57,[(0,0)])),none)],[.cells AR O []]⟩
def aE5:List qE→List qD→Option qK:=rP (V:=G3) (a3i) (fun x=>a3j) fun x=>a3k x
@[go_sem] def aS5:aE5 (no_index (a3i O)) (no_index a3j)=some (a3k O):=rT (fun a0 b0 h1 h2=>by cases h1;cases h2;rfl) O
end
@[go_sem] abbrev aE6:Nat×r5:=(27,⟨[.v],aE5,[],[],none⟩)
def a3l:rH Tryz.prog [JL] (rI []):=⟨⟨OM,trivial⟩,rN,rK⟩
def aOt:r8 Tryz.prog aE6:=by
 refine rU a3l Tryz.func27 (c:=_) rfl (N:=4) pW (ts:=[(2,none)]) rfl (fun _ _=>rfl) ?_;intro O hs hrow;dsimp only[a3i,a3j,a3k,rM,qT,r6,rC,rO,Nat.reduceAdd] at hs hrow|-;obtain⟨z0,e⟩: ∃z,(aE4 O)=z:=⟨_,rfl⟩
 try rw[e]
 unfold aE4 at e;refine qC a3l ?_;refine qC a3l ?_;refine qS ?_;cases e;exact pH [(0,0)]
def DU (O:(pO×Unit)) (Z:pF):Option Unit:=if List.length O.1+Z.length≤140737488355328 then some (()) else none
section
variable (O:pF) (Z:(pO×Unit)) (aA:Nat)
abbrev a3m:List qE:=[(.val .ref (some (0,0)),none),(.val .str O,none)]
abbrev a3n:List qD:=[.cells wR ((some (0,0)),Z) [(1,1)],.grow 5 1 aA]
@[go_sem] def a3o:qK:=⟨[aA=(Z.1.length),((DU Z O)).isSome=true],[(.val (.int .i64) (O.length:Int),none),(.any,none)],[.cells wR ((some (0,0)),((Z.1++uY O),())) [(1,1)],.grow 5 1 ((Z.1++uY O).length)]⟩
def aE7:List qE→List qD→Option qK:=rP (V:=(pF×(pO×Unit)×Nat)) (fun x=>a3m x.1) (fun x=>a3n x.2.1 x.2.2) fun x=>a3o x.1 x.2.1 x.2.2
@[go_sem] def aS6:aE7 (no_index (a3m O)) (no_index (a3n Z aA))=some (a3o O Z aA):=rT (fun⟨a0,a1,a2⟩ ⟨b0,b1,b2⟩ h1 h2=>by cases h1;cases h2;rfl) (O,Z,aA)
end
@[go_sem] abbrev Y3:Nat×r5:=(30,⟨[.p wR [1],.v],aE7,[],[],none⟩)
def SM:rH Tryz.prog [sL,ES,HQ] (rI [JK]):=⟨⟨sP,⟨HP,⟨M5,trivial⟩⟩⟩,qP SG rN,rK⟩
def a3p:r8 Tryz.prog Y3:=by
 refine rU SM Tryz.func30 (c:=_) rfl (N:=19) pW (ts:=[(4,none),(5,none)]) rfl (fun _ _=>rfl) ?_;intro⟨O,Z,aA⟩ hs hrow;dsimp only[a3m,a3n,a3o,rM,qT,r6,rC,rO,Nat.reduceAdd] at hs hrow|-;obtain⟨rfl,hz⟩:=hs;obtain⟨z0,e⟩:=aUV.1 hz
 try rw[s7 e]
 clear hz;unfold DU at e;refine qC SM ?_;refine qC SM ?_ (hp:=by first|rfl|trivial)
 obtain⟨hg1,e⟩:=qI e;refine qC SM ?_ (hp:=by exact⟨pV,hg1⟩)
 refine qC SM ?_;refine qS ?_;cases e;exact pH [(0,0),(1,1)]
def JR (O:pG):(Int×Int)→Option ((Int×Int)⊕Int):=fun(Z,aA)=>if ((decide (aA<(O.length:Int)))&&(decide (Z<(1099511627776:Int))))=true then if 0≤aA∧aA<(O.length:Int) then if qG (Z+((qR .str O aA).length:Int)) then if qG (aA+(1:Int)) then some (.inl ((Z+((qR .str O aA).length:Int)),(aA+(1:Int)))) else none else none else none else some (.inr Z)
def JS (O:(List r7)):(Int×Int)→Option ((Int×Int)⊕Int):=fun(Z,aA)=>if ((decide (aA<(O.length:Int)))&&(decide (Z<(1099511627776:Int))))=true then if 0≤aA∧aA<(O.length:Int) then if qG (Z+(((qR (.pair .str (.pair .str .unit)) O aA).1).length:Int)) then if 0≤aA∧aA<(O.length:Int) then if qG ((Z+(((qR (.pair .str (.pair .str .unit)) O aA).1).length:Int))+(((qR (.pair .str (.pair .str .unit)) O aA).2.1).length:Int)) then if qG (aA+(1:Int)) then some (.inl (((Z+(((qR (.pair .str (.pair .str .unit)) O aA).1).length:Int))+(((qR (.pair .str (.pair .str .unit)) O aA).2.1).length:Int)),(aA+(1:Int)))) else none else none else none else none else none else some (.inr Z)
def zS (O:pG) (Z:(List r7)):Option Int:=if qG ((O.length:Int)+(Z.length:Int)) then sU (rQ (JR O) (((O.length:Int)+(Z.length:Int)),(0:Int))) fun aA=>sU (rQ (JS Z) (aA,(0:Int))) fun aB=>some (aB) else none
section
variable (O:pG) (Z:(List r7))
abbrev a3q:List qE:=[(.val (.list .str) O,none),(.val (.list (.pair .str (.pair .str .unit))) Z,none)]
abbrev a3r:List qD:=[]
@[go_sem] def a3s:qK:=⟨[((zS O Z)).isSome=true],[(.val (.int .i64) (val (zS O Z)),none)],[]⟩
def aE8:List qE→List qD→Option qK:=rP (V:=(pG×(List r7))) (fun x=>a3q x.1 x.2) (fun x=>a3r) fun x=>a3s x.1 x.2
@[go_sem] def aS7:aE8 (no_index (a3q O Z)) (no_index a3r)=some (a3s O Z):=rT (fun⟨a0,a1⟩ ⟨b0,b1⟩ h1 h2=>by cases h1;cases h2;rfl) (O,Z)
end
@[go_sem] abbrev aE9:Nat×r5:=(34,⟨[.v,.v],aE8,[],[],none⟩)
def DW:rH Tryz.prog [sL,vY,y8,D4] (rI []):=⟨⟨sP,⟨wE,⟨z8,⟨ET,trivial⟩⟩⟩⟩,rN,rK⟩
def aOu:r8 Tryz.prog aE9:=by
 refine rU DW Tryz.func34 (c:=_) rfl (N:=56) pW (ts:=[(4,none)]) rfl (fun _ _=>rfl) ?_;intro⟨O,Z⟩ hs hrow;dsimp only[a3q,a3r,a3s,rM,qT,r6,rC,rO,Nat.reduceAdd] at hs hrow|-;have hz:=hs;obtain⟨z0,e⟩:=aUV.1 hz
 try rw[s7 e]
 clear hz hs;unfold zS at e;refine qC DW ?_;obtain⟨hg1,e⟩:=qI e;refine qC DW ?_ (hp:=by exact hg1);refine qQ ?_;refine qC DW ?_;refine rS ?_;obtain⟨aA,hy1,e⟩:=qO e;refine uA 0 (fun s=>s=(fun x=>⟨[(1,(.val (.list (.pair .str (.pair .str .unit))) Z,none)),(5,(.val (.int .i64) x,none))],[],0,56,0⟩) aA) ?_ ?_
 .refine tZ hy1 (fun x=>⟨[(0,(.val (.list .str) O,none)),(1,(.val (.list (.pair .str (.pair .str .unit))) Z,none)),(5,(.val (.int .i64) x.1,none)),(6,(.val (.int .i64) x.2,none))],[],0,56,0⟩) ⟨[0,1,5,6],[]⟩ pX ?_;intro x1 w1 n1 d f;obtain⟨aB,aC⟩:=x1;unfold JR at d;dsimp only at d|-;refine qQ ?_;refine qC DW ?_ (hp:=by exact⟨id,sI⟩);refine qV d (fun d hc1=> ?_) (fun d hc1=> ?_)
  .refine r9 (qM (qQ (rS ?_)));obtain⟨hg2,d⟩:=qI d;obtain⟨hg3,d⟩:=qI d;refine rF DW ?_ (hp:=by exact⟨hg2,hg3⟩);refine rW (qM ?_);obtain⟨hg4,d⟩:=qI d;refine rF DW ?_ (hp:=by exact hg4);cases d;exact sX ⟨⟨[0,1,5,6],[]⟩,_,by rfl,f⟩
  .refine tV (tU (tX ?_));cases d;cases f;exact tW ⟨⟨[1,5],[]⟩,by rfl⟩
 .rintro _ rfl;dsimp only at e|-;refine u7 (qM (qQ ?_));refine qC DW ?_;refine rS ?_;obtain⟨aD,hy1,e⟩:=qO e;refine uA 2 (fun s=>s=(fun x=>⟨[(5,(.val (.int .i64) x,none))],[],0,56,0⟩) aD) ?_ ?_
  .refine tZ hy1 (fun x=>⟨[(1,(.val (.list (.pair .str (.pair .str .unit))) Z,none)),(5,(.val (.int .i64) x.1,none)),(7,(.val (.int .i64) x.2,none))],[],0,56,0⟩) ⟨[1,5,7],[]⟩ pX ?_;intro x1 w1 n1 d f;obtain⟨aE,aF⟩:=x1;unfold JS at d;dsimp only at d|-;refine qQ ?_;refine qC DW ?_ (hp:=by exact⟨id,sI⟩);refine qV d (fun d hc2=> ?_) (fun d hc2=> ?_)
   .refine r9 (qM (qQ (rS ?_)));obtain⟨hg5,d⟩:=qI d;obtain⟨hg6,d⟩:=qI d;obtain⟨hg7,d⟩:=qI d;obtain⟨hg8,d⟩:=qI d;refine AQ DW ?_ (hp:=by exact⟨hg5,hg6,hg7,hg8⟩);refine rW (qM ?_);obtain⟨hg9,d⟩:=qI d;refine rF DW ?_ (hp:=by exact hg9);cases d;exact sX ⟨⟨[1,5,7],[]⟩,_,by rfl,f⟩
   .refine tV (tU (tX ?_));cases d;cases f;exact tW ⟨⟨[5],[]⟩,by rfl⟩
  .rintro _ rfl;dsimp only at e|-;refine u7 (qM ?_);refine qC DW ?_;refine qS ?_;cases e;exact pH []
attribute [irreducible] a3c a3d aE2 JP DU zS
end
noncomputable section
def aFa (O:pF):Unit:=()
section
variable (O:pF)
abbrev a3t:List qE:=[(.val .str O,none)]
abbrev a3u:List qD:=[]
@[go_sem] def a3v:qK:=⟨[],[(.val .clo (some (78,[(0,0)])),none)],[.cells .str O []]⟩
def aFb:List qE→List qD→Option qK:=rP (V:=pF) (a3t) (fun x=>a3u) fun x=>a3v x
@[go_sem] def aS8:aFb (no_index (a3t O)) (no_index a3u)=some (a3v O):=rT (fun a0 b0 h1 h2=>by cases h1;cases h2;rfl) O
end
@[go_sem] abbrev aFc:Nat×r5:=(50,⟨[.v],aFb,[],[],none⟩)
def a3w:rH Tryz.prog [sL] (rI []):=⟨⟨sP,trivial⟩,rN,rK⟩
def aOv:r8 Tryz.prog aFc:=by
 refine rU a3w Tryz.func50 (c:=_) rfl (N:=4) pW (ts:=[(2,none)]) rfl (fun _ _=>rfl) ?_;intro O hs hrow;dsimp only[a3t,a3u,a3v,rM,qT,r6,rC,rO,Nat.reduceAdd] at hs hrow|-;obtain⟨z0,e⟩: ∃z,(aFa O)=z:=⟨_,rfl⟩
 try rw[e]
 unfold aFa at e;refine qC a3w ?_;refine qC a3w ?_;refine qS ?_;cases e;exact pH [(0,0)]
def zT (O:(List sE)) (Z:Int) (aA:Int) (aB:sR) (aC:(pO×Unit)) (aD:Int) (aE:pM):Option (Int×Int):=if (decide (aA=(0:Int)))=true then if 0≤(0:Int)∧(0:Int)<(O.length:Int) then some (((qR sZ O (0:Int)).2.2.1,aD)) else none else some ((Z,aA))
section
variable (O:Int) (Z:(List sE)) (aA:Int) (aB:Int) (aC:sR) (aD:(pO×Unit)) (aE:Nat) (aF:Nat) (aG:pM)
abbrev a3x:List qE:=[(.val .ref (some (0,0)),none),(.val (.int .i64) O,none)]
abbrev a3y:List qD:=[.cells t6 (Z,(aA,(aB,(aC,((some 3),aD))))) [(6,1),(8,2)],.grow 53 7 aE,.grow 3 1 aF,.map .str .bool aG]
@[go_sem] def a3z:qK:=⟨[aE=(aC.2.2.2.1.length),aF=(aD.1.length),((zT Z aA aB aC aD O aG)).isSome=true],[],[.cells t6 (Z,((val (zT Z aA aB aC aD O aG)).1,((val (zT Z aA aB aC aD O aG)).2,((aC.1,(aC.2.1,(aC.2.2.1,(aC.2.2.2.1,())))),((some 3),(aD.1,())))))) [(6,1),(8,2)],.grow 53 7 (aC.2.2.2.1.length),.grow 3 1 (aD.1.length),.map .str .bool aG]⟩
def aFd:List qE→List qD→Option qK:=rP (V:=(Int×(List sE)×Int×Int×sR×(pO×Unit)×Nat×Nat×pM)) (fun x=>a3x x.1) (fun x=>a3y x.2.1 x.2.2.1 x.2.2.2.1 x.2.2.2.2.1 x.2.2.2.2.2.1 x.2.2.2.2.2.2.1 x.2.2.2.2.2.2.2.1 x.2.2.2.2.2.2.2.2) fun x=>a3z x.1 x.2.1 x.2.2.1 x.2.2.2.1 x.2.2.2.2.1 x.2.2.2.2.2.1 x.2.2.2.2.2.2.1 x.2.2.2.2.2.2.2.1 x.2.2.2.2.2.2.2.2
@[go_sem] def aS9:aFd (no_index (a3x O)) (no_index (a3y Z aA aB aC aD aE aF aG))=some (a3z O Z aA aB aC aD aE aF aG):=rT (fun⟨a0,a1,a2,a3,a4,a5,a6,a7,a8⟩ ⟨b0,b1,b2,b3,b4,b5,b6,b7,b8⟩ h1 h2=>by cases h1;cases h2;rfl) (O,Z,aA,aB,aC,aD,aE,aF,aG)
end
@[go_sem] abbrev M6:Nat×r5:=(56,⟨[.p t6 [6,8],.v],aFd,[(0,7,.m)],[1,2,3],none⟩)
def a3A:rH Tryz.prog [wD,D5,D2,C1,AS] (rI []):=⟨⟨wS,⟨EU,⟨HN,⟨DS,⟨G4,trivial⟩⟩⟩⟩⟩,rN,rK⟩
def OO:r8 Tryz.prog M6:=by
 refine rU a3A Tryz.func56 (c:=_) rfl (N:=23) pW (ts:=[]) rfl (fun _ _=>rfl) ?_;intro⟨O,Z,aA,aB,aC,aD,aE,aF,aG⟩ hs hrow;dsimp only[a3x,a3y,a3z,rM,qT,r6,rC,rO,Nat.reduceAdd] at hs hrow|-;obtain⟨rfl,rfl,hz⟩:=hs;obtain⟨z0,e⟩:=aUV.1 hz
 try rw[s7 e]
 clear hz;unfold zT at e;refine qC a3A ?_;refine qV e (fun e hc1=> ?_) (fun e hc1=> ?_)
 .obtain⟨hg1,e⟩:=qI e;refine rF a3A ?_ (hp:=by exact hg1);cases e;exact pH [(0,0),(1,1),(2,2),(3,3)]
 .refine r9 ?_;cases e;exact pH [(0,0),(1,1),(2,2),(3,3)]
def Y4 (O:pG) (Z:pG):Int→Option (Int⊕(Unit⊕Bool)):=fun aA=>if (decide (aA<(O.length:Int)))=true then if 0≤aA∧aA<(O.length:Int) then if 0≤aA∧aA<(Z.length:Int) then if (!decide ((qR .str O aA)=(qR .str Z aA)))=true then some (.inr (.inr (false))) else if qG (aA+(1:Int)) then some (.inl (aA+(1:Int))) else none else none else none else some (.inr (.inl ()))
def xT (O:pG) (Z:pG):Option Bool:=if (!decide ((O.length:Int)=(Z.length:Int)))=true then some (false) else uF (rQ (Y4 O Z) (0:Int)) fun _=>some (true)
section
variable (O:pG) (Z:pG)
abbrev a3B:List qE:=[(.val (.list .str) O,none),(.val (.list .str) Z,none)]
abbrev a3C:List qD:=[]
@[go_sem] def a3D:qK:=⟨[((xT O Z)).isSome=true],[(.val .bool (val (xT O Z)),none)],[]⟩
def aFe:List qE→List qD→Option qK:=rP (V:=(pG×pG)) (fun x=>a3B x.1 x.2) (fun x=>a3C) fun x=>a3D x.1 x.2
@[go_sem] def aTa:aFe (no_index (a3B O Z)) (no_index a3C)=some (a3D O Z):=rT (fun⟨a0,a1⟩ ⟨b0,b1⟩ h1 h2=>by cases h1;cases h2;rfl) (O,Z)
end
@[go_sem] abbrev a3E:Nat×r5:=(59,⟨[.v,.v],aFe,[],[],none⟩)
def G8:rH Tryz.prog [sL,vY] (rI []):=⟨⟨sP,⟨wE,trivial⟩⟩,rN,rK⟩
def aFf:r8 Tryz.prog a3E:=by
 refine rU G8 Tryz.func59 (c:=_) rfl (N:=26) pW (ts:=[(4,none)]) rfl (fun _ _=>rfl) ?_;intro⟨O,Z⟩ hs hrow;dsimp only[a3B,a3C,a3D,rM,qT,r6,rC,rO,Nat.reduceAdd] at hs hrow|-;have hz:=hs;obtain⟨z0,e⟩:=aUV.1 hz
 try rw[s7 e]
 clear hz hs;unfold xT at e;refine qC G8 ?_;refine qQ ?_;refine qC G8 ?_;refine qV e (fun e hc1=> ?_) (fun e hc1=> ?_)
 .refine qC G8 ?_;refine qS (rG ?_);cases e;exact pH []
 .refine r9 (qM (qQ ?_));refine qC G8 ?_;refine rS ?_;obtain⟨y1,hy1,e⟩:=vF e;refine uA 0 (fun s=> ∃v,y1= .inl v∧s=(fun _=>⟨[],[],0,26,0⟩) v) ?_ ?_
  .refine tZ hy1 (fun x=>⟨[(0,(.val (.list .str) O,none)),(1,(.val (.list .str) Z,none)),(5,(.val (.int .i64) x,none))],[],0,26,0⟩) ⟨[0,1,5],[]⟩ pX ?_;intro aA w1 n1 f g;unfold Y4 at f;dsimp only at f|-;refine qQ ?_;refine qC G8 ?_;refine qV f (fun f hc2=> ?_) (fun f hc2=> ?_)
   .refine r9 (qM (qQ (rS ?_)));obtain⟨hg1,f⟩:=qI f;obtain⟨hg2,f⟩:=qI f;refine vN G8 ?_ (hp:=by exact⟨hg1,hg2⟩);refine qV f (fun f hc3=> ?_) (fun f hc3=> ?_)
    .refine qC G8 ?_;refine qS (rY (rG (vE (vM (rY (rG ?_))))));cases f;cases g;dsimp only at e;cases e;exact pH []
    .refine r9 (rW (qM ?_));obtain⟨hg3,f⟩:=qI f;refine rF G8 ?_ (hp:=by exact hg3);cases f;exact sX ⟨⟨[0,1,5],[]⟩,_,by rfl,g⟩
   .refine tV (tU (tX ?_));cases f;cases g;exact tW ⟨⟨[],[]⟩,_,rfl,by rfl⟩
  .rintro _ ⟨v,rfl,rfl⟩;dsimp only at e|-;refine u7 (qM ?_);refine qC G8 ?_;refine qS ?_;cases e;exact pH []
def Y5 (O:(List r7)) (Z:(List r7)):Int→Option (Int⊕(Unit⊕Bool)):=fun aA=>if (decide (aA<(O.length:Int)))=true then if 0≤aA∧aA<(O.length:Int) then if 0≤aA∧aA<(Z.length:Int) then if (!((decide ((qR (.pair .str (.pair .str .unit)) O aA).1=(qR (.pair .str (.pair .str .unit)) Z aA).1))&&(decide ((qR (.pair .str (.pair .str .unit)) O aA).2.1=(qR (.pair .str (.pair .str .unit)) Z aA).2.1))))=true then some (.inr (.inr (false))) else if qG (aA+(1:Int)) then some (.inl (aA+(1:Int))) else none else none else none else some (.inr (.inl ()))
def AU (O:(List r7)) (Z:(List r7)):Option Bool:=if (!decide ((O.length:Int)=(Z.length:Int)))=true then some (false) else uF (rQ (Y5 O Z) (0:Int)) fun _=>some (true)
section
variable (O:(List r7)) (Z:(List r7))
abbrev a3F:List qE:=[(.val (.list (.pair .str (.pair .str .unit))) O,none),(.val (.list (.pair .str (.pair .str .unit))) Z,none)]
abbrev a3G:List qD:=[]
@[go_sem] def a3H:qK:=⟨[((AU O Z)).isSome=true],[(.val .bool (val (AU O Z)),none)],[]⟩
def aFg:List qE→List qD→Option qK:=rP (V:=((List r7)×(List r7))) (fun x=>a3F x.1 x.2) (fun x=>a3G) fun x=>a3H x.1 x.2
@[go_sem] def aTb:aFg (no_index (a3F O Z)) (no_index a3G)=some (a3H O Z):=rT (fun⟨a0,a1⟩ ⟨b0,b1⟩ h1 h2=>by cases h1;cases h2;rfl) (O,Z)
end
@[go_sem] abbrev a3I:Nat×r5:=(60,⟨[.v,.v],aFg,[],[],none⟩)
def G9:rH Tryz.prog [y8,D4] (rI []):=⟨⟨z8,⟨ET,trivial⟩⟩,rN,rK⟩
def aFh:r8 Tryz.prog a3I:=by
 refine rU G9 Tryz.func60 (c:=_) rfl (N:=26) pW (ts:=[(4,none)]) rfl (fun _ _=>rfl) ?_;intro⟨O,Z⟩ hs hrow;dsimp only[a3F,a3G,a3H,rM,qT,r6,rC,rO,Nat.reduceAdd] at hs hrow|-;have hz:=hs;obtain⟨z0,e⟩:=aUV.1 hz
 try rw[s7 e]
 clear hz hs;unfold AU at e;refine qC G9 ?_;refine qQ ?_;refine qC G9 ?_;refine qV e (fun e hc1=> ?_) (fun e hc1=> ?_)
 .refine qC G9 ?_;refine qS (rG ?_);cases e;exact pH []
 .refine r9 (qM (qQ ?_));refine qC G9 ?_;refine rS ?_;obtain⟨y1,hy1,e⟩:=vF e;refine uA 0 (fun s=> ∃v,y1= .inl v∧s=(fun _=>⟨[],[],0,26,0⟩) v) ?_ ?_
  .refine tZ hy1 (fun x=>⟨[(0,(.val (.list (.pair .str (.pair .str .unit))) O,none)),(1,(.val (.list (.pair .str (.pair .str .unit))) Z,none)),(5,(.val (.int .i64) x,none))],[],0,26,0⟩) ⟨[0,1,5],[]⟩ pX ?_;intro aA w1 n1 f g;unfold Y5 at f;dsimp only at f|-;refine qQ ?_;refine qC G9 ?_;refine qV f (fun f hc2=> ?_) (fun f hc2=> ?_)
   .refine r9 (qM (qQ (rS ?_)));obtain⟨hg1,f⟩:=qI f;obtain⟨hg2,f⟩:=qI f;refine vN G9 ?_ (hp:=by exact⟨hg1,hg2⟩);refine qV f (fun f hc3=> ?_) (fun f hc3=> ?_)
    .refine qC G9 ?_;refine qS (rY (rG (vE (vM (rY (rG ?_))))));cases f;cases g;dsimp only at e;cases e;exact pH []
    .refine r9 (rW (qM ?_));obtain⟨hg3,f⟩:=qI f;refine rF G9 ?_ (hp:=by exact hg3);cases f;exact sX ⟨⟨[0,1,5],[]⟩,_,by rfl,g⟩
   .refine tV (tU (tX ?_));cases f;cases g;exact tW ⟨⟨[],[]⟩,_,rfl,by rfl⟩
  .rintro _ ⟨v,rfl,rfl⟩;dsimp only at e|-;refine u7 (qM ?_);refine qC G9 ?_;refine qS ?_;cases e;exact pH []
def OP (O:s8) (Z:s8):Option Unit:=if ((((((decide (O.1=Z.1))&&(decide (O.2.1=Z.2.1)))&&(decide (O.2.2.1=Z.2.2.1)))&&(decide (O.2.2.2.2.2.1=Z.2.2.2.2.2.1)))==true)=true→((xT O.2.2.2.1 Z.2.2.2.1)).isSome=true) then if (((((((decide (O.1=Z.1))&&(decide (O.2.1=Z.2.1)))&&(decide (O.2.2.1=Z.2.2.1)))&&(decide (O.2.2.2.2.2.1=Z.2.2.2.2.2.1)))&&(val (xT O.2.2.2.1 Z.2.2.2.1)))==true)=true→((xT O.2.2.2.2.1 Z.2.2.2.2.1)).isSome=true) then if ((((((((decide (O.1=Z.1))&&(decide (O.2.1=Z.2.1)))&&(decide (O.2.2.1=Z.2.2.1)))&&(decide (O.2.2.2.2.2.1=Z.2.2.2.2.2.1)))&&(val (xT O.2.2.2.1 Z.2.2.2.1)))&&(val (xT O.2.2.2.2.1 Z.2.2.2.2.1)))==true)=true→((AU O.2.2.2.2.2.2.1 Z.2.2.2.2.2.2.1)).isSome=true) then some (()) else none else none else none
section
variable (O:s8) (Z:s8)
abbrev a3J:List qE:=[(.val sN O,none),(.val sN Z,none)]
abbrev a3K:List qD:=[]
@[go_sem] def a3L:qK:=⟨[((OP O Z)).isSome=true],[(.val .bool (((((((decide (O.1=Z.1))&&(decide (O.2.1=Z.2.1)))&&(decide (O.2.2.1=Z.2.2.1)))&&(decide (O.2.2.2.2.2.1=Z.2.2.2.2.2.1)))&&(val (xT O.2.2.2.1 Z.2.2.2.1)))&&(val (xT O.2.2.2.2.1 Z.2.2.2.2.1)))&&(val (AU O.2.2.2.2.2.2.1 Z.2.2.2.2.2.2.1))),none)],[]⟩
def aFi:List qE→List qD→Option qK:=rP (V:=(s8×s8)) (fun x=>a3J x.1 x.2) (fun x=>a3K) fun x=>a3L x.1 x.2
@[go_sem] def aTc:aFi (no_index (a3J O Z)) (no_index a3K)=some (a3L O Z):=rT (fun⟨a0,a1⟩ ⟨b0,b1⟩ h1 h2=>by cases h1;cases h2;rfl) (O,Z)
end
@[go_sem] abbrev aFj:Nat×r5:=(61,⟨[.v,.v],aFi,[],[],none⟩)
def a3M:rH Tryz.prog [wD,sL,vY,y8,xI] (rI [a3E,a3I]):=⟨⟨wS,⟨sP,⟨wE,⟨z8,⟨y7,trivial⟩⟩⟩⟩⟩,qP aFf (qP aFh rN),rK⟩
def aOw:r8 Tryz.prog aFj:=by
 refine rU a3M Tryz.func61 (c:=_) rfl (N:=52) pW (ts:=[(4,none)]) rfl (fun _ _=>rfl) ?_;intro⟨O,Z⟩ hs hrow;dsimp only[a3J,a3K,a3L,rM,qT,r6,rC,rO,Nat.reduceAdd] at hs hrow|-;have hz:=hs;obtain⟨z0,e⟩:=aUV.1 hz
 try rw[s7 e]
 clear hz hs;unfold OP at e;refine qC a3M ?_;obtain⟨hg1,e⟩:=qI e;obtain⟨hg2,e⟩:=qI e;obtain⟨hg3,e⟩:=qI e;refine qC a3M ?_ (hp:=by exact⟨id,id,id,id,sI,id,id,id,id,sI,id,id,id,id,sI,id,id,id,id,hg1,sI,id,id,id,id,hg2,sI,id,id,id,id,hg3,sI⟩);refine qS ?_;cases e;exact pH []
def SN (O:pF):Nat→Option (Nat⊕(Unit⊕Bool)):=fun Z=>if (decide (Z<O.length))=true then if (decide (Z<O.length))=true then if (((((decide ((y3 O Z)<(97:Int)))||(decide ((122:Int)<(y3 O Z))))&&((decide ((y3 O Z)<(65:Int)))||(decide ((90:Int)<(y3 O Z)))))&&((decide ((y3 O Z)<(48:Int)))||(decide ((57:Int)<(y3 O Z)))))&&(!decide ((y3 O Z)=(45:Int))))=true then some (.inr (.inr (false))) else some (.inl (BC O Z)) else none else some (.inr (.inl ()))
def EX (O:pF):Option Bool:=uF (rQ (SN O) 0) fun _=>some (((decide ((1:Int)≤(O.length:Int)))&&(decide ((O.length:Int)≤(40:Int)))))
section
variable (O:pF)
abbrev a3N:List qE:=[(.val .str O,none)]
abbrev a3O:List qD:=[]
@[go_sem] def a3P:qK:=⟨[((EX O)).isSome=true],[(.val .bool (val (EX O)),none)],[]⟩
def aFk:List qE→List qD→Option qK:=rP (V:=pF) (a3N) (fun x=>a3O) fun x=>a3P x
@[go_sem] def aTd:aFk (no_index (a3N O)) (no_index a3O)=some (a3P O):=rT (fun a0 b0 h1 h2=>by cases h1;cases h2;rfl) O
end
@[go_sem] abbrev Y6:Nat×r5:=(63,⟨[.v],aFk,[],[],none⟩)
def JT:rH Tryz.prog [sL] (rI []):=⟨⟨sP,trivial⟩,rN,rK⟩
def a3Q:r8 Tryz.prog Y6:=by
 refine rU JT Tryz.func63 (c:=_) rfl (N:=44) pW (ts:=[(2,none)]) rfl (fun _ _=>rfl) ?_;intro O hs hrow;dsimp only[a3N,a3O,a3P,rM,qT,r6,rC,rO,Nat.reduceAdd] at hs hrow|-;have hz:=hs;obtain⟨z0,e⟩:=aUV.1 hz
 try rw[s7 e]
 clear hz hs;unfold EX at e;refine qC JT ?_;refine qQ ?_;refine qC JT ?_;refine rS ?_;obtain⟨y1,hy1,e⟩:=vF e;refine uA 0 (fun s=> ∃v,y1= .inl v∧s=(fun _=>⟨[(0,(.val .str O,none))],[],0,44,0⟩) v) ?_ ?_
 .refine tZ hy1 (fun x=>⟨[(0,(.val .str O,none)),(6,(.val .ref (some (0,0)),none))],[(0,.iter O x)],1,44,0⟩) ⟨[0,6],[(0,64)]⟩ pX ?_;intro Z w1 n1 f g;unfold SN at f;dsimp only at f|-;refine qC JT ?_;refine qQ ?_;refine qV f (fun f hc1=> ?_) (fun f hc1=> ?_)
  .refine r9 (qM (rS ?_));obtain⟨hg1,f⟩:=qI f;refine qC JT ?_ (hp:=by exact hg1);refine qC JT ?_ (hp:=by exact⟨id,sQ,id,id,id,id,fun hG d=>HK hG d,sI,id,id,id,id,fun hG d=>HK hG d,sI,id,sI⟩);refine qV f (fun f hc2=> ?_) (fun f hc2=> ?_)
   .refine qC JT ?_;refine qS (rY (vE (vM (rY (rG ?_)))));cases f;cases g;dsimp only at e;cases e;exact pH []
   .refine r9 (rW ?_);cases f;exact sX ⟨⟨[0,6],[(0,0)]⟩,_,by rfl,g⟩
  .refine tV (tU (tX ?_));cases f;cases g;exact tW ⟨⟨[0],[]⟩,_,rfl,by rfl⟩
 .rintro _ ⟨v,rfl,rfl⟩;dsimp only at e|-;refine u7 (qM ?_);refine qC JT ?_ (hp:=by exact⟨id,id,sI⟩);refine qS ?_;cases e;exact pH []
attribute [irreducible] zT xT AU OP EX
end
noncomputable section
def xU (O:(List sE)) (Z:Int) (aA:Int) (aB:sR) (aC:(pO×Unit)) (aD:Bool) (aE:Bool) (aF:Bool) (aG:pM):Option (Int×Int):=if aD=true then (zT O Z aA aB aC (3:Int) aG).bind fun aH=>some ((aH.1,aH.2)) else if aE=true then (zT O Z aA aB aC (9:Int) aG).bind fun aI=>some ((aI.1,aI.2)) else if aF=true then (zT O Z aA aB aC (6:Int) aG).bind fun aJ=>some ((aJ.1,aJ.2)) else some ((Z,aA))
section
variable (O:Bool) (Z:Bool) (aA:Bool) (aB:(List sE)) (aC:Int) (aD:Int) (aE:sR) (aF:(pO×Unit)) (aG:Nat) (aH:Nat) (aI:pM)
abbrev a3R:List qE:=[(.val .ref (some (0,0)),none),(.val .bool O,none),(.val .bool Z,none),(.val .bool aA,none)]
abbrev a3S:List qD:=[.cells t6 (aB,(aC,(aD,(aE,((some 3),aF))))) [(6,1),(8,2)],.grow 53 7 aG,.grow 3 1 aH,.map .str .bool aI]
@[go_sem] def a3T:qK:=⟨[aG=(aE.2.2.2.1.length),aH=(aF.1.length),((xU aB aC aD aE aF O Z aA aI)).isSome=true],[],[.cells t6 (aB,((val (xU aB aC aD aE aF O Z aA aI)).1,((val (xU aB aC aD aE aF O Z aA aI)).2,((aE.1,(aE.2.1,(aE.2.2.1,(aE.2.2.2.1,())))),((some 3),(aF.1,())))))) [(6,1),(8,2)],.grow 53 7 (aE.2.2.2.1.length),.grow 3 1 (aF.1.length),.map .str .bool aI]⟩
def aFl:List qE→List qD→Option qK:=rP (V:=(Bool×Bool×Bool×(List sE)×Int×Int×sR×(pO×Unit)×Nat×Nat×pM)) (fun x=>a3R x.1 x.2.1 x.2.2.1) (fun x=>a3S x.2.2.2.1 x.2.2.2.2.1 x.2.2.2.2.2.1 x.2.2.2.2.2.2.1 x.2.2.2.2.2.2.2.1 x.2.2.2.2.2.2.2.2.1 x.2.2.2.2.2.2.2.2.2.1 x.2.2.2.2.2.2.2.2.2.2) fun x=>a3T x.1 x.2.1 x.2.2.1 x.2.2.2.1 x.2.2.2.2.1 x.2.2.2.2.2.1 x.2.2.2.2.2.2.1 x.2.2.2.2.2.2.2.1 x.2.2.2.2.2.2.2.2.1 x.2.2.2.2.2.2.2.2.2.1 x.2.2.2.2.2.2.2.2.2.2
@[go_sem] def aTe:aFl (no_index (a3R O Z aA)) (no_index (a3S aB aC aD aE aF aG aH aI))=some (a3T O Z aA aB aC aD aE aF aG aH aI):=rT (fun⟨a0,a1,a2,a3,a4,a5,a6,a7,a8,a9,a10⟩ ⟨b0,b1,b2,b3,b4,b5,b6,b7,b8,b9,b10⟩ h1 h2=>by cases h1;cases h2;rfl) (O,Z,aA,aB,aC,aD,aE,aF,aG,aH,aI)
end
@[go_sem] abbrev EY:Nat×r5:=(81,⟨[.p t6 [6,8],.v,.v,.v],aFl,[(0,7,.m)],[1,2,3],none⟩)
def M7:rH Tryz.prog [] (rI [M6]):=⟨trivial,qP OO rN,rK⟩
def GA:r8 Tryz.prog EY:=by
 refine rU M7 Tryz.func81 (c:=_) rfl (N:=20) pW (ts:=[]) rfl (fun _ _=>rfl) ?_;intro⟨O,Z,aA,aB,aC,aD,aE,aF,aG,aH,aI⟩ hs hrow;dsimp only[a3R,a3S,a3T,rM,qT,r6,rC,rO,Nat.reduceAdd] at hs hrow|-;obtain⟨rfl,rfl,hz⟩:=hs;obtain⟨z0,e⟩:=aUV.1 hz
 try rw[s7 e]
 clear hz;unfold xU at e;refine rS ?_;refine qC M7 ?_;refine qV e (fun e hc1=> ?_) (fun e hc1=> ?_)
 .obtain⟨aJ,hv1,hw1,e⟩:=qY e
  try simp only[go_sem] at hw1
  refine rF M7 ?_ (hp:=by exact⟨pV,pV,pV,pV,pV,(qW hv1)⟩) (h:=by simp only[go_sem,hw1];rfl)
  refine rW ?_;cases e;exact pH [(0,0),(1,1),(2,2),(3,3)]
 .refine qC M7 ?_;refine qV e (fun e hc2=> ?_) (fun e hc2=> ?_)
  .obtain⟨aK,hv2,hw2,e⟩:=qY e
   try simp only[go_sem] at hw2
   refine rF M7 ?_ (hp:=by exact⟨pV,pV,pV,pV,pV,(qW hv2)⟩) (h:=by simp only[go_sem,hw2];rfl)
   refine rW ?_;cases e;exact pH [(0,0),(1,1),(2,2),(3,3)]
  .refine qC M7 ?_;refine qV e (fun e hc3=> ?_) (fun e hc3=> ?_)
   .obtain⟨aL,hv3,hw3,e⟩:=qY e
    try simp only[go_sem] at hw3
    refine rF M7 ?_ (hp:=by exact⟨pV,pV,pV,pV,pV,(qW hv3)⟩) (h:=by simp only[go_sem,hw3];rfl)
    refine rW ?_;cases e;exact pH [(0,0),(1,1),(2,2),(3,3)]
   .refine r9 (rW ?_);cases e;exact pH [(0,0),(1,1),(2,2),(3,3)]
def y9 (O:(List sE)) (Z:Int) (aA:Int) (aB:sR) (aC:(pO×Unit)) (aD:pM):Option (List sE):=if 0≤(0:Int)∧(0:Int)<(O.length:Int) then if 0≤(0:Int)∧(0:Int)<(O.length:Int) then if qG ((qR sZ O (0:Int)).2.2.1+(((qR sZ O (0:Int)).2.1).length:Int)) then if ((decide (aA=(0:Int)))&&(decide ((1:Int)<(O.length:Int))))=true then if 0≤(1:Int)∧(1:Int)≤(O.length:Int)∧(O.length:Int)≤(O.length:Int) then some ((sF O (1:Int) (O.length:Int))) else none else some (O) else none else none else none
section
variable (O:(List sE)) (Z:Int) (aA:Int) (aB:sR) (aC:(pO×Unit)) (aD:Nat) (aE:Nat) (aF:pM)
abbrev a3U:List qE:=[(.val .ref (some (0,0)),none)]
abbrev a3V:List qD:=[.cells t6 (O,(Z,(aA,(aB,((some 3),aC))))) [(6,1),(8,2)],.grow 53 7 aD,.grow 3 1 aE,.map .str .bool aF]
@[go_sem] def a3W:qK:=⟨[aD=(aB.2.2.2.1.length),aE=(aC.1.length),((y9 O Z aA aB aC aF)).isSome=true],[(.val (.int .i64) ((qR sZ O (0:Int)).2.2.1+(((qR sZ O (0:Int)).2.1).length:Int)),none)],[.cells t6 ((val (y9 O Z aA aB aC aF)),(Z,(aA,((aB.1,(aB.2.1,(aB.2.2.1,(aB.2.2.2.1,())))),((some 3),(aC.1,())))))) [(6,1),(8,2)],.grow 53 7 (aB.2.2.2.1.length),.grow 3 1 (aC.1.length),.map .str .bool aF]⟩
def aFm:List qE→List qD→Option qK:=rP (V:=((List sE)×Int×Int×sR×(pO×Unit)×Nat×Nat×pM)) (fun x=>a3U) (fun x=>a3V x.1 x.2.1 x.2.2.1 x.2.2.2.1 x.2.2.2.2.1 x.2.2.2.2.2.1 x.2.2.2.2.2.2.1 x.2.2.2.2.2.2.2) fun x=>a3W x.1 x.2.1 x.2.2.1 x.2.2.2.1 x.2.2.2.2.1 x.2.2.2.2.2.1 x.2.2.2.2.2.2.1 x.2.2.2.2.2.2.2
@[go_sem] def aTf:aFm (no_index a3U) (no_index (a3V O Z aA aB aC aD aE aF))=some (a3W O Z aA aB aC aD aE aF):=rT (fun⟨a0,a1,a2,a3,a4,a5,a6,a7⟩ ⟨b0,b1,b2,b3,b4,b5,b6,b7⟩ h1 h2=>by cases h1;cases h2;rfl) (O,Z,aA,aB,aC,aD,aE,aF)
end
@[go_sem] abbrev JU:Nat×r5:=(82,⟨[.p t6 [6,8]],aFm,[(0,7,.m)],[1,2,3],none⟩)
def M8:rH Tryz.prog [wD,sL,D5,D2,C1,AS] (rI []):=⟨⟨wS,⟨sP,⟨EU,⟨HN,⟨DS,⟨G4,trivial⟩⟩⟩⟩⟩⟩,rN,rK⟩
def M9:r8 Tryz.prog JU:=by
 refine rU M8 Tryz.func82 (c:=_) rfl (N:=42) pW (ts:=[(2,none)]) rfl (fun _ _=>rfl) ?_;intro⟨O,Z,aA,aB,aC,aD,aE,aF⟩ hs hrow;dsimp only[a3U,a3V,a3W,rM,qT,r6,rC,rO,Nat.reduceAdd] at hs hrow|-;obtain⟨rfl,rfl,hz⟩:=hs;obtain⟨z0,e⟩:=aUV.1 hz
 try rw[s7 e]
 clear hz;unfold y9 at e;refine qC M8 ?_;obtain⟨hg1,e⟩:=qI e;obtain⟨hg2,e⟩:=qI e;obtain⟨hg3,e⟩:=qI e;refine vN M8 ?_ (hp:=by exact⟨hg1,hg2,hg3⟩);refine qQ ?_;refine qC M8 ?_ (hp:=by exact⟨id,id,id,id,id,sI⟩);refine qV e (fun e hc1=> ?_) (fun e hc1=> ?_)
 .obtain⟨hg4,e⟩:=qI e;refine rF M8 ?_ (hp:=by exact hg4);refine qM ?_;refine qC M8 ?_;refine qS ?_;cases e;exact pH [(0,0),(1,1),(2,2),(3,3)]
 .refine r9 (qM ?_);refine qC M8 ?_;refine qS ?_;cases e;exact pH [(0,0),(1,1),(2,2),(3,3)]
def SO (O:pG) (Z:pF):Int→Option (Int⊕(Unit⊕Int)):=fun aA=>if (decide (aA<(O.length:Int)))=true then if 0≤aA∧aA<(O.length:Int) then if (decide (Z=(qR .str O aA)))=true then some (.inr (.inr (aA))) else if qG (aA+(1:Int)) then some (.inl (aA+(1:Int))) else none else none else some (.inr (.inl ()))
def C3 (O:pG) (Z:pF):Option Int:=uF (rQ (SO O Z) (0:Int)) fun _=>some ((-1:Int))
section
variable (O:pG) (Z:pF)
abbrev a3X:List qE:=[(.val (.list .str) O,none),(.val .str Z,none)]
abbrev a3Y:List qD:=[]
@[go_sem] def a3Z:qK:=⟨[((C3 O Z)).isSome=true],[(.val (.int .i64) (val (C3 O Z)),none)],[]⟩
def aFn:List qE→List qD→Option qK:=rP (V:=(pG×pF)) (fun x=>a3X x.1 x.2) (fun x=>a3Y) fun x=>a3Z x.1 x.2
@[go_sem] def aTg:aFn (no_index (a3X O Z)) (no_index a3Y)=some (a3Z O Z):=rT (fun⟨a0,a1⟩ ⟨b0,b1⟩ h1 h2=>by cases h1;cases h2;rfl) (O,Z)
end
@[go_sem] abbrev Y7:Nat×r5:=(92,⟨[.v,.v],aFn,[],[],none⟩)
def HT:rH Tryz.prog [sL,vY] (rI []):=⟨⟨sP,⟨wE,trivial⟩⟩,rN,rK⟩
def a30:r8 Tryz.prog Y7:=by
 refine rU HT Tryz.func92 (c:=_) rfl (N:=19) pW (ts:=[(4,none)]) rfl (fun _ _=>rfl) ?_;intro⟨O,Z⟩ hs hrow;dsimp only[a3X,a3Y,a3Z,rM,qT,r6,rC,rO,Nat.reduceAdd] at hs hrow|-;have hz:=hs;obtain⟨z0,e⟩:=aUV.1 hz
 try rw[s7 e]
 clear hz hs;unfold C3 at e;refine qC HT ?_;refine qQ ?_;refine qC HT ?_;refine rS ?_;obtain⟨y1,hy1,e⟩:=vF e;refine uA 0 (fun s=> ∃v,y1= .inl v∧s=(fun _=>⟨[],[],0,19,0⟩) v) ?_ ?_
 .refine tZ hy1 (fun x=>⟨[(0,(.val (.list .str) O,none)),(1,(.val .str Z,none)),(7,(.val (.int .i64) (O.length:Int),none)),(8,(.val (.int .i64) x,none))],[],0,19,0⟩) ⟨[0,1,7,8],[]⟩ pX ?_;intro aA w1 n1 f g;unfold SO at f;dsimp only at f|-;refine qC HT ?_;refine qQ ?_;refine qV f (fun f hc1=> ?_) (fun f hc1=> ?_)
  .refine r9 (qM (qQ (rS ?_)));refine qC HT ?_;obtain⟨hg1,f⟩:=qI f;refine qC HT ?_ (hp:=by exact hg1);refine qV f (fun f hc2=> ?_) (fun f hc2=> ?_)
   .refine qC HT ?_;refine qS (rY (rG (vE (vM (rY (rG ?_))))));cases f;cases g;dsimp only at e;cases e;exact pH []
   .refine r9 (rW (qM ?_));obtain⟨hg2,f⟩:=qI f;refine rF HT ?_ (hp:=by exact hg2);cases f;exact sX ⟨⟨[0,1,7,8],[]⟩,_,by rfl,g⟩
  .refine tV (tU (tX ?_));cases f;cases g;exact tW ⟨⟨[],[]⟩,_,rfl,by rfl⟩
 .rintro _ ⟨v,rfl,rfl⟩;dsimp only at e|-;refine u7 (qM ?_);refine qC HT ?_;refine qS ?_;cases e;exact pH []
def OQ (O:pF):Nat→Option (Nat⊕(Unit⊕Bool)):=fun Z=>if (decide (Z<O.length))=true then if (decide (Z<O.length))=true then if (decide (Z<O.length))=true then if ((decide ((97:Int)≤(y3 O Z)))&&(decide ((y3 O Z)≤(122:Int))))=true then some (.inl (BC O Z)) else if ((decide ((0:Int)<((Z:Nat):Int)))&&(((((decide ((48:Int)≤(y3 O Z)))&&(decide ((y3 O Z)≤(57:Int))))||(decide ((y3 O Z)=(45:Int))))||(decide ((y3 O Z)=(95:Int))))||(decide ((y3 O Z)=(46:Int)))))=true then some (.inl (BC O Z)) else some (.inr (.inr (false))) else none else none else some (.inr (.inl ()))
def D8 (O:pF):Option Bool:=uF (rQ (OQ O) 0) fun _=>some (((decide ((1:Int)≤(O.length:Int)))&&(decide ((O.length:Int)≤(40:Int)))))
section
variable (O:pF)
abbrev a32:List qE:=[(.val .str O,none)]
abbrev a33:List qD:=[]
@[go_sem] def a34:qK:=⟨[((D8 O)).isSome=true],[(.val .bool (val (D8 O)),none)],[]⟩
def aFo:List qE→List qD→Option qK:=rP (V:=pF) (a32) (fun x=>a33) fun x=>a34 x
@[go_sem] def aTh:aFo (no_index (a32 O)) (no_index a33)=some (a34 O):=rT (fun a0 b0 h1 h2=>by cases h1;cases h2;rfl) O
end
@[go_sem] abbrev OR:Nat×r5:=(98,⟨[.v],aFo,[],[],none⟩)
def GB:rH Tryz.prog [sL] (rI []):=⟨⟨sP,trivial⟩,rN,rK⟩
def SP:r8 Tryz.prog OR:=by
 refine rU GB Tryz.func98 (c:=_) rfl (N:=51) pW (ts:=[(2,none)]) rfl (fun _ _=>rfl) ?_;intro O hs hrow;dsimp only[a32,a33,a34,rM,qT,r6,rC,rO,Nat.reduceAdd] at hs hrow|-;have hz:=hs;obtain⟨z0,e⟩:=aUV.1 hz
 try rw[s7 e]
 clear hz hs;unfold D8 at e;refine qC GB ?_;refine qQ ?_;refine qC GB ?_;refine rS ?_;obtain⟨y1,hy1,e⟩:=vF e;refine uA 0 (fun s=> ∃v,y1= .inl v∧s=(fun _=>⟨[(0,(.val .str O,none))],[],0,51,0⟩) v) ?_ ?_
 .refine tZ hy1 (fun x=>⟨[(0,(.val .str O,none)),(7,(.val .ref (some (0,0)),none))],[(0,.iter O x)],1,51,0⟩) ⟨[0,7],[(0,64)]⟩ pX ?_;intro Z w1 n1 f g;unfold OQ at f;dsimp only at f|-;refine qC GB ?_;refine qQ ?_;refine qV f (fun f hc1=> ?_) (fun f hc1=> ?_)
  .refine r9 (qM (rS ?_));obtain⟨hg1,f⟩:=qI f;obtain⟨hg2,f⟩:=qI f;refine qC GB ?_ (hp:=by exact⟨hg1,hg2⟩);refine qC GB ?_ (hp:=by exact⟨id,sI⟩);refine rS ?_;refine qC GB ?_;refine qV f (fun f hc2=> ?_) (fun f hc2=> ?_)
   .refine r9 (rW (rW ?_));cases f;exact sX ⟨⟨[0,7],[(0,0)]⟩,_,by rfl,g⟩
   .refine qC GB ?_ (hp:=by exact⟨id,id,id,id,fun hG d=>O9 hG d,id,id,id,fun hG d=>HK hG d,id,id,id,fun hG d=>HK hG d,id,id,id,fun hG d=>HK hG d,sI⟩);refine qV f (fun f hc3=> ?_) (fun f hc3=> ?_)
    .refine r9 (rW (rW ?_));cases f;exact sX ⟨⟨[0,7],[(0,0)]⟩,_,by rfl,g⟩
    .refine qC GB ?_;refine qS (rY (rY (vE (vM (rY (rG ?_))))));cases f;cases g;dsimp only at e;cases e;exact pH []
  .refine tV (tU (tX ?_));cases f;cases g;exact tW ⟨⟨[0],[]⟩,_,rfl,by rfl⟩
 .rintro _ ⟨v,rfl,rfl⟩;dsimp only at e|-;refine u7 (qM ?_);refine qC GB ?_ (hp:=by exact⟨id,id,sI⟩);refine qS ?_;cases e;exact pH []
attribute [irreducible] xU y9 C3 D8
end
noncomputable section
def SQ (O:pG):Int→Option (Int⊕(Unit⊕Bool)):=fun Z=>if (decide (Z<(O.length:Int)))=true then if 0≤Z∧Z<(O.length:Int) then (D8 (qR .str O Z)).bind fun aA=>if ((((!aA)==false)&&((decide ((0:Int)<Z))==true))=true→qG (Z- (1:Int))) then if ((((!aA)==false)&&((decide ((0:Int)<Z))==true))=true→0≤(Z- (1:Int))∧(Z- (1:Int))<(O.length:Int)) then if ((!aA)||((decide ((0:Int)<Z))&&(!Op.bytesLess (qR .str O (Z- (1:Int))) (qR .str O Z))))=true then some (.inr (.inr (false))) else if qG (Z+(1:Int)) then some (.inl (Z+(1:Int))) else none else none else none else none else some (.inr (.inl ()))
def HU (O:pG):Option Bool:=uF (rQ (SQ O) (0:Int)) fun _=>some ((decide ((O.length:Int)≤(20:Int))))
section
variable (O:pG)
abbrev a35:List qE:=[(.val (.list .str) O,none)]
abbrev a36:List qD:=[]
@[go_sem] def a38:qK:=⟨[((HU O)).isSome=true],[(.val .bool (val (HU O)),none)],[]⟩
def aFp:List qE→List qD→Option qK:=rP (V:=pG) (a35) (fun x=>a36) fun x=>a38 x
@[go_sem] def aTi:aFp (no_index (a35 O)) (no_index a36)=some (a38 O):=rT (fun a0 b0 h1 h2=>by cases h1;cases h2;rfl) O
end
@[go_sem] abbrev aFq:Nat×r5:=(99,⟨[.v],aFp,[],[],none⟩)
def HV:rH Tryz.prog [sL,vY] (rI [OR]):=⟨⟨sP,⟨wE,trivial⟩⟩,qP SP rN,rK⟩
def aOx:r8 Tryz.prog aFq:=by
 refine rU HV Tryz.func99 (c:=_) rfl (N:=32) pW (ts:=[(2,none)]) rfl (fun _ _=>rfl) ?_;intro O hs hrow;dsimp only[a35,a36,a38,rM,qT,r6,rC,rO,Nat.reduceAdd] at hs hrow|-;have hz:=hs;obtain⟨z0,d⟩:=aUV.1 hz
 try rw[s7 d]
 clear hz hs;unfold HU at d;refine qC HV ?_;refine qQ ?_;refine qC HV ?_;refine rS ?_;obtain⟨y1,hy1,d⟩:=vF d;refine uA 0 (fun s=> ∃v,y1= .inl v∧s=(fun _=>⟨[(0,(.val (.list .str) O,none))],[],0,32,0⟩) v) ?_ ?_
 .refine tZ hy1 (fun x=>⟨[(0,(.val (.list .str) O,none)),(5,(.val (.list .str) O,none)),(6,(.val (.int .i64) (O.length:Int),none)),(7,(.val (.int .i64) x,none))],[],0,32,0⟩) ⟨[0,5,6,7],[]⟩ pX ?_;intro Z w1 n1 f g;unfold SQ at f;dsimp only at f|-;refine qC HV ?_;refine qQ ?_;refine qV f (fun f hc1=> ?_) (fun f hc1=> ?_)
  .refine r9 (qM (qQ (rS ?_)));obtain⟨hg1,f⟩:=qI f;refine qC HV ?_ (hp:=by exact hg1);obtain⟨aA,hv2,hw2,f⟩:=qY f
   try simp only[go_sem] at hw2
   obtain⟨hg3,f⟩:=qI f;obtain⟨hg4,f⟩:=qI f;refine qC HV ?_ (hp:=by exact⟨qW hv2,id,id,id,hg3,id,id,hg4,id,id,id,id,fun hG e=>O9 hG e,sQ⟩) (h:=by simp only[go_sem,hw2];rfl);refine qV f (fun f hc2=> ?_) (fun f hc2=> ?_)
   .refine qC HV ?_;refine qS (rY (rG (vE (vM (rY (rG ?_))))));cases f;cases g;dsimp only at d;cases d;exact pH []
   .refine r9 (rW (qM ?_));obtain⟨hg5,f⟩:=qI f;refine rF HV ?_ (hp:=by exact hg5);cases f;exact sX ⟨⟨[0,5,6,7],[]⟩,_,by rfl,g⟩
  .refine tV (tU (tX ?_));cases f;cases g;exact tW ⟨⟨[0],[]⟩,_,rfl,by rfl⟩
 .rintro _ ⟨v,rfl,rfl⟩;dsimp only at d|-;refine u7 (qM ?_);refine qC HV ?_;refine qS ?_;cases d;exact pH []
def aFr (O:Int):Unit:=()
section
variable (O:Int)
abbrev a39:List qE:=[(.val (.int .u8) O,none)]
abbrev a4a:List qD:=[]
@[go_sem] def a4b:qK:=⟨[],[(.val .bool ((decide ((97:Int)≤O))&&(decide (O≤(122:Int)))),none)],[]⟩
def aFs:List qE→List qD→Option qK:=rP (V:=Int) (a39) (fun x=>a4a) fun x=>a4b x
@[go_sem] def aTj:aFs (no_index (a39 O)) (no_index a4a)=some (a4b O):=rT (fun a0 b0 h1 h2=>by cases h1;cases h2;rfl) O
end
@[go_sem] abbrev aFt:Nat×r5:=(104,⟨[.v],aFs,[],[],none⟩)
def a4c:rH Tryz.prog [] (rI []):=⟨trivial,rN,rK⟩
def aOy:r8 Tryz.prog aFt:=by
 refine rU a4c Tryz.func104 (c:=_) rfl (N:=9) pW (ts:=[(2,none)]) rfl (fun _ _=>rfl) ?_;intro O hs hrow;dsimp only[a39,a4a,a4b,rM,qT,r6,rC,rO,Nat.reduceAdd] at hs hrow|-;obtain⟨z0,d⟩: ∃z,(aFr O)=z:=⟨_,rfl⟩
 try rw[d]
 unfold aFr at d;refine qC a4c ?_;refine qC a4c ?_ (hp:=by exact⟨id,sI⟩);refine qS ?_;cases d;exact pH []
def aFu (O:Int):Unit:=()
section
variable (O:Int)
abbrev a4d:List qE:=[(.val (.int .u8) O,none)]
abbrev a4e:List qD:=[]
@[go_sem] def a4f:qK:=⟨[],[(.val .bool ((decide ((48:Int)≤O))&&(decide (O≤(57:Int)))),none)],[]⟩
def aFv:List qE→List qD→Option qK:=rP (V:=Int) (a4d) (fun x=>a4e) fun x=>a4f x
@[go_sem] def aTk:aFv (no_index (a4d O)) (no_index a4e)=some (a4f O):=rT (fun a0 b0 h1 h2=>by cases h1;cases h2;rfl) O
end
@[go_sem] abbrev aFw:Nat×r5:=(105,⟨[.v],aFv,[],[],none⟩)
def a4g:rH Tryz.prog [] (rI []):=⟨trivial,rN,rK⟩
def aOz:r8 Tryz.prog aFw:=by
 refine rU a4g Tryz.func105 (c:=_) rfl (N:=9) pW (ts:=[(2,none)]) rfl (fun _ _=>rfl) ?_;intro O hs hrow;dsimp only[a4d,a4e,a4f,rM,qT,r6,rC,rO,Nat.reduceAdd] at hs hrow|-;obtain⟨z0,d⟩: ∃z,(aFu O)=z:=⟨_,rfl⟩
 try rw[d]
 unfold aFu at d;refine qC a4g ?_;refine qC a4g ?_ (hp:=by exact⟨id,sI⟩);refine qS ?_;cases d;exact pH []
def EZ (O:pG) (Z:pF):Option Bool:=(C3 O Z).bind fun aA=>some ((decide ((0:Int)≤aA)))
section
variable (O:pG) (Z:pF)
abbrev a4h:List qE:=[(.val (.list .str) O,none),(.val .str Z,none)]
abbrev a4i:List qD:=[]
@[go_sem] def a4j:qK:=⟨[((EZ O Z)).isSome=true],[(.val .bool (val (EZ O Z)),none)],[]⟩
def aFx:List qE→List qD→Option qK:=rP (V:=(pG×pF)) (fun x=>a4h x.1 x.2) (fun x=>a4i) fun x=>a4j x.1 x.2
@[go_sem] def aTl:aFx (no_index (a4h O Z)) (no_index a4i)=some (a4j O Z):=rT (fun⟨a0,a1⟩ ⟨b0,b1⟩ h1 h2=>by cases h1;cases h2;rfl) (O,Z)
end
@[go_sem] abbrev Y8:Nat×r5:=(112,⟨[.v,.v],aFx,[],[],none⟩)
def a4k:rH Tryz.prog [] (rI [Y7]):=⟨trivial,qP a30 rN,rK⟩
def a4l:r8 Tryz.prog Y8:=by
 refine rU a4k Tryz.func112 (c:=_) rfl (N:=9) pW (ts:=[(4,none)]) rfl (fun _ _=>rfl) ?_;intro⟨O,Z⟩ hs hrow;dsimp only[a4h,a4i,a4j,rM,qT,r6,rC,rO,Nat.reduceAdd] at hs hrow|-;have hz:=hs;obtain⟨z0,d⟩:=aUV.1 hz
 try rw[s7 d]
 clear hz hs;unfold EZ at d;refine qC a4k ?_;obtain⟨aA,hv1,hw1,d⟩:=qY d
 try simp only[go_sem] at hw1
 refine qC a4k ?_ (hp:=by exact(qW hv1)) (h:=by simp only[go_sem,hw1];rfl);refine qS ?_;cases d;exact pH []
def SR (O:pF):Int→Option (Int⊕Int):=fun Z=>if (((decide (Z<(O.length:Int)))==true)=true→0≤Z∧Z<(O.length:Int)) then if ((((decide (Z<(O.length:Int)))&&(decide ((97:Int)≤(sJ O Z))))==true)=true→0≤Z∧Z<(O.length:Int)) then if (((decide (Z<(O.length:Int)))&&(decide ((97:Int)≤(sJ O Z))))&&(decide ((sJ O Z)≤(122:Int))))=true then if qG (Z+(1:Int)) then some (.inl (Z+(1:Int))) else none else some (.inr Z) else none else none
def F0 (O:pF):Option (pF×pF):=sU (rQ (SR O) (0:Int)) fun Z=>if 0≤(0:Int)∧(0:Int)≤Z∧Z≤(O.length:Int) then if 0≤Z∧Z≤(O.length:Int)∧(O.length:Int)≤(O.length:Int) then some (((sF O (0:Int) Z),(sF O Z (O.length:Int)))) else none else none
section
variable (O:pF)
abbrev a4m:List qE:=[(.val .str O,none)]
abbrev a4n:List qD:=[]
@[go_sem] def a4o:qK:=⟨[((F0 O)).isSome=true],[(.val .str ((val (F0 O)).1),none),(.val .str ((val (F0 O)).2),none)],[]⟩
def aFy:List qE→List qD→Option qK:=rP (V:=pF) (a4m) (fun x=>a4n) fun x=>a4o x
@[go_sem] def aTm:aFy (no_index (a4m O)) (no_index a4n)=some (a4o O):=rT (fun a0 b0 h1 h2=>by cases h1;cases h2;rfl) O
end
@[go_sem] abbrev a4p:Nat×r5:=(125,⟨[.v],aFy,[],[],none⟩)
def OS:rH Tryz.prog [sL] (rI []):=⟨⟨sP,trivial⟩,rN,rK⟩
def aFz:r8 Tryz.prog a4p:=by
 refine rU OS Tryz.func125 (c:=_) rfl (N:=29) pW (ts:=[(2,none),(3,none)]) rfl (fun _ _=>rfl) ?_;intro O hs hrow;dsimp only[a4m,a4n,a4o,rM,qT,r6,rC,rO,Nat.reduceAdd] at hs hrow|-;have hz:=hs;obtain⟨z0,d⟩:=aUV.1 hz
 try rw[s7 d]
 clear hz hs;unfold F0 at d;refine qC OS ?_;refine qC OS ?_;refine qQ (rS ?_);obtain⟨Z,hy1,d⟩:=qO d;refine uA 0 (fun s=>s=(fun x=>⟨[(0,(.val .str O,none)),(4,(.val (.int .i64) x,none))],[],0,29,0⟩) Z) ?_ ?_
 .refine tZ hy1 (fun x=>⟨[(0,(.val .str O,none)),(4,(.val (.int .i64) x,none))],[],0,29,0⟩) ⟨[0,4],[]⟩ pX ?_;intro aA w1 n1 f g;unfold SR at f;dsimp only at f|-;refine qQ ?_;obtain⟨hg1,f⟩:=qI f;obtain⟨hg2,f⟩:=qI f;refine qC OS ?_ (hp:=by exact⟨id,id,hg1,id,sI,id,id,hg2,id,sI⟩);refine qV f (fun f hc1=> ?_) (fun f hc1=> ?_)
  .refine r9 (qM (rS ?_));obtain⟨hg3,f⟩:=qI f;refine rF OS ?_ (hp:=by exact hg3);refine rW ?_;cases f;exact sX ⟨⟨[0,4],[]⟩,_,by rfl,g⟩
  .refine tV (tU (tX ?_));cases f;cases g;exact tW ⟨⟨[0,4],[]⟩,by rfl⟩
 .rintro _ rfl;dsimp only at d|-;refine u7 (qM ?_);obtain⟨hg4,d⟩:=qI d;obtain⟨hg5,d⟩:=qI d;refine vN OS ?_ (hp:=by exact⟨hg4,hg5⟩);refine qS ?_;cases d;exact pH []
def aFA (O:r7) (Z:r7):Unit:=()
section
variable (O:r7) (Z:r7)
abbrev a4q:List qE:=[(.val (.pair .str (.pair .str .unit)) O,none),(.val .ref (some (0,0)),none)]
abbrev a4r:List qD:=[.cells (.pair .str (.pair .str .unit)) Z []]
@[go_sem] def a4s:qK:=⟨[],[(.val .bool (decide (O.1=Z.1)),none)],[.cells (.pair .str (.pair .str .unit)) Z []]⟩
def aFB:List qE→List qD→Option qK:=rP (V:=(r7×r7)) (fun x=>a4q x.1) (fun x=>a4r x.2) fun x=>a4s x.1 x.2
@[go_sem] def aTn:aFB (no_index (a4q O)) (no_index (a4r Z))=some (a4s O Z):=rT (fun⟨a0,a1⟩ ⟨b0,b1⟩ h1 h2=>by cases h1;cases h2;rfl) (O,Z)
end
@[go_sem] abbrev aFC:Nat×r5:=(129,⟨[.v,.p (.pair .str (.pair .str .unit)) []],aFB,[],[0],none⟩)
def a4t:rH Tryz.prog [sL,C2] (rI []):=⟨⟨sP,⟨DT,trivial⟩⟩,rN,rK⟩
def aOA:r8 Tryz.prog aFC:=by
 refine rU a4t Tryz.func129 (c:=_) rfl (N:=9) pW (ts:=[(3,none)]) rfl (fun _ _=>rfl) ?_;intro⟨O,Z⟩ hs hrow;dsimp only[a4q,a4r,a4s,rM,qT,r6,rC,rO,Nat.reduceAdd] at hs hrow|-;obtain⟨z0,d⟩: ∃z,(aFA O Z)=z:=⟨_,rfl⟩
 try rw[d]
 unfold aFA at d;refine qC a4t ?_;refine qC a4t ?_;refine qS ?_;cases d;exact pH [(0,0)]
def OT (O:pF):Option Bool:=(D8 O).bind fun Z=>some ((!Z))
section
variable (O:pF)
abbrev a4u:List qE:=[(.val .str O,none)]
abbrev a4v:List qD:=[]
@[go_sem] def a4w:qK:=⟨[((OT O)).isSome=true],[(.val .bool (val (OT O)),none)],[]⟩
def aFD:List qE→List qD→Option qK:=rP (V:=pF) (a4u) (fun x=>a4v) fun x=>a4w x
@[go_sem] def aTo:aFD (no_index (a4u O)) (no_index a4v)=some (a4w O):=rT (fun a0 b0 h1 h2=>by cases h1;cases h2;rfl) O
end
@[go_sem] abbrev aFE:Nat×r5:=(133,⟨[.v],aFD,[],[],none⟩)
def a4x:rH Tryz.prog [] (rI [OR]):=⟨trivial,qP SP rN,rK⟩
def aOB:r8 Tryz.prog aFE:=by
 refine rU a4x Tryz.func133 (c:=_) rfl (N:=6) pW (ts:=[(2,none)]) rfl (fun _ _=>rfl) ?_;intro O hs hrow;dsimp only[a4u,a4v,a4w,rM,qT,r6,rC,rO,Nat.reduceAdd] at hs hrow|-;have hz:=hs;obtain⟨z0,d⟩:=aUV.1 hz
 try rw[s7 d]
 clear hz hs;unfold OT at d;refine qC a4x ?_;obtain⟨Z,hv1,hw1,d⟩:=qY d
 try simp only[go_sem] at hw1
 refine qC a4x ?_ (hp:=by exact(qW hv1)) (h:=by simp only[go_sem,hw1];rfl);refine qS ?_;cases d;exact pH []
def SS (O:pF):Option Unit:=if List.length O≤9223372036854775807 then some (()) else none
section
variable (O:pF)
abbrev a4y:List qE:=[(.val .str O,none)]
abbrev a4z:List qD:=[]
@[go_sem] def a4A:qK:=⟨[((SS O)).isSome=true],[(.val .bool (Lib.validD O),none)],[]⟩
def aFF:List qE→List qD→Option qK:=rP (V:=pF) (a4y) (fun x=>a4z) fun x=>a4A x
@[go_sem] def aTp:aFF (no_index (a4y O)) (no_index a4z)=some (a4A O):=rT (fun a0 b0 h1 h2=>by cases h1;cases h2;rfl) O
end
@[go_sem] abbrev aFG:Nat×r5:=(138,⟨[.v],aFF,[],[],none⟩)
def a4B:rH Tryz.prog [] (rI [OC]):=⟨trivial,qP a2y rN,rK⟩
def aOC:r8 Tryz.prog aFG:=by
 refine rU a4B Tryz.func138 (c:=_) rfl (N:=5) pW (ts:=[(2,none)]) rfl (fun _ _=>rfl) ?_;intro O hs hrow;dsimp only[a4y,a4z,a4A,rM,qT,r6,rC,rO,Nat.reduceAdd] at hs hrow|-;have hz:=hs;obtain⟨z0,d⟩:=aUV.1 hz
 try rw[s7 d]
 clear hz hs;unfold SS at d;refine qC a4B ?_;obtain⟨hg1,d⟩:=qI d;refine qC a4B ?_ (hp:=by exact hg1);refine qS ?_;cases d;exact pH []
def aFH (O:Int):Unit:=()
section
variable (O:Int)
abbrev a4C:List qE:=[(.val (.int .i64) O,none)]
abbrev a4D:List qD:=[]
@[go_sem] def a4E:qK:=⟨[],[(.val .bool ((decide ((1:Int)≤O))&&(decide (O≤(4:Int)))),none)],[]⟩
def aFI:List qE→List qD→Option qK:=rP (V:=Int) (a4C) (fun x=>a4D) fun x=>a4E x
@[go_sem] def aTq:aFI (no_index (a4C O)) (no_index a4D)=some (a4E O):=rT (fun a0 b0 h1 h2=>by cases h1;cases h2;rfl) O
end
@[go_sem] abbrev a4F:Nat×r5:=(139,⟨[.v],aFI,[],[],none⟩)
def a4G:rH Tryz.prog [] (rI []):=⟨trivial,rN,rK⟩
def aFJ:r8 Tryz.prog a4F:=by
 refine rU a4G Tryz.func139 (c:=_) rfl (N:=9) pW (ts:=[(2,none)]) rfl (fun _ _=>rfl) ?_;intro O hs hrow;dsimp only[a4C,a4D,a4E,rM,qT,r6,rC,rO,Nat.reduceAdd] at hs hrow|-;obtain⟨z0,d⟩: ∃z,(aFH O)=z:=⟨_,rfl⟩
 try rw[d]
 unfold aFH at d;refine qC a4G ?_;refine qC a4G ?_ (hp:=by exact⟨id,sI⟩);refine qS ?_;cases d;exact pH []
def aOD (O:Int) (Z:pF):Int→Option (Int⊕(Unit⊕Bool)):=fun aA=>if (decide (aA<(Z.length:Int)))=true then if 0≤aA∧aA<(Z.length:Int) then if (decide ((sJ Z aA)=O))=true then some (.inr (.inr (true))) else if qG (aA+(1:Int)) then some (.inl (aA+(1:Int))) else none else none else some (.inr (.inl ()))
def OU (O:Int) (Z:pF):Option Bool:=uF (rQ (aOD O Z) (0:Int)) fun _=>some (false)
attribute [irreducible] HU EZ F0 OT SS OU
end
end Go.Proofs.YtkpflnijijccpaaGreatDoor
