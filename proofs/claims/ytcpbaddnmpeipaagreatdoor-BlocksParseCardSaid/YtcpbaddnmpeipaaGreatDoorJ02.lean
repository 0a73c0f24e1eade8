/- Packed by a program of mine (wip/tools/pack.py): the same texts with short names and few blanks. -/
import Derived.Handy
import Derived.KernelRfl
import Derived.Laws.Runes
import Derived.Lib.RowBridge
import Derived.LoopIn
import Derived.LoopN
import Derived.LoopNIn
import Derived.OrdersIn
import Derived.OwnWalkIn
import Derived.RangeFuncBox
import Derived.RangeFuncLeaves
import Derived.Scope
import Derived.Shelf.Abstract
import Derived.Shelf.SlSortCmp.NoneTotal
import Derived.Shelf.Slices.Clone
import Derived.Shelf.Slices.CompactS
import Derived.Shelf.Slices.In.SortNone
import Derived.Shelf.Small.Strs
import Derived.Shelf.Small.Utf8
import Derived.Shelf.Sort.Plain
import Derived.Shelf.Strings.Builder1
import Derived.Shelf.Strings.IndexAny
import Derived.Shelf.Strings.IndexAnyAll
import Derived.Shelf.Strings.OnBuilder
import Derived.Shelf.Strings.Runes
import Derived.Shelf.Strings.Search1
import Derived.Shelf.Strings.Search2
import Derived.Shelf.Strings.Search3
import Derived.Shelf.Strings.SlTrimAscii
import Derived.Shelf.Strings.Trim
import Derived.Shelf.Unicode.DecodeAny
import Derived.Shelf.Unicode.ValidAny
import Derived.TacticsInMore
import Derived.Test.YtcpbaddnmpeipaaGreatDoorChecked
import Derived.Test.YtcpbaddnmpeipaaGreatDoorProg
import Derived.WalkKit
import Derived.WalkMore
import Derived.Test.YtcpbaddnmpeipaaGreatDoorJ01
set_option linter.defProp false
set_option linter.unusedVariables false
set_option linter.unusedSimpArgs false
set_option linter.unusedSectionVars false
set_option maxRecDepth 100000
set_option maxHeartbeats 4000000
namespace Go.Proofs.YtcpbaddnmpeipaaGreatDoor.Vc
open Go.RowKit
theorem a0R {g g':Gh}{w w':pN}{env:List (Nat×pX)}{a:Act}{o:Oper}{sl:pX}{v:pO}(h:AO g w env a.tmps) (le:Le g w g' w') (hs:rF g' w' sl v) {N:Nat}(hN:a.tmps.size=N) (hd:HZ N o.dst=true):AO g' w' (uL o.dst sl env) (a.put o.dst v).tmps:=by
  intro t;cases ho:o.dst with
  |none=>exact CX le (h t)
  | some d=>
    rw[ho] at hd;simp only[HZ,aSs] at hd;simp only[uL,lk,Act.put];by_cases hdt:d=t
    · subst hdt
      rw[aSj rfl];have hlt:d<a.tmps.size:=by rw[hN];exact hd
      have:(a.tmps.setIfInBounds d v).getD d undef=v:=by
        rw[aST,Array.getElem?_setIfInBounds_self_of_lt hlt];rfl
      rw[this];exact hs
    rw[aSl hdt]
    have:(a.tmps.setIfInBounds d v).getD t undef=a.tmps.getD t undef:=by
      rw[aST,aTs hdt,←aST]
    rw[this];exact CX le (h t)
theorem QI {n:Nat}: ∀{u:List (Nat×pW)},I0 n u=true→∀{i:Nat},i∈qB u→i<n
  | (k,b)::u,h,i,hi=>by
    simp only[I0,aSB,aSs] at h;simp only[qB,aSx] at hi;rcases hi with rfl|hi
    .exact h.1
    exact QI h.2 hi
theorem aBs (a:Act) (d:Option Tmp) (v:pO):(a.put d v).tmps.size=a.tmps.size:=by
  cases d<;>simp [Act.put]
theorem aBt (a:Act) (d:Option Tmp) (v:pO):(a.put d v).defers=a.defers:=by
  cases d<;>simp [Act.put]
theorem uP.step {B:Nat}{g g':Gh}{w w':pN}{s:St}{a:Act}{o:Oper}{e:qJ}{v:pO}(h:uP B g w s a) (k:zN g w s.H e g' w' v) (hd:HZ s.N o.dst=true) (hi:I0 (s.nb+32) e.upd=true):
    uP B g' w' ⟨uL o.dst e.slot s.env,qS e.upd s.H,s.nb+32,s.N,s.np⟩ (a.put o.dst v):=by
  refine⟨a0R h.env k.le k.slot h.size hd,k.heap,(aBs _ _ _).trans h.size,fun i hn=>?_,by rw[aBt];exact h.def_.eff h.heap k,aTh h.np (Nat.le_add_right _ _)⟩;have:i∉qB e.upd:=fun hm=>by have:=QI hi hm;simp only at hn;omega
  have hk:=k.gho i this;have hb:=h.nb i (by simp only at hn;omega);exact⟨hk.1.trans hb.1,fun n=>by rw[hk.2];exact hb.2 n⟩
theorem aBu {T:sI}{Γ:sV}{ops:List Oper}: ∀(l:List Oper),uO T Γ ops l none=none
  |[]=>rfl
  |_::_=>rfl
theorem a0S {T:sI}{Γ:sV}{ops:List Oper}{o:Oper}{l:List Oper}{x y:vT}(h:uO T Γ ops (o::l) (some x)=some y):
    ∃ e,zM T Γ ops o x.s=some e∧HZ x.s.N o.dst=true∧I0 (x.s.nb+32) e.upd=true∧
      uO T Γ ops l (some ⟨⟨uL o.dst e.slot x.s.env,qS e.upd x.s.H,x.s.nb+32,x.s.N,x.s.np⟩,qS x.side (qS (KG x.s.H e.upd e.rds e.upd) e.side),e::x.es⟩)=some y:=by
  simp only[uO] at h;cases he:zM T Γ ops o x.s with
  |none=>rw[he] at h;simp only[UC] at h;rw[aBu] at h;cases h
  | some e=>
    rw[he] at h;simp only[UC] at h;by_cases hc:(HZ x.s.N o.dst&&I0 (x.s.nb+32) e.upd)=true
    · rw[aSj hc] at h
      simp only[aSB] at hc;exact⟨e,rfl,hc.1,hc.2,h⟩
    rw[aSl hc,aBu] at h;cases h
theorem GC {T:sI}{Γ:sV}{ops:List Oper}: ∀{l:List Oper}{x y:vT},uO T Γ ops l (some x)=some y→(∀p∈x.side,p∈y.side)∧y.s.N=x.s.N∧y.s.np=x.s.np
  | [],x,y,h=>by
    simp only[uO,aSk] at h;subst h;exact⟨fun _ h=>h,rfl,rfl⟩
  | o::l,x,y,h=>by
    obtain⟨e,_,_,_,h4⟩:=a0S h;obtain⟨h5,h6,h7⟩:=GC h4;exact⟨fun p hp=>h5 p (wK.2 (.inl hp)),h6,h7⟩
def EY (ro:pL):Fence:={Fence.wide with round:=ro}
theorem aBv {ro:pL}{n:Nat}{P:Program}{f:FuncId}{args:Array pO}{w:pN}{R:Ending→pN→Prop}(h:Calls P f args w R):CallsIn (EY ro) n P f args w R:=callsIn_wide.2 h
section
variable {B:Nat}{P:Program}{T:sI}{Γ:sV}(hT:wY P T) (hΓ:DH P Γ) {A:Nat→Nat→Prop}{L:List pW}{g0:Gh}{w0:pN}{Q:Exit→Act→pN→Prop}
include hT hΓ
theorem aKE {g:Gh}{w:pN}{s:St}{a:Act}(h:uP B g w s a) (e:qJ):xR g s.nb e:=fun i _ hb=>h.nb i hb
omit hT hΓ in
theorem aBw {ops:List Oper}{o:Oper}{s:St}{e:qJ}(h:zM T Γ ops o s=some e): ∀c,o.op≠.defer c:=by
  intro c hc;replace h:=(QG h).1;unfold N6 at h;cases hg:o.guard with
  |none=>rw[hg,hc] at h;simp [N5,uA,N3] at h
  | some jb=>
    rw[hg,hc] at h;simp only at h;cases hk:Γ (UB jb.1 jb.2) with
    |some _=>rw[hk] at h;cases h
    | none=>
      rw[hk] at h;simp only[PT] at h;cases hG:G1 s.env jb.2 (zW ops jb.1)<;>rw[hG] at h<;>simp [N4,uA,HW] at h
omit hT hΓ in
theorem aBx {ro:pL}{o:Oper}{a:Act}{w:pN}{K:Act→pN→Prop}(hd: ∀c,o.op≠.defer c) (h:o.wp P a w K Q):o.wpIn (EY ro) 0 P a w K Q:=by
  refine⟨fun _ _=>trivial,?_⟩;rw[Oper.semAt_eq _ _ _ hd];unfold Oper.wp at h;generalize (execOp a.eval o).run P w=r at h|-;unfold Oper.upon at h;unfold Oper.uponIn;split at h
  .exact h
  .exact h
  .exact h
  .exact⟨fun h0=>(by cases h0),aBv h⟩
  .exact⟨fun h0=>(by cases h0),fun c cs _=>let ⟨v,w',r,s⟩:=h c cs;⟨v,w',r,stepsIn_wide.2 s⟩⟩
  .exact h
  exact h.elim
theorem aBy {ro:pL}{ops:Array Oper}: ∀{l:List Oper}{x y:vT}{a:Act}{w:pN}{g:Gh},uO T Γ ops.toList l (some x)=some y→(∀p∈y.side,p)→uP B g w x.s a→sX A L g0 w0 g w x.s.H→L.length=x.s.np→
    (∀g' a' w',uP B g' w' y.s a'→sX A L g0 w0 g' w' y.s.H→Q .normal a' w')→wpListIn (EY ro) 0 P ops Q l a w
  | [],x,y,a,w,g,h,hs,hr,hg,hn,hQ=>by
    simp only[uO,aSk] at h;subst h;exact hQ g a w hr hg
  | o::l,x,y,a,w,g,h,hs,hr,hg,hn,hQ=>by
    obtain⟨e,h1,h2,h3,h4⟩:=a0S h;have hside: ∀p∈e.side,p:=fun p hp=>hs p ((GC h4).1 p (wK.2 (.inr (wK.2 (.inr hp)))));have key:=aBo hT hΓ (ops:=ops.toList) (o:=o) (a:=a) (K:=wpListIn (EY ro) 0 P ops Q l) (Q:=Q) hr.env hr.heap h1 hside (aKE hT hΓ hr e) (fun g' w' v k=>aBy h4 hs (hr.step k h2 h3) (hg.eff k (hn▸(QG h1).2)) hn hQ);simp only[aTW] at key;unfold wpListIn;split at key
    .rename_i hw;rw[aSj hw];exact aBx (aBw h1) key
    rename_i hw;rw[aSl hw];exact⟨fun _ _=>trivial,key⟩
theorem aKF {ro:pL}{id:Nat}{ops:Array Oper}{s:St}{y:vT}{a:Act}{w:pN}{g:Gh}(h:uO T Γ ops.toList ops.toList (some ⟨s,[],[]⟩)=some y) (hs: ∀p∈y.side,p) (hr:uP B g w s a) (hg:sX A L g0 w0 g w s.H) (hn:L.length=s.np)
    (hQ: ∀g' a' w',uP B g' w' y.s a'→sX A L g0 w0 g' w' y.s.H→Q .normal a' w'):(Code.region id ops false).wpIn (EY ro) 0 P Q a w:=
  wpIn_region_list (aBy hT hΓ h hs hr hg hn hQ)
end
theorem aKG {H H':List (Nat×pW)}{t:Ty}{i off:Nat}{e:qJ}(h:HT H t i off (pZ H i)=some e) (hl: ∀id∈e.rds,pZ H' id=pZ H id):i∈e.rds∧HT H' t i off (pZ H' i)=some e:=by
  have key: ∃k n v x ts,pZ H i=some (.cells v x ts)∧BH v x=some (k,n)∧TC t i off k n v x (pZ H k)=some e∧e.rds=[1000000000,i,k]:=by
    unfold HT at h;split at h
    case h_2=>cases h
    rename_i v x ts hb;cases hf:BH v x with
    |none=>rw[hf] at h;cases h
    | some q=>
      obtain⟨k,n⟩:=q;rw[hf] at h;refine⟨k,n,v,x,ts,hb,hf,h,?_⟩;simp only[TD] at h;unfold TC at h;split at h
      case h_2=>cases h
      generalize zK _ _ _ _=z at h;cases z with
      |none=>cases h
      | some z=>
        obtain⟨v',x'⟩:=z;simp only[YN] at h;unfold YM at h;split at h
        .simp only[aSk] at h;rw[←h]
        cases h
  obtain⟨k,n,v,x,ts,h1,h2,h3,h4⟩:=key;refine⟨by rw[h4];simp,?_⟩;rw[hl i (by rw[h4];simp),h1];simp only[HT,h2,TD];rw[hl k (by rw[h4];simp)];exact h3
theorem a0T {ρ ρ':Operand→pX}: ∀{xs:List Operand},(∀x∈xs,ρ' x=ρ x)→vK ρ' xs=vK ρ xs
  |[],_=>rfl
  |x::xs,h=>by simp only[vK,h x pE,a0T (fun y hy=>h y (aSy _ hy))]
theorem a0U {ρ ρ':Operand→pX}: ∀{xs:List (Nat×Operand)},(∀x∈xs,ρ' x.2=ρ x.2)→u7 ρ' xs=u7 ρ xs
  |[],_=>rfl
  |(i,x)::xs,h=>by simp only[u7,h (i,x) pE,a0U (fun y hy=>h y (aSy _ hy))]
theorem aBz {T:sI}{ρ ρ':Operand→pX}: ∀{xs:List Operand}{ts:List TypeId},(∀x∈xs,ρ' x=ρ x)→BJ T ρ' xs ts=BJ T ρ xs ts
  |[],_,_=>by simp [BJ]
  |_::_,[],_=>by simp [BJ]
  |x::xs,t::ts,h=>by simp only[BJ,h x pE,aBz (fun y hy=>h y (aSy _ hy))]
theorem aKH {T:sI}{Γ:sV}{ty:TypeId}{ρ ρ':Operand→pX}{base:Nat}{H:List (Nat×pW)}(op:Op) (h: ∀x∈op.operands,ρ' x=ρ x):uA T Γ ty ρ' base H op=uA T Γ ty ρ base H op:=by
  cases op
  case slice t x lo hi mx=>
    cases mx with
    |some m=>rfl
    | none=>
      have h1:=h x (by simp [Op.operands])
      have h2:zL ρ' lo=zL ρ lo:=by
        cases lo with
        |none=>rfl
        |some l=>simp only[zL,h l (by simp [Op.operands])]
      have h3:zL ρ' hi=zL ρ hi:=by
        cases hi with
        |none=>rfl
        |some l=>simp only[zL,h l (by simp [Op.operands])]
      simp only[uA,h1,h2,h3]
  case call c=>
    obtain⟨callee,args,tys⟩:=c
    have ha: ∀x∈args.toList,ρ' x=ρ x:=fun x hx=>h x (by
      have:x∈args:=by simpa using hx
      simp only[Op.operands,Call.operands];split<;>simp [this])
    cases callee with
    |builtin b=>cases b<;>simp only[uA,KE,a0T ha]
    | value f=>
      have hf:=h f (by simp [Op.operands,Call.operands]);simp only[uA,KE,hf];cases KA args.toList tys.toList with
      |false=>rfl
      |true=>simp only[ZE,aBz ha]
    |_=>rfl
  case build t ps=>simp only[uA,a0U (fun x hx=>h x.2 (by simp only[Op.operands,aUb];exact List.mem_map_of_mem hx))]
  case buildSlice t n ps=>simp only[uA,a0U (fun x hx=>h x.2 (by simp only[Op.operands,aUb];exact List.mem_map_of_mem hx))]
  case makeFunc f first caps=>
    cases f with
    | func f=>
      have hc: ∀x∈caps.toList,ρ' x=ρ x:=fun x hx=>h x (by
        have:x∈caps:=by simpa using hx
        simp [Op.operands,this])
      simp only[uA,a0T hc]
    |_=>rfl
  all_goals first
    |rfl
    |(simp only[Op.operands,aUb,aSx,aTK,or_false,forall_eq,forall_eq_or_imp] at h;simp only[uA,h])
    |(simp [Op.operands] at h;simp only[uA,h])
theorem a0V: ∀{l acc:List rK}{i:Nat},i∈sA (yR l acc)↔i∈sA l∨i∈sA acc
  |[],_,_=>by simp [yR,sA]
  | w::l,acc,i=>by
    simp only[yR,a0V,sA,aSx];constructor
    · rintro(h|h|h)
      .exact .inl (.inr h)
      .exact .inl (.inl h)
      exact .inr h
    rintro((h|h) |h)
    .exact .inr (.inl h)
    .exact .inl h
    exact .inr (.inr h)
section
variable {H H':List (Nat×pW)}
theorem aKI {k:pL}{a b:sQ}(h:zH H k (some a)=some b):(∀i,i∈sA a.ws→i∈sA b.ws)∧((∀i,i∈sA b.ws→pZ H' i=pZ H i)→zH H' k (some a)=some b):=by
  cases k with
  | none=>
    have h:none=some b:=h;cases h
  | some k=>
    simp only[zH] at h|-
    have:(∃e c m,pZ H k=some (.grow e c m)):=by
      cases hg:pZ H k with
      |none=>rw[hg] at h;cases h
      | some bl=>cases bl with
        |grow e c m=>exact⟨_,_,_,rfl⟩
        |_=>rw[hg] at h;cases h
    obtain⟨e,c,m,hg⟩:=this;rw[hg] at h;simp only[C1] at h;split at h
    .cases h
    rename_i hm
    simp only[aSk] at h;subst h;refine⟨fun i hi=>by simp only[sA,aSx];exact .inr hi,fun hl=>?_⟩;rw[hl k (by simp [sA,rK.id]),hg];simp only[C1];rw[aSl hm]
theorem aKJ (H:List (Nat×pW)) (k:pL):zH H k none=none:=by
  cases k with
  |none=>rfl
  | some k=>
    simp only[zH];cases pZ H k with
    |none=>rfl
    |some bl=>cases bl<;>rfl
theorem aBA (H:List (Nat×pW)) (toks:pH) (o:Nat): ∀(qs:pM),yI H toks o qs none=none
  |[]=>rfl
  |q::qs=>by simp only[yI,aKJ,aBA H toks o qs]
theorem aBB {H H':List (Nat×pW)}{toks:pH}{o:Nat}: ∀{qs:pM}{a b:sQ},yI H toks o qs (some a)=some b→(∀i,i∈sA a.ws→i∈sA b.ws)∧((∀i,i∈sA b.ws→pZ H' i=pZ H i)→yI H' toks o qs (some a)=some b)
  |[],a,b,h=>by simp only[yI,aSk] at h;subst h;exact⟨fun _ h=>h,fun _=>rfl⟩
  | q::qs,a,b,h=>by
    simp only[yI] at h|-;cases hm:zH H (wT toks (o+q)) (some a) with
    |none=>rw[hm,aBA] at h;cases h
    | some m=>
      rw[hm] at h;obtain⟨h1,h2⟩:=aKI (H':=H') hm;obtain⟨h3,h4⟩:=aBB (H':=H') h;exact⟨fun i hi=>h3 i (h1 i hi),fun hl=>by rw[h2 (fun i hi=>hl i (h3 i hi))];exact h4 hl⟩
theorem aKK (H H':List (Nat×pW)) (a:sQ) (s:pX):xL H' a .v s=xL H a .v s:=by
  obtain⟨d,k⟩:=s;cases d with
  | val t x=>
    cases t with
    | clo=>
      cases x with
      |none=>rfl
      |some q=>obtain⟨f,l⟩:=q;cases l<;>rfl
    |_=>rfl
  |_=>rfl
theorem aBC {H H':List (Nat×pW)}{t:Ty}{os:pM}{i o:Nat}{a b:sQ}(h:vR H t os i o a (pZ H i)=some b):(∀i,i∈sA a.ws→i∈sA b.ws)∧((∀i,i∈sA b.ws→pZ H' i=pZ H i)→vR H' t os i o a (pZ H' i)=some b):=by
  cases hg:pZ H i with
  |none=>rw[hg] at h;simp [vR] at h
  | some bl=>
    rw[hg] at h;cases bl with
    | cells u x toks=>
      simp only[vR] at h;cases hy:qT t u x o with
      |none=>rw[hy] at h;simp [EL] at h
      | some y=>
        rw[hy] at h;simp only[EL] at h;split at h
        · rename_i hc
          obtain⟨h3,h4⟩:=aBB (H':=H') h;refine⟨fun j hj=>h3 j (by simp only[sA,aSx];exact .inr hj),fun hl=>?_⟩;rw[hl i (h3 i (by simp [sA,rK.id])),hg];simp only[vR,hy,EL];rw[aSj hc];exact h4 hl
        .cases h
    |_=>simp [vR] at h
theorem aKL (H:List (Nat×pW)) (f:FuncId) (args:List pX) (ks:List (Ty×pM)) (cs ids:pH):xK H f args ks cs ids none=none:=by cases ks<;>cases cs<;>rfl
theorem aBD {H H':List (Nat×pW)}{f:FuncId}{args:List pX}: ∀{ks:List (Ty×pM)}{cs ids:pH}{a b:sQ},xK H f args ks cs ids (some a)=some b→(∀i,i∈sA a.ws→i∈sA b.ws)∧((∀i,i∈sA b.ws→pZ H' i=pZ H i)→xK H' f args ks cs ids (some a)=some b)
  | [],[],ids,a,b,h=>by
    simp only[xK,aSk] at h|-;subst h;exact⟨fun _ h=>h,fun _=>rfl⟩
  |[],_::_,_,_,_,h=>by simp [xK] at h
  |_::_,[],_,_,_,h=>by simp [xK] at h
  | (t,os)::ks,(i,o)::cs,ids,a,b,h=>by
    simp only[xK] at h|-;cases hb:vR H t os i o a (pZ H i) with
    |none=>rw[hb,aKL] at h;cases h
    | some m=>
      rw[hb] at h;obtain⟨h1,h2⟩:=aBC (H':=H') hb;obtain⟨h3,h4⟩:=aBD (H':=H') h;exact⟨fun i hi=>h3 i (h1 i hi),fun hl=>by rw[h2 (fun i hi=>hl i (h3 i hi))];exact h4 hl⟩
theorem aBE {p:PK}{s:pX}{a b:sQ}(h:xL H a p s=some b):(∀i,i∈sA a.ws→i∈sA b.ws)∧((∀i,i∈sA b.ws→pZ H' i=pZ H i)→xL H' a p s=some b):=by
  by_cases hpv:p= .v
  · subst hpv
    refine⟨?_,fun _=>by rw[aKK H H'];exact h⟩;unfold xL at h;split at h
    .simp only[SS,aSk] at h;subst h;exact fun _ h=>h
    · simp only[SR] at h
      split at h
      .simp only[aSk] at h;subst h;exact fun _ h=>h
      cases h
    .simp only[ST,aSk] at h;subst h;exact fun _ h=>h
    .rename_i h1;cases h1
    .rename_i h1;cases h1
    .rename_i h1;cases h1
    .rename_i h1;cases h1
    .rename_i h1;cases h1
    .rename_i h1;cases h1
    cases h
  unfold xL at h;split at h
  .exact absurd rfl hpv
  .exact absurd rfl hpv
  .exact absurd rfl hpv
  · rename_i t x k
    simp only[xL];cases hg:pZ H k with
    |none=>rw[hg] at h;simp [C2] at h
    | some bl=>
      rw[hg] at h;cases bl with
      | grow e c m=>
        simp only[C2] at h;split at h
        · rename_i hc
          simp only[aSk] at h;subst h;refine⟨fun i hi=>by simp only[sA,aSx];exact .inr hi,fun hl=>?_⟩;rw[hl k (by simp [sA,rK.id]),hg];simp only[C2];rw[aSj hc]
        .cases h
      |_=>simp [C2] at h
  · rename_i t os i o k
    simp only[xL];exact aBC h
  · rename_i i k
    simp only[xL];cases hg:pZ H i with
    |none=>rw[hg] at h;simp [C3] at h
    | some bl=>
      rw[hg] at h;cases bl with
      | map s t l=>
        simp only[C3] at h;split at h
        · rename_i hc
          simp only[aSk] at h;subst h;refine⟨fun j hj=>by simp only[sA,aSx];exact .inr hj,fun hl=>?_⟩;rw[hl i (by simp [sA,rK.id]),hg];simp only[C3];rw[aSj hc]
        .cases h
      |_=>simp [C3] at h
  · rename_i k n k'
    simp only[xL];cases hg:pZ H k with
    |none=>rw[hg] at h;simp [xJ] at h
    | some bl=>
      rw[hg] at h;cases bl with
      | row e t l m=>
        simp only[xJ] at h;split at h
        · rename_i hc
          simp only[aSk] at h;subst h;refine⟨fun j hj=>by simp only[sA,aSx];exact .inr hj,fun hl=>?_⟩;rw[hl k (by simp [sA,rK.id]),hg];simp only[xJ];rw[aSj hc]
        .cases h
      | grow e c m=>
        simp only[xJ] at h;split at h
        · rename_i hc
          simp only[aSk] at h;subst h;refine⟨fun j hj=>by simp only[sA,aSx];exact .inr hj,fun hl=>?_⟩;rw[hl k (by simp [sA,rK.id]),hg];simp only[xJ];rw[aSj hc]
        .cases h
      |_=>simp [xJ] at h
  · simp only[xL]
    exact aBD h
  · have hb:=h
    unfold P8 at hb;split at hb
    · rename_i hc
      simp only[aSk] at hb;subst hb;exact⟨fun _ h=>h,fun _=>by simp only[xL,hc,P8]⟩
    cases hb
  cases h
theorem aBF (H:List (Nat×pW)) (gs:List (Nat×Nat×PK)):BD H gs none=none:=by cases gs<;>rfl
theorem aBG {H H':List (Nat×pW)}: ∀{gs:List (Nat×Nat×PK)}{a b:sQ},BD H gs (some a)=some b→(∀i,i∈sA a.ws→i∈sA b.ws)∧((∀i,i∈sA b.ws→pZ H' i=pZ H i)→BD H' gs (some a)=some b)
  |[],a,b,h=>by simp only[BD,aSk] at h;subst h;exact⟨fun _ h=>h,fun _=>rfl⟩
  | (c,q,pk)::gs,a,b,h=>by
    simp only[BD] at h|-;cases hm:xL H a pk (JY q pk (HQ a.H (a.n-1-c))) with
    |none=>rw[hm] at h;simp only[MR,aBF] at h;cases h
    | some m=>
      rw[hm] at h;simp only[MR] at h;obtain⟨h1,h2⟩:=aBE (H':=H') hm;obtain⟨h3,h4⟩:=aBG (H':=H') h;exact⟨fun i hi=>h3 i (h1 i hi),fun hl=>by rw[h2 (fun i hi=>hl i (h3 i hi))];simp only[MR];exact h4 hl⟩
theorem aKM (H:List (Nat×pW)): ∀(ps:List PK) (ss:List pX),xM H ps ss none=none
  |[],[]=>rfl
  |[],_::_=>rfl
  |_::_,[]=>rfl
  |_::_,_::_=>rfl
theorem aBH {H H':List (Nat×pW)}: ∀{ps:List PK}{ss:List pX}{a b:sQ},xM H ps ss (some a)=some b→(∀i,i∈sA a.ws→i∈sA b.ws)∧((∀i,i∈sA b.ws→pZ H' i=pZ H i)→xM H' ps ss (some a)=some b)
  |[],[],a,b,h=>by simp only[xM,aSk] at h;subst h;exact⟨fun _ h=>h,fun _=>rfl⟩
  |[],_::_,a,b,h=>by simp [xM] at h
  |_::_,[],a,b,h=>by simp [xM] at h
  | p::ps,s::ss,a,b,h=>by
    simp only[xM] at h|-;cases hm:xL H a p s with
    |none=>rw[hm,aKM] at h;cases h
    | some m=>
      rw[hm] at h;obtain⟨h1,h2⟩:=aBE (H':=H') hm;obtain⟨h3,h4⟩:=aBH (H':=H') h;exact⟨fun i hi=>h3 i (h1 i hi),fun hl=>by rw[h2 (fun i hi=>hl i (h3 i hi))];exact h4 hl⟩
theorem aBI {H H':List (Nat×pW)}{base:Nat}{args:List pX}{s:r7}{e:qJ}(h:FU H base args (some s)=some e) (hl: ∀i∈e.rds,pZ H' i=pZ H i):FU H' base args (some s)=some e:=by
  simp only[FU] at h|-;cases hp0:xM H s.ps args (some ⟨[],[],[],0⟩) with
  |none=>rw[hp0,aBF] at h;cases h
  |some a0=>
   rw[hp0] at h;cases hp:BD H s.gs (some a0) with
   |none=>rw[hp] at h;cases h
   |some a=>
    rw[hp] at h
    have hrd: ∀i,i∈sA (yR a.ws [])→i∈e.rds:=by
      simp only[PE] at h;cases hcl:HR (yR a.ws []) (yR a.H []) with
      |none=>rw[hcl] at h;cases h
      |some L=>
      rw[hcl] at h;simp only[SZ] at h;cases hc:s.C (yR a.args []) L with
      |none=>rw[hc] at h;cases h
      | some r=>
        rw[hc] at h;simp only[SY] at h;unfold PC at h;split at h
        · simp only[aSk] at h
          rw[←h];exact fun i hi=>wK.2 (.inl hi)
        cases h
    obtain⟨g1,g2⟩:=aBG (H':=H') hp;rw[(aBH (H':=H') hp0).2 (fun i hi=>hl i (hrd i (a0V.2 (.inl (g1 i hi))))),g2 (fun i hi=>hl i (hrd i (a0V.2 (.inl hi))))];exact h
theorem aBJ {H H':List (Nat×pW)}{base:Nat}{args:List pX}{s:Option r7}{e:qJ}(h:K8 H base args s=some e) (hl: ∀i∈e.rds,pZ H' i=pZ H i):K8 H' base args s=some e:=by
  cases s with
  |none=>cases h
  | some s=>
    simp only[K8] at h|-;cases hr:s.row with
    | some F=>
      rw[hr] at h;simp only[U0] at h|-;unfold T6 at h|-;split at h
      · rename_i k n x
        cases hg:pZ H k with
        |none=>rw[hg] at h;cases h
        | some b=>
          have hk:k∈e.rds:=by
            rw[hg] at h;cases b with
            | row e0 t l m=>
              simp only[Y8] at h;unfold a9q at h;split at h
              .simp only[aSk] at h;rw[←h];simp
              .cases h
            |_=>cases h
          rw[hl k hk];exact h
      .cases h
    | none=>
      rw[hr] at h;simp only[U0] at h|-;cases hn:PF s.ps args with
      |none=>rw[hn] at h;exact aBI h hl
      | some k=>
        rw[hn] at h;simp only[a9p] at h|-;cases hg:pZ H k with
        |none=>rw[hg] at h;cases h
        | some b=>
          rw[hg] at h;cases b with
          | row e0 t l m=>
            simp only[PH] at h;cases hi:FU ((k,.dead)::H) base (PG k t l args) (some s) with
            |none=>rw[hi] at h;cases h
            | some e1=>
              rw[hi] at h
              have hk:k∈e.rds∧∀i∈e1.rds,i∈e.rds:=by
                unfold Y7 at h;split at h
                · rename_i heq
                  simp only[aSk] at heq;subst heq;unfold Y6 at h;split at h
                  · split at h
                    · simp only[aSk] at h
                      rw[←h];exact⟨by simp,fun i hi=>aSy _ hi⟩
                    cases h
                  cases h
                cases h
              rw[hl k hk.1,hg];simp only[PH]
              rw[aBI hi (fun i hi'=>by
                simp only[pZ];split
                .rfl
                exact hl i (hk.2 i hi'))]
              exact h
          |_=>cases h
theorem aBK {Γ:sV}{base:Nat}{args:List pX}{f:pX}{e:qJ}(h:K9 Γ H base args f=some e) (hl: ∀i∈e.rds,pZ H' i=pZ H i):K9 Γ H' base args f=some e:=by
  unfold K9 at h|-;split at h
  .exact aBJ h hl
  .exact aBJ h hl
  cases h
theorem aBL {H H':List (Nat×pW)}: ∀{ks:pH}{ps:List Prop}{bs:List (Nat×pW)},BI H ks=some (ps,bs)→(∀p∈ks,p.1∈qB bs)∧((∀p∈ks,pZ H' p.1=pZ H p.1)→BI H' ks=some (ps,bs))
  |[],ps,bs,h=>⟨fun p hp=>(by cases hp),fun _=>h⟩
  | (k,n)::r,ps,bs,h=>by
    simp only[BI] at h;split at h
    .cases h
    rename_i hk
    cases h1:TE k n (pZ H k) with
    |none=>rw[h1] at h;simp [K5] at h
    | some q=>
      obtain⟨pp,b⟩:=q;cases h2:BI H r with
      |none=>rw[h1,h2] at h;simp [K5] at h
      | some q2=>
        obtain⟨ps2,bs2⟩:=q2;rw[h1,h2] at h;simp only[K5,aSk,aSP] at h;obtain⟨rfl,rfl⟩:=h;obtain⟨k1,k2⟩:=aBL (H':=H') h2;refine⟨fun p hp=>?_,fun hg=>?_⟩
        · rcases aSx.1 hp with rfl|hp
          .simp [qB]
          simp only[qB,aSx];exact .inr (k1 p hp)
        simp only[BI]
        rw[aSl hk,hg _ aSJ,h1,k2 (fun p hp=>hg p (aSy _ hp))];rfl
theorem aKN {H H':List (Nat×pW)}: ∀{t:Ty}{x:t.den},(∀p∈AM t x,pZ H' p.1=pZ H p.1)→AL H' t x=AL H t x:=by
  intro t
  induction t with
  | rl e u=>
    intro x h;cases x with
    |none=>rfl
    | some p=>
      simp only[AL,YO];rw[h p (by simp [AM,YP])]
  | pair a b iha ihb=>
    intro x h;simp only[AL];rw[iha (fun p hp=>h p (by simp only[AM];exact G4.2 (.inl hp))),ihb (fun p hp=>h p (by simp only[AM];exact G4.2 (.inr hp)))]
  |_=>intro x h;rfl
theorem aKO {H H':List (Nat×pW)}{t:Ty}{i off:Nat}{e:qJ}(h:K6 H t i off (pZ H i)=some e) (hl: ∀id∈e.rds,pZ H' id=pZ H id):K6 H' t i off (pZ H' i)=some e:=by
  have key: ∃v x ts z ps bs,pZ H i=some (.cells v x ts)∧AL H v x=some z∧BI H (AM v x)=some (ps,bs)∧TF t i (some (ps,bs)) (qT t (FX v) z off)=some e∧e.rds=i::qB bs:=by
    unfold K6 at h;split at h
    case h_2=>cases h
    rename_i v x ts hb;cases hz:AL H v x with
    |none=>rw[hz] at h;cases h
    | some z=>
      rw[hz] at h;simp only[TG] at h;cases hsa:BI H (AM v x) with
      |none=>rw[hsa] at h;cases h
      | some q=>
        obtain⟨ps,bs⟩:=q;rw[hsa] at h;refine⟨v,x,ts,z,ps,bs,hb,hz,hsa,h,?_⟩;unfold TF at h;split at h
        · rename_i e1 e2
          cases e1;simp only[aSk] at h;rw[←h]
        cases h
  obtain⟨v,x,ts,z,ps,bs,h1,h2,h3,h4,h5⟩:=key;obtain⟨k1,k2⟩:=aBL (H':=H') h3;have hk: ∀p∈AM v x,pZ H' p.1=pZ H p.1:=fun p hp=>hl _ (by rw[h5];exact aSy _ (k1 p hp));rw[hl i (by rw[h5];exact aSJ),h1];simp only[K6];rw[aKN hk,h2];simp only[TG];rw[k2 hk];exact h4
theorem aKP {H H':List (Nat×pW)}{i off k n:Nat}{ti:TI}{e:qJ}(h:MY H i off k n ti (pZ H i)=some e) (hl: ∀id∈e.rds,pZ H' id=pZ H id):MY H' i off k n ti (pZ H' i)=some e:=by
  obtain⟨ty,el,by',ar,ls⟩:=ti;cases ty with
  | list u=>
    cases hb:pZ H i with
    |none=>rw[hb] at h;cases h
    | some b=>
      cases b with
      | cells v x ts=>
        rw[hb] at h;simp only[MY] at h
        have hi:i∈e.rds:=by
          rcases aAA h with h|h|h
          · unfold MW at h;split at h
            .simp only[aSk] at h;rw[←h];simp
            cases h
          · unfold YW at h;split at h
            .simp only[aSk] at h;rw[←h];simp
            cases h
          unfold PQ at h;split at h
          · split at h
            · unfold TN at h;split at h
              .simp only[aSk] at h;rw[←h];simp
              cases h
            cases h
          cases h
        rw[hl i hi,hb];simp only[MY];unfold YX at h|-;cases hz:MW v i (t6 ts off 1) (sD (.rl el u) (some (k,n)) v x off) with
        |some r=>rw[hz] at h;exact h
        | none=>
          rw[hz] at h;cases ls with
          |nil=>exact h
          | cons q r=>
            simp only[a9D] at h|-
            have hk:k∈e.rds:=by
              unfold PQ at h;split at h
              · split at h
                · unfold TN at h;split at h
                  .simp only[aSk] at h;rw[←h];simp
                  cases h
                cases h
              cases h
            rw[hl k hk];exact h
      |_=>rw[hb] at h;cases h
  |_=>cases h
theorem aKQ {Γ:sV}{H H':List (Nat×pW)}{x:Nat×Nat×(Nat×Nat)×(Nat×Nat)}{args:List pX}{ti:Option TI}{e:qJ}(h:KD Γ H x args ti=some e) (hl: ∀id∈e.rds,pZ H' id=pZ H id):KD Γ H' x args ti=some e:=by
  unfold KD at h;split at h
  case h_2=>cases h
  rename_i c i k3 n3 k4 n4 s kk el by' ar ls;simp only[KD]
  have key:e.rds=[i,k3,k4]:=by
    unfold U5 at h;split at h
    case h_2=>cases h
    unfold ZB at h;split at h
    case h_2=>cases h
    unfold ZA at h;split at h
    case h_2=>cases h
    unfold Z9 at h;split at h
    case h_2=>cases h
    unfold Z8 at h;split at h
    .simp only[aSk] at h;rw[←h]
    cases h
  rw[hl i (by rw[key];simp)];unfold U5 at h|-;split at h
  case h_2=>cases h
  rw[hl k3 (by rw[key];simp),hl k4 (by rw[key];simp)];exact h
theorem aKR {T:sI}{Γ:sV}{H H':List (Nat×pW)}{base:Nat}{args:List pX}{f:pX}{e:qJ}(h:N0 T Γ base H args f=some e) (hl: ∀i∈e.rds,pZ H' i=pZ H i):N0 T Γ base H' args f=some e:=by
  unfold N0 at h|-;split at h
  .exact aKQ h hl
  · unfold ZD at h|-
    split at h
    · rename_i hf
      rw[aSj hf];exact h
    rename_i hf
    rw[aSl hf];exact aBK h hl
  exact aBK h hl
theorem aKS {T:sI}{Γ:sV}{ty:TypeId}{ρ:Operand→pX}{base:Nat}{op:Op}{e:qJ}(h:uA T Γ ty ρ base H op=some e) (hl: ∀i∈e.rds,pZ H' i=pZ H i):uA T Γ ty ρ base H' op=some e:=by
  cases op
  case load t x=>
    simp only[uA] at h|-;unfold TH at h|-;split at h
    · rename_i ti k n c i o' _ e1 e2
      unfold PN at h;split at h
      · rename_i e' t' l m hg
        split at h
        · rename_i hc
          have:e.rds=[k]:=by
            unfold a9w at h;split at h
            .simp only[aSk] at h;rw[←h]
            cases h
          rw[hl k (by rw[this];simp),hg];simp only[PN];rw[aSj hc];exact h
        cases h
      cases h
    .exact h
    · rename_i ti i off k e1 e2
      split at h
      · rename_i hq
        rw[aSj hq];exact aKO h hl
      rename_i hq;rw[aSl hq];rcases aAo h with h1|⟨h0,h1⟩
      · have hi:i∈e.rds:=by
          rcases aAn h1 with h|h
          · unfold PM at h
            split at h
            · unfold a9v at h;split at h
              .simp only[aSk] at h;rw[←h];simp
              cases h
            cases h
          unfold TB at h
          split at h
          · unfold YJ at h;split at h
            .simp only[aSk] at h;rw[←h];simp
            cases h
          cases h
        rw[hl i hi,h1];rfl
      obtain⟨hi,h2⟩:=aKG h1 hl
      rw[hl i hi,h0];rw[hl i hi] at h2;exact h2
    cases h
  case store t x y=>
    simp only[uA] at h|-;unfold TR at h|-;split at h
    · rename_i ti i off k kk n k' e1 e2 e3
      exact aKP h hl
    · rename_i ti i off _ d _ e1 e2 e3
      have hi:i∈e.rds:=by
        unfold YT at h;split at h
        · unfold YS at h
          split at h
          · unfold YR at h
            split at h
            .simp only[aSk] at h;rw[←h];simp
            cases h
          cases h
        cases h
      rw[hl i hi];exact h
    · rename_i ti k n c i o' _ t y k' e1 e2 e3
      split at h
      · rename_i ht
        rw[aSj ht];unfold TQ at h;split at h
        · rename_i e' t' l m hg
          split at h
          · rename_i hc
            have:e.rds=[k]:=by
              unfold a9C at h;split at h
              .simp only[aSk] at h;rw[←h]
              cases h
            rw[hl k (by rw[this];simp),hg];simp only[TQ];rw[aSj hc];exact h
          cases h
        cases h
      cases h
    · rename_i ti i off k t y k' e1 e2 e3
      split at h
      · rename_i ht
        have hi:e.rds=[i]:=by
          have main: ∀e0,FY base i off (pZ H i) ti.ls t y k'=some e0→e0.rds=[i]∧∃b r,e0.upd=(i,b)::r:=by
            intro e0 h;unfold FY at h;split at h
            · unfold TK at h
              split at h
              · unfold a9z at h;split at h
                .simp only[aSk] at h;rw[←h];exact⟨rfl,_,_,rfl⟩
                cases h
              cases h
            unfold TJ at h
            split at h
            · unfold MW at h;split at h
              .simp only[aSk] at h;rw[←h];exact⟨rfl,_,_,rfl⟩
              cases h
            cases h
          cases hb':K7 t with
          |false=>rw[hb'] at h;exact(main e h).1
          | true=>
            rw[hb'] at h;simp only[YQ] at h;cases h0:FY base i off (pZ H i) ti.ls t y k' with
            |none=>rw[h0] at h;cases h
            | some e0=>
              rw[h0] at h;obtain⟨m1,b,r,m2⟩:=main e0 h0;obtain⟨sd,s,up,rd⟩:=e0;simp only at m1 m2;subst m1 m2;unfold PP at h;split at h
              · rename_i heq
                cases heq;split at h
                · unfold TL at h
                  split at h
                  .simp only[aSk] at h;rw[←h]
                  cases h
                cases h
              cases h
        rw[hl i (by rw[hi];simp)];simp only[aSj ht];exact h
      cases h
    cases h
  case call c=>
    obtain⟨callee,args,tys⟩:=c;cases callee with
    | builtin b=>
      cases b
      case append=>
        simp only[uA,KE] at h|-;unfold U4 at h|-;split at h
        · split at h
          · rename_i hu
            rw[aSj hu];unfold TY at h|-;split at h
            · split at h
              · rename_i hbu
                rw[aSj hbu];unfold TX at h;split at h
                · rename_i hg
                  split at h
                  · rename_i hbt
                    split at h
                    · rename_i hc
                      simp only[aSk] at h;subst h;rw[hl _ (aSJ),hg];simp only[TX];rw[aUe hbt,aSj hc]
                    cases h
                  cases h
                cases h
              cases h
            · split at h
              · rename_i hba
                rw[aUe hba];unfold TW at h;split at h
                · rename_i hg
                  split at h
                  · rename_i hc
                    simp only[aSk] at h;subst h;rw[hl _ (aSJ),hg];simp only[TW];rw[aSj hc]
                  cases h
                cases h
              cases h
            cases h
          rename_i hu
          rw[aSl hu];unfold Z6 at h|-;split at h
          · unfold U3 at h
            split at h
            · rename_i hg
              split at h
              · rename_i hc
                simp only[aSk] at h;subst h;rw[hl _ (aSJ),hg];simp only[U3];rw[aSj hc]
              cases h
            cases h
          cases h
        cases h
      case len=>
        simp only[uA,KE] at h|-;unfold U1 at h|-;split at h
        · unfold Z4 at h|-
          split at h
          · unfold TV at h
            split at h
            · rename_i hg
              simp only[aSk] at h;subst h;rw[hl _ (aSJ),hg];simp only[TV]
            cases h
          all_goals exact h
        cases h
      all_goals exact h
    | value f=>
      simp only[uA,KE] at h|-;cases hsl:KA args.toList tys.toList with
      |false=>rw[hsl] at h;cases h
      |true=>rw[hsl] at h;exact aKR h hl
    |_=>exact h
  case makeFunc f first caps=>
    cases f with
    |func f=>exact h
    |_=>exact h
  case slice t x lo hi mx=>
    cases mx with
    |none=>exact h
    |some m=>exact h
  case next x b=>
    simp only[uA] at h|-;unfold UA at h|-;split at h
    · rename_i i k e1
      unfold ZJ at h;split at h
      · rename_i hg
        have:e.rds=[i]:=by
          simp only[aSk] at h;rw[←h]
        rw[hl i (by rw[this];simp),hg];exact h
      cases h
    cases h
  case lookup xt x ix ok=>
    simp only[uA] at h|-;unfold U7 at h|-;split at h
    · rename_i el fl ar ls_ i kk e1 e2
      unfold ZG at h|-;split at h
      · rename_i kt vt k a _
        split at h
        · rename_i hk
          rw[aSj hk];unfold U6 at h;split at h
          · rename_i hg
            split at h
            · rename_i hkv
              split at h
              · rename_i hkey
                have:e.rds=[i]:=by
                  cases ok<;>(simp only[aSk] at h;rw[←h])
                rw[hl i (by rw[this];simp),hg];simp only[U6];rw[aUe hkv,aSj hkey];exact h
              cases h
            cases h
          cases h
        cases h
      cases h
    .exact h
    cases h
  case mapUpdate mt m x y=>
    simp only[uA] at h|-;unfold N2 at h|-;split at h
    · rename_i el fl ar ls_ i kk e1 e2
      unfold U8 at h|-;split at h
      · rename_i kt k a _ u b _
        split at h
        · rename_i hk
          rw[aSj hk];unfold N1 at h;split at h
          · rename_i hg
            split at h
            · rename_i hkv
              split at h
              · rename_i hkey
                have:e.rds=[i]:=by
                  simp only[aSk] at h;rw[←h]
                rw[hl i (by rw[this];simp),hg];simp only[N1];rw[aUe hkv,aSj hkey];exact h
              cases h
            cases h
          cases h
        cases h
      cases h
    cases h
  case insert mt m x y=>
    simp only[uA] at h|-;unfold N2 at h|-;split at h
    · rename_i el fl ar ls_ i kk e1 e2
      unfold U8 at h|-;split at h
      · rename_i kt k a _ u b _
        split at h
        · rename_i hk
          rw[aSj hk];unfold N1 at h;split at h
          · rename_i hg
            split at h
            · rename_i hkv
              split at h
              · rename_i hkey
                have:e.rds=[i]:=by
                  simp only[aSk] at h;rw[←h]
                rw[hl i (by rw[this];simp),hg];simp only[N1];rw[aUe hkv,aSj hkey];exact h
              cases h
            cases h
          cases h
        cases h
      cases h
    cases h
  all_goals exact h
end
def aKT {T:sI}{Γ:sV}{ops:Array Oper}{o:Oper}{s s':St}{e:qJ}(h:N6 T Γ ops.toList o s=some e) (ht: ∀t∈o.looksAt ops,lk s'.env t=lk s.env t) (hH: ∀i∈e.rds,pZ s'.H i=pZ s.H i) (hn:s'.nb=s.nb):N6 T Γ ops.toList o s'=some e:=by
 have hop: ∀x∈o.op.operands,tU s'.env x=tU s.env x:=fun x hx=>by
  cases x with
  |tmp t=>exact ht t (by simp only[Oper.looksAt,aTx,List.mem_filterMap];exact .inl ⟨.tmp t,by simpa using hx,rfl⟩)
  |_=>rfl
 have hops:C9 s'.env (sH o.op)=C9 s.env (sH o.op):=by
  have hsub: ∀x∈sH o.op,x∈o.op.operands:=by
   have hp: ∀(l:List (Nat×Operand)) x,x∈sH.parts l->x∈l.map (·.2):=by
    intro l
    induction l with
    |nil=>intro x h;exact h
    |cons q l ih=>
     intro x h;obtain⟨i,y⟩:=q;simp only[sH.parts,aSx] at h;rcases h with rfl|h
     .simp
     simp only[aTC,aSx];exact .inr (ih x h)
   have ho: ∀(y:Option Operand) x,x∈sH.opt y->y=some x:=by
    intro y x h;cases y with
    |none=>cases h
    |some y=>simp only[sH.opt,aSC] at h;rw[h]
   intro x hx;cases hop:o.op
   case call c=>
    rw[hop] at hx;obtain⟨callee,args,tys⟩:=c;cases callee<;>simp_all [sH,Op.operands,Call.operands]
   case slice t y lo hi mx=>
    rw[hop] at hx;simp only[sH,aSx,wK] at hx;simp only[Op.operands,Array.mem_append];rcases hx with rfl|hx|hx
    .simp
    .have:=ho _ _ hx;subst this;simp
    have:=ho _ _ hx;subst this;simp
   case build t ps=>rw[hop] at hx;simp only[Op.operands,aUb];exact hp _ _ hx
   case buildSlice t n ps=>rw[hop] at hx;simp only[Op.operands,aUb];exact hp _ _ hx
   all_goals (rw[hop] at hx;simp_all [sH,Op.operands])
  have: ∀(l:List Operand),(∀x∈l,x∈o.op.operands)->C9 s'.env l=C9 s.env l:=by
   intro l
   induction l with
   |nil=>intro _;rfl
   |cons x l ih=>intro h;simp only[C9,hop x (h x pE),ih (fun y hy=>h y (aSy _ hy))]
  exact this _ hsub
 have hpl: ∀{e0:qJ},uA T Γ o.type (fun x=>sM (tU s.env x)) s.nb s.H o.op=some e0->e0.rds=e.rds->uA T Γ o.type (fun x=>sM (tU s'.env x)) s'.nb s'.H o.op=some e0:=by
  intro e0 h1 h2;rw[aKH (ρ:=fun x=>sM (tU s.env x)) (ρ':=fun x=>sM (tU s'.env x)) o.op (fun x hx=>by simp only[hop x hx]),hn];exact aKS h1 (by rw[h2];exact hH)
 unfold N6 at h|-;cases hg:o.guard with
 |none=>
  rw[hg] at h;simp only at h|-;by_cases hpk: ∃c x y,o.op= .pick c x y
  .obtain⟨c,x,y,hp⟩:=hpk;rw[hp] at h|-;simp only[N5] at h|-;rw[hop c (by rw[hp];simp [Op.operands]),hop x (by rw[hp];simp [Op.operands]),hop y (by rw[hp];simp [Op.operands])];exact h
  .have e1: ∀s,N5 T Γ o s o.op=N3 (yT true (C9 s.env (sH o.op))) (uA T Γ o.type (fun x=>sM (tU s.env x)) s.nb s.H o.op):=by
    intro s;cases ho:o.op<;>first|rfl|(exact absurd ⟨_,_,_,ho⟩ hpk)
   rw[e1] at h|-;rw[hops];cases hp0:uA T Γ o.type (fun x=>sM (tU s.env x)) s.nb s.H o.op with
   |none=>rw[hp0] at h;cases h
   |some e0=>
    rw[hp0] at h;simp only[N3,aSk] at h;rw[hpl hp0 (by rw[<-h])];simp only[N3,h]
 |some jb=>
  obtain⟨j,b⟩:=jb;rw[hg] at h;simp only at h|-;have hgu:G1 s'.env b (zW ops.toList j)=G1 s.env b (zW ops.toList j):=by
   rw[QE];cases hd:(ops.toList[j]?).bind (·.dst) with
   |none=>rfl
   |some t=>
    simp only[G1];rw[ht t (by
     simp only[Oper.looksAt,hg,aTx];right;have:(ops[j]?).bind (·.dst)=some t:=by simpa using hd
     rw[this];simp)]
  have hup:KF s'.env b (zW ops.toList j)=KF s.env b (zW ops.toList j):=by
   rw[QE];cases hd:(ops.toList[j]?).bind (·.dst) with
   |none=>rfl
   |some t=>
    simp only[KF];rw[ht t (by
     simp only[Oper.looksAt,hg,aTx];right;have:(ops[j]?).bind (·.dst)=some t:=by simpa using hd
     rw[this];simp)]
  rw[hgu,hup];cases hsk:Γ (UB j b) with
  |some sg=>rw[hsk] at h;exact h
  |none=>
  rw[hsk] at h;simp only[PT] at h|-;cases hG:G1 s.env b (zW ops.toList j) with
  |none=>rw[hG] at h;cases h
  |some G=>
   rw[hG] at h;by_cases hpk: ∃c x y,o.op= .pick c x y
   .obtain⟨c,x,y,hp⟩:=hpk;rw[hp] at h|-;simp only[N4] at h|-;rw[hop c (by rw[hp];simp [Op.operands]),hop x (by rw[hp];simp [Op.operands]),hop y (by rw[hp];simp [Op.operands])];exact h
   have e1: ∀s,N4 T Γ o s (some G) o.op=HW G (yT G (C9 s.env (sH o.op))) (uA T Γ o.type (fun x=>sM (tU s.env x)) s.nb s.H o.op):=by
    intro s;cases ho:o.op<;>first|rfl|(exact absurd ⟨_,_,_,ho⟩ hpk)
   rw[e1] at h|-;rw[hops];cases hp0:uA T Γ o.type (fun x=>sM (tU s.env x)) s.nb s.H o.op with
   |none=>rw[hp0] at h;cases h
   |some e0=>
    rw[hp0] at h;have hrd:e0.rds=e.rds:=by
     unfold HW at h;split at h
     .rename_i heq;simp only[aSk] at h heq;subst heq;rw[<-h]
     .rename_i heq;simp only[aSk] at h heq;subst heq;rw[<-h]
     cases h
    rw[hpl hp0 hrd];exact h
def a0W {T:sI}{Γ:sV}{ops:Array Oper}{o:Oper}{s s':St}{e:qJ}(h:zM T Γ ops.toList o s=some e) (ht: ∀t∈o.looksAt ops,lk s'.env t=lk s.env t) (hH: ∀i∈e.rds,pZ s'.H i=pZ s.H i) (hn:s'.nb=s.nb) (hp:s'.np=s.np):zM T Γ ops.toList o s'=some e:=by
 obtain⟨h1,h2⟩:=QG h;unfold zM at h|-;rw[h1] at h;rw[aKT h1 ht hH hn,hp];exact h
def uH {α:Type}(p:Nat->Bool) (wr:Nat->Option α) (b:α):Nat->α
 |0=>b
 |k+1=>if p k=true then(wr k).getD (uH p wr b k) else uH p wr b k
def L1 {α:Type}{p q:Nat->Bool}{wr:Nat->Option α}{b:α}: ∀{n:Nat},(∀j,j<n->wr j≠none->p j=q j)->uH p wr b n=uH q wr b n
 |0,_=>rfl
 |n+1,h=>by
  simp only[uH];have ih:=L1 (p:=p) (q:=q) (wr:=wr) (b:=b) (n:=n) (fun j hj=>h j pC);cases hw:wr n with
  |none=>simp [ih]
  |some v=>rw[h n pC (by rw[hw];simp),ih]
def a0X {α:Type}{wr:Nat->Option α}{b:α}{i:Nat}: ∀{n:Nat},i<=n->uH (fun j=>decide (j<i)) wr b n=uH (fun _=>true) wr b i
 |0,h=>by
  have:i=0:=by omega
  subst this;rfl
 |n+1,h=>by
  by_cases hi:i=n+1
  .subst hi;exact L1 (fun j hj _=>by simp [hj])
  have: ¬n<i:=by omega
  simp only[uH];rw[aSl (by simp [this])];exact a0X pC
def VI {α:Type}{p q:Nat->Bool}{wr:Nat->Option α}{b:α}{i:Nat}(hi:p i=false) (hq: ∀j,q j=if j=i then true else p j): ∀{n:Nat},i<n->(∀j,i<j->j<n->p j=true->wr j=none\/wr i=none)->uH q wr b n=(wr i).getD (uH p wr b n)
 |0,h,_=>by omega
 |n+1,h,hd=>by
  simp only[uH];by_cases hn:n=i
  .subst hn;rw[aSj (by rw[hq];simp),aSl (by simp [hi])];rw[L1 (p:=q) (q:=p) (fun j hj _=>by rw[hq,aSl pC])]
  have ih:=VI (b:=b) hi hq (n:=n) pC (fun j h1 h2=>hd j h1 pC);rw[hq,aSl hn,ih];by_cases hp:p n=true
  .rw[aSj hp,aSj hp];rcases hd n pC pC hp with h1|h1
   .rw[h1];rfl
   rw[h1];rfl
  rw[aSl hp,aSl hp]
def a0Y {α:Type}{p:Nat->Bool}{wr:Nat->Option α}{b:α}: ∀(k:Nat),uH p wr b (k+1)=uH (fun j=>p (j+1)) (fun j=>wr (j+1)) (if p 0=true then(wr 0).getD b else b) k
 |0=>rfl
 |k+1=>by
  rw[uH,a0Y k];rfl
def a0Z {rds:pM}{i:Nat}: ∀{u:List (Nat×pW)},i∈qB (I1 rds u)↔i∈qB u/\CA i rds=false
 |[]=>by simp [I1,qB]
 |(j,b)::u=>by
  simp only[I1];cases h:CA j rds with
  |true=>
   rw[aSj rfl,a0Z (u:=u)];simp only[qB,aSx];constructor
   .rintro⟨h1,h2⟩;exact⟨.inr h1,h2⟩
   .rintro⟨rfl|h1,h2⟩
    .rw[h] at h2;cases h2
    .exact⟨h1,h2⟩
  |false=>
   rw[aSl pE];simp only[qB,aSx,a0Z (u:=u)];constructor
   .rintro(rfl|⟨h1,h2⟩)
    .exact⟨.inl rfl,h⟩
    exact⟨.inr h1,h2⟩
   rintro⟨rfl|h1,h2⟩
   .exact .inl rfl
   exact .inr ⟨h1,h2⟩
def NE {e:qJ}{i:Nat}:i∈qB (xO e)↔i∈qB e.upd/\CA i e.rds=false:=a0Z
def aBM {i:Nat}: ∀{l:pM},CA i l=true->i∈l
 |[],h=>by cases h
 |j::l,h=>by
  simp only[CA] at h;split at h
  .rename_i e;subst e;exact aSJ
  exact aSy _ (aBM h)
def aBN {H U:List (Nat×pW)}{rds:pM}{i:Nat}(h:CA i rds=true): ∀{u:List (Nat×pW)},i∈qB u->(pZ U i=pZ H i)∈KG H U rds u
 |[],hi=>by cases hi
 |(j,b)::u,hi=>by
  simp only[KG];simp only[qB,aSx] at hi;rcases hi with rfl|hi
  .rw[aSj h];exact aSJ
  have:=aBN (H:=H) (U:=U) h hi;split
  .exact aSy _ this
  exact this
def aKU {H:List (Nat×pW)}{e:qJ}(hs: ∀p∈KG H e.upd e.rds e.upd,p) {i:Nat}(h1:i∈qB e.upd) (h2:i∉qB (xO e)):pZ e.upd i=pZ H i/\i∈e.rds:=by
 have h:CA i e.rds=true:=by
  cases h3:CA i e.rds with
  |true=>rfl
  |false=>exact absurd (NE.2 ⟨h1,h3⟩) h2
 exact⟨hs _ (aBN h h1),aBM h⟩
def AQ (os:List Oper) (es:List qJ) (t j:Nat):Option pX:=
 match os[j]?,es[j]? with
 |some o,some e=>if o.dst=some t then some e.slot else none
 |_,_=>none
def xS (es:List qJ) (id j:Nat):Option (Option pW):=
 match es[j]? with
 |some e=>if id∈qB (xO e) then some (pZ e.upd id) else none
 |none=>none
def NF {id:Nat}{H:s5}: ∀{u:List (Nat×pW)},pZ (qS u H) id=if id∈qB u then pZ u id else pZ H id
 |[]=>by simp [qS,qB]
 |(k,b)::u=>by
  simp only[qS,pZ,qB,aSx];by_cases h:k=id
  .subst h;simp
  rw[aSl h,aSl h,NF (u:=u)];have:(id=k\/id∈qB u)↔id∈qB u:=⟨fun h'=>h'.resolve_left (Ne.symm h),.inr⟩;simp only[this]
def aBO {d:Option Tmp}{s:pX}{env:List (Nat×pX)}{t:Nat}:lk (uL d s env) t=if d=some t then s else lk env t:=by
 cases d with
 |none=>simp [uL]
 |some d=>simp only[uL,lk,aSk]
structure a00 (T:sI) (Γ:sV) (ops:List Oper) (os:List Oper) (es:List qJ) (s:St) (y:vT) (k:Nat) (o:Oper) (e:qJ) (sk:St):Prop where
 ev:zM T Γ ops o sk=some e
 nb:sk.nb=s.nb+32*k
 dst:HZ s.N o.dst=true
 ids:I0 (s.nb+32*k+32) e.upd=true
 np:sk.np=s.np
 side: ∀p∈e.side,p∈y.side
 env: ∀t,lk sk.env t=uH (fun _=>true) (AQ os es t) (lk s.env t) k
 heap: ∀id,pZ sk.H id=uH (fun _=>true) (xS es id) (pZ s.H id) k
 same: ∀id,id∈qB e.upd->id∉qB (xO e)->pZ e.upd id=pZ sk.H id/\id∈e.rds
structure a01 (T:sI) (Γ:sV) (ops:List Oper) (os:List Oper) (es:List qJ) (s:St) (y:vT):Prop where
 len:es.length=os.length
 nb:y.s.nb=s.nb+32*os.length
 step: ∀k o e,os[k]? =some o->es[k]? =some e->∃sk,a00 T Γ ops os es s y k o e sk
 env: ∀t,lk y.s.env t=uH (fun _=>true) (AQ os es t) (lk s.env t) os.length
 heap: ∀id,pZ y.s.H id=uH (fun _=>true) (xS es id) (pZ s.H id) os.length
def VJ {T:sI}{Γ:sV}{ops:List Oper}: ∀{l:List Oper}{x y:vT},uO T Γ ops l (some x)=some y->(∀p∈y.side,p)->∃es:List qJ,y.es=es.reverse++x.es/\a01 T Γ ops l es x.s y
 |[],x,y,h,_=>by
  simp only[uO,aSk] at h;subst h;exact⟨[],rfl,rfl,rfl,fun k o e h=>by simp at h,fun _=>rfl,fun _=>rfl⟩
 |o::l,x,y,h,hsy=>by
  obtain⟨e,h1,h2,h3,h4⟩:=a0S h;obtain⟨es,h5,h6⟩:=VJ h4 hsy;have hsame: ∀{i:Nat},i∈qB e.upd->i∉qB (xO e)->pZ e.upd i=pZ x.s.H i/\i∈e.rds:=fun h1 h2=>aKU (fun p hp=>hsy p ((GC h4).1 p (wK.2 (.inr (wK.2 (.inl hp)))))) h1 h2;have envs: ∀t k,uH (fun _=>true) (AQ (o::l) (e::es) t) (lk x.s.env t) (k+1)=uH (fun _=>true) (AQ l es t) (lk (uL o.dst e.slot x.s.env) t) k:=fun t k=>by
   rw[a0Y,aSj rfl,aBO];have:(AQ (o::l) (e::es) t 0).getD (lk x.s.env t)=if o.dst=some t then e.slot else lk x.s.env t:=by
    simp only[AQ,aSY];split<;>rfl
   rw[this];rfl
  have heaps: ∀id k,uH (fun _=>true) (xS (e::es) id) (pZ x.s.H id) (k+1)=uH (fun _=>true) (xS es id) (pZ (qS e.upd x.s.H) id) k:=fun id k=>by
   rw[a0Y,aSj rfl,NF];have:(xS (e::es) id 0).getD (pZ x.s.H id)=if id∈qB e.upd then pZ e.upd id else pZ x.s.H id:=by
    simp only[xS,aSY];by_cases h7:id∈qB (xO e)
    .rw[aSj h7,aSj (NE.1 h7).1];rfl
    rw[aSl h7];by_cases h8:id∈qB e.upd
    .rw[aSj h8,(hsame h8 h7).1];rfl
    rw[aSl h8];rfl
   rw[this];rfl
  refine⟨e::es,by rw[h5];simp,by simp [h6.len],?_,?_,fun t=>?_,fun id=>?_⟩
  .have:=h6.nb;simp only at this;rw[this];simp only[aSq];omega
  .intro k o' e' ho he;cases k with
   |zero=>
    simp only[aSY,aSk] at ho he;subst ho;subst he;exact⟨x.s,h1,rfl,h2,h3,rfl,fun p hp=>(GC h4).1 p (wK.2 (.inr (wK.2 (.inr hp)))),fun _=>rfl,fun _=>rfl,fun id=>hsame⟩
   |succ k=>
    simp only[aS7] at ho he;obtain⟨sk,q⟩:=h6.step k o' e' ho he;refine⟨sk,q.ev,by rw[q.nb];simp only;omega,q.dst,?_,q.np,q.side,fun t=>by rw[q.env t,envs],fun id=>by rw[q.heap id,heaps],q.same⟩;have:=q.ids;simp only at this;rw[show x.s.nb+32*(k+1)+32=x.s.nb+32+32*k+32 by omega];exact this
  .rw[aSq,envs];exact h6.env t
  rw[aSq,heaps];exact h6.heap id
def aBP {i0 j0:Nat}{ops:Array Oper}{bs:pM}{nb i:Nat}{o:Oper}{e:qJ}: ∀{ps:List Oper}{fs:List qJ}{j:Nat},UD i0 j0 ops bs nb i o e ps fs j=true->∀k p f,ps[k]? =some p->fs[k]? =some f->
  (bs.getD (j+k) 0).testBit i=true\/(o.apart ops p=true/\(G2 e f=true\/(i=i0/\j+k=j0))/\KH (nb+32*i) f.upd=true)
 |p::ps,f::fs,j,h,k,p',f',hp,hf=>by
  simp only[UD,aSB,aTP,aSs] at h;cases k with
  |zero=>
   simp only[aSY,aSk] at hp hf;subst hp;subst hf;exact h.1.imp id (fun h=>⟨h.1.1,h.1.2,h.2⟩)
  |succ k=>
   simp only[aS7] at hp hf;have:=aBP h.2 k p' f' hp hf;rw[show j+(k+1)=j+1+k by omega];exact this
 |[],_,_,_,_,_,_,hp,_=>by simp at hp
 |_::_,[],_,_,_,_,_,_,hf=>by simp at hf
def a02 {i0 j0:Nat}{ops:Array Oper}{bs:pM}{nb:Nat}: ∀{os:List Oper}{es:List qJ}{m:Nat},UE i0 j0 ops bs nb os es m=true->∀i j o e p f,i<j->os[i]? =some o->es[i]? =some e->os[j]? =some p->es[j]? =some f->
  (bs.getD (m+j) 0).testBit (m+i)=true\/(o.apart ops p=true/\(G2 e f=true\/(m+i=i0/\m+j=j0))/\KH (nb+32*(m+i)) f.upd=true)
 |o'::os,e'::es,m,h,i,j,o,e,p,f,hij,ho,he,hp,hf=>by
  simp only[UE,aSB] at h;obtain⟨j,rfl⟩: ∃k,j=k+1:=⟨j-1,pC⟩;simp only[aS7] at hp hf;cases i with
  |zero=>
   simp only[aSY,aSk] at ho he;subst ho;subst he;have:=aBP h.1 j p f hp hf;rw[show m+(j+1)=m+1+j by omega];exact this
  |succ i=>
   simp only[aS7] at ho he;have:=a02 h.2 i j o e p f pC ho he hp hf;rw[show m+(j+1)=m+1+j by omega,show m+(i+1)=m+1+i by omega];exact this
 |[],_,_,_,_,_,_,_,_,_,_,ho,_,_,_=>by simp at ho
 |_::_,[],_,_,_,_,_,_,_,_,_,_,he,_,_=>by simp at he
def aBQ: ∀{os:List Oper}{m:Nat},UF os m=true->∀i o,os[i]? =some o->∀e∈o.after,Region.binds .any e=true->e.on<m+i
 |o'::os,m,h,i,o,ho,e,he,hb=>by
  simp only[UF,aSB] at h;cases i with
  |zero=>
   simp only[aSY,aSk] at ho;subst ho;have:=aT3.1 h.1 e (by simpa using he);simpa[hb] using this
  |succ i=>
   simp only[aS7] at ho;have:=aBQ h.2 i o ho e he hb;omega
 |[],_,_,_,_,ho,_,_,_=>by simp at ho
def VK {l:pM}: ∀{u:List (Nat×pW)},PU u l=false->∀i,i∈qB u->i∉l
 |(k,b)::u,h,i,hi=>by
  simp only[PU,aTL] at h;simp only[qB,aSx] at hi;rcases hi with rfl|hi
  .simpa using h.1
  exact VK h.2 i hi
def NH {a b:qJ}(h:G2 a b=true):(∀i∈qB (xO a),i∉b.rds/\i∉qB b.upd)/\(∀i∈qB (xO b),i∉a.rds):=by
 simp only[G2,aSB,aSV] at h;exact⟨fun i hi=>⟨fun h1=>VK h.1 i hi (wK.2 (.inl h1)),fun h1=>VK h.1 i hi (wK.2 (.inr h1))⟩,fun i hi=>VK h.2 i hi⟩
def aBR {lo:Nat}: ∀{u:List (Nat×pW)},KH lo u=true->∀i∈qB u,i<lo\/lo+32<=i
 |(k,b)::u,h,i,hi=>by
  simp only[KH,aSB,aTP,aSs] at h;simp only[qB,aSx] at hi;rcases hi with rfl|hi
  .exact h.1
  exact aBR h.2 i hi
def a03 (os:List Oper) (p:Nat->Bool):Prop:= ∀j o,os[j]? =some o->p j=true->∀e∈o.after,Region.binds .any e=true->p e.on=true
def aBS {p:Nat->Bool}{acc:Array Nat}(hacc: ∀i j,(acc.getD i 0).testBit j=true->p i=true->p j=true) {i:Nat}: ∀{es:List Edge}{s:Nat},(s.testBit i=true->p i=true)->(∀e∈es,Region.binds .any e=true->p e.on=true)->
  (es.foldl (fun s e=>if Region.binds .any e then s|||2^e.on|||acc.getD e.on 0 else s) s).testBit i=true->p i=true
 |[],s,hs,_,h=>hs h
 |e::es,s,hs,he,h=>by
  simp only[List.foldl_cons] at h;refine aBS hacc (es:=es) (fun h1=>?_) (fun e' h'=>he e' (aSy _ h')) h;split at h1
  .rename_i hb;simp only[Nat.testBit_or,aTP,Nat.testBit_two_pow,aSs] at h1;rcases h1 with(h1|h1) |h1
   .exact hs h1
   .rw[<-h1];exact he e pE hb
   exact hacc _ _ h1 (he e pE hb)
  exact hs h1
def aBT {p:Nat->Bool}: ∀{os:List Oper}{acc:Array Nat},(∀i j,(acc.getD i 0).testBit j=true->p i=true->p j=true)->(∀j o,os[j]? =some o->p (acc.size+j)=true->∀e∈o.after,Region.binds .any e=true->p e.on=true)->
  ∀i j,((os.foldl (fun acc o=>acc.push (o.after.foldl (fun s e=>if Region.binds .any e then s|||2^e.on|||acc.getD e.on 0 else s) 0)) acc).getD i 0).testBit j=true->p i=true->p j=true
 |[],acc,hacc,_,i,j,h,hp=>hacc i j h hp
 |o::os,acc,hacc,hos,i,j,h,hp=>by
  simp only[List.foldl_cons] at h;refine aBT (os:=os) (fun i j h hp=>?_) (fun k o' ho hk=>?_) i j h hp
  .rw[aST,Array.getElem?_push] at h;split at h
   .rename_i hi;simp only[aTJ] at h;rw[<-aUh] at h;refine aBS hacc (es:=o.after.toList) (s:=0) (fun h=>by simp at h) (fun e he hb=>hos 0 o rfl (by rw[hi] at hp;exact hp) e (by simpa using he) hb) h
   rw[<-aST] at h;exact hacc i j h hp
  refine hos (k+1) o' ho ?_;rw[Array.size_push] at hk;rw[show acc.size+(k+1)=acc.size+1+k by omega];exact hk
def aBU {ops:Array Oper}{p:Nat->Bool}(hp:a03 ops.toList p) {i j:Nat}(h:((Region.before ops).toList.getD i 0).testBit j=true) (hi:p i=true):p j=true:=by
 refine aBT (os:=ops.toList) (acc:= #[]) (p:=p) (fun i j h=>by simp at h) (fun j o ho hj=>hp j o ho (by simpa using hj)) i j ?_ hi;unfold Region.before at h;rw[<-aUh] at h;rw[aST,<-aTm,<-aSM];exact h
def CY (l:Array Bool):Nat->Nat
 |0=>0
 |k+1=>CY l k+if l.getD k false=true then 0 else 1
theorem aBV {l l':Array Bool}: ∀{n:Nat},(∀j,j<n->l'.getD j false=l.getD j false)->CY l' n=CY l n
 |0,_=>rfl
 |n+1,h=>by simp only[CY];rw[aBV (fun j hj=>h j pC),h n pC]
theorem aBW {l:Array Bool}: ∀{n:Nat},CY l n=0->∀j,j<n->l.getD j false=true
 |n+1,h,j,hj=>by
  simp only[CY] at h;by_cases hn:l.getD n false=true
  .by_cases hjn:j=n
   .subst hjn;exact hn
   exact aBW (n:=n) pC j pC
  rw[aSl hn] at h;omega
theorem GD {l:Array Bool}{i j:Nat}(hi:i<l.size):(l.setIfInBounds i true).getD j false=if j=i then true else l.getD j false:=by
 by_cases h:j=i
 .subst h;rw[aSj rfl,aST,Array.getElem?_setIfInBounds_self_of_lt hi];rfl
 rw[aSl h,aST,aTs (Ne.symm h),<-aST]
theorem aBX {l:Array Bool}{i:Nat}(hi:i<l.size) (hf:l.getD i false=false): ∀{n:Nat},i<n->CY (l.setIfInBounds i true) n+1=CY l n
 |n+1,h=>by
  simp only[CY];by_cases hn:n=i
  .subst hn;rw[GD hi,aSj rfl,aSj rfl,hf,aBV (l:=l) (fun j hj=>by rw[GD hi,aSl pC])];simp
  rw[GD hi,aSl hn];have:=aBX hi hf (n:=n) pC;omega
theorem aBY {p:Nat->Bool}: ∀{n:Nat},(∃j,j<n/\p j=false)->∃j,j<n/\p j=false/\∀k,k<j->p k=true
 |0,⟨j,h,_⟩=>by omega
 |n+1,⟨j,h,hj⟩=>by
  by_cases hs: ∃j,j<n/\p j=false
  .obtain⟨k,h1,h2,h3⟩:=aBY hs;exact⟨k,pC,h2,h3⟩
  refine⟨j,h,hj,fun k hk=>?_⟩;cases hp:p k with
  |true=>rfl
  |false=>exact absurd ⟨k,pC,hp⟩ hs
theorem s9.ext {g:Gh}{w:pN}{H H':s5}(h:s9 g w H) (e: ∀i,pZ H' i=pZ H i):s9 g w H':=
 ⟨fun i b hb=>h.blk i b (by rw[<-e];exact hb),fun i j bi bj b o hij h1 h2=>h.dis i j bi bj b o hij (by rw[<-e];exact h1) (by rw[<-e];exact h2),h.sl,h.tab.1,fun i b bb oo hb ho=>h.tab.2 i b bb oo (by rw[<-e];exact hb) ho⟩
theorem sX.ext {A:Nat->Nat->Prop}{L:List pW}{g0 g:Gh}{w0 w:pN}{H H':s5}(h:sX A L g0 w0 g w H) (e: ∀i,pZ H' i=pZ H i):sX A L g0 w0 g w H':=
 ⟨h.shut,h.fr,fun i blk b o hb=>h.perm i blk b o (by rw[<-e];exact hb),h.J,h.live,fun i u y us hi hb=>h.ty i u y us hi (by rw[<-e];exact hb),h.cur⟩
theorem aBZ (g:Gh) (w:pN) (d:Nat):Le g w g {w with drawn:=d}:=⟨fun _ _ h=>h,fun _ _ _=>rfl,fun _ _ h=>h,fun _ _ _ h=>h⟩
theorem s9.drawn {g:Gh}{w:pN}{H:s5}(h:s9 g w H) (d:Nat):s9 g {w with drawn:=d} H:=
 ⟨fun i b hb=>I4 (h.blk i b hb) (aBZ g w d) rfl rfl (fun _ _ _=>⟨rfl,rfl⟩) (fun _ _=>rfl) (fun _ _ _ h=>h) (fun _ _ _ _ h=>h),h.dis,h.sl,HO h.tab.1 (aSE _) (fun _ _=>rfl),h.tab.2⟩
theorem sX.drawn {A:Nat->Nat->Prop}{L:List pW}{g0 g:Gh}{w0 w:pN}{H:s5}(h:sX A L g0 w0 g w H) (d:Nat):sX A L g0 w0 g {w with drawn:=d} H:=
 ⟨h.shut,⟨h.fr.os,h.fr.tape,h.fr.output,h.fr.size,h.fr.blk,h.fr.cell,h.fr.new,h.fr.shape⟩,h.perm,h.J,h.live,h.ty,h.cur⟩
theorem a04 {rds:pM}{id:Nat}(h:CA id rds=false): ∀{u:List (Nat×pW)},pZ (I1 rds u) id=pZ u id
 |[]=>rfl
 |(k,b)::u=>by
  simp only[I1,pZ];by_cases hk:k=id
  .subst hk;rw[aSl (by rw[h];simp)];simp [pZ]
  split
  .exact a04 h
  simp only[pZ,aSl hk];exact a04 h
theorem aKV {e:qJ}{id:Nat}(h:CA id e.rds=false):pZ (xO e) id=pZ e.upd id:=a04 h
theorem aB0 {T:sI}{Γ:sV}{ops:List Oper}: ∀{k:Nat}{l:List Oper}{x y:vT},uO T Γ ops l (some x)=some y->∃a,uO T Γ ops (l.take k) (some x)=some a/\uO T Γ ops (l.drop k) (some a)=some y
 |0,l,x,y,h=>⟨x,rfl,h⟩
 |k+1,[],x,y,h=>⟨x,rfl,h⟩
 |k+1,o::l,x,y,h=>by
  simp only[List.take_succ_cons,aUn,uO] at h|-;cases hz:UC o x (zM T Γ ops o x.s) with
  |none=>
   rw[hz] at h;cases l with
   |nil=>cases h
   |cons p l=>cases h
  |some z=>rw[hz] at h;exact aB0 h
theorem a05 {α:Type}{p:Nat->Bool}{wr wr':Nat->Option α}{b:α}: ∀{n:Nat},(∀j,j<n->wr j=wr' j)->uH p wr b n=uH p wr' b n
 |0,_=>rfl
 |n+1,h=>by
  simp only[uH];rw[h n pC,a05 (wr:=wr) (wr':=wr') (fun j hj=>h j pC)]
theorem aKW {T:sI}{Γ:sV}{ops:Array Oper}{es:List qJ}{s:St}{y a1:vT}{i0:Nat}{o1:Oper}{ex fx:qJ}(run:a01 T Γ ops.toList ops.toList es s y) (hs: ∀p∈y.side,p) (ho1:ops.toList[i0]? =some o1) (ha1:uO T Γ ops.toList (ops.toList.take i0) (some ⟨s,[],[]⟩)=some a1)
  (hes:y.es.reverse=es) (h:uO T Γ ops.toList ops.toList (some ⟨s,[],[]⟩)=some y) (hx1:zM T Γ ops.toList o1 ⟨a1.s.env,qS (xO fx) a1.s.H,a1.s.nb,a1.s.N,a1.s.np⟩=some ex):
  ∀sk oi,ops.toList[i0]? =some oi->a00 T Γ ops.toList ops.toList es s y i0 oi ex sk->zM T Γ ops.toList oi ⟨sk.env,qS (xO fx) sk.H,sk.nb,sk.N,sk.np⟩=some ex:=by
 intro sk oi hoi st;rw[ho1] at hoi;cases hoi;obtain⟨a2,h1,h2⟩:=aB0 (k:=i0) h;rw[ha1] at h1;cases h1;have hi0:i0<ops.toList.length:=(aSz.1 ho1).1;have hlt:(ops.toList.take i0).length=i0:=by rw[aSX];omega
 obtain⟨es2,e2,r2⟩:=VJ h2 hs;obtain⟨es1,e1,r1⟩:=VJ ha1 (fun p hp=>hs p ((GC h2).1 p hp));have he:es=es1++es2:=by rw[<-hes,e2,e1];simp
 have hl1:es1.length=i0:=by rw[r1.len,hlt]
 have hsd:=GC ha1;refine a0W hx1 (fun t _=>?_) (fun id _=>?_) ?_ ?_
 .show lk sk.env t=lk a1.s.env t;rw[st.env t,r1.env t,hlt];refine a05 (fun j hj=>?_);unfold AQ;rw[he,aSD pC,aTe hj]
 .show pZ (qS (xO fx) sk.H) id=pZ (qS (xO fx) a1.s.H) id;rw[NF,NF,st.heap id,r1.heap id,hlt];have:uH (fun _=>true) (xS es id) (pZ s.H id) i0=uH (fun _=>true) (xS es1 id) (pZ s.H id) i0:=a05 (fun j hj=>by
   unfold xS;rw[he,aSD pC])
  rw[this]
 .show sk.nb=a1.s.nb;rw[st.nb,r1.nb,hlt]
 show sk.np=a1.s.np;rw[st.np,hsd.2.2]
section
variable {B:Nat}{P:Program}{T:sI}{Γ:sV}(hT:wY P T) (hΓ:DH P Γ) {A:Nat->Nat->Prop}{L:List pW}{g0:Gh}{w0:pN}{Q:Exit->Act->pN->Prop}
structure Mid (B:Nat) (A:Nat->Nat->Prop) (L:List pW) (g0:Gh) (w0:pN) (ops:Array Oper) (es:List qJ) (s:St) (listed:Array Bool) (g:Gh) (w:pN) (a:Act) (env:List (Nat×pX)) (H:s5):Prop where
 size:listed.size=ops.size
 closed:a03 ops.toList (fun j=>listed.getD j false)
 eok:AO g w env a.tmps
 look: ∀t,lk env t=uH (fun j=>listed.getD j false) (AQ ops.toList es t) (lk s.env t) ops.size
 heap:s9 g w H
 get: ∀id,pZ H id=uH (fun j=>listed.getD j false) (xS es id) (pZ s.H id) ops.size
 tmps:a.tmps.size=s.N
 def_:zQ B w a.defers
 good:sX A L g0 w0 g w H
 len:L.length=s.np
 free: ∀j,j<ops.size->listed.getD j false=false->∀id,s.nb+32*j<=id->id<s.nb+32*j+32->g.J id=none/\∀n,g.cur id n=none
 top: ∀id,s.nb+32*ops.size<=id->g.J id=none/\∀n,g.cur id n=none
include hT hΓ
theorem aKX {i0 j0:Nat}{ro:pL}{ops:Array Oper}{es:List qJ}{s:St}{y:vT}(run:a01 T Γ ops.toList ops.toList es s y) (hs: ∀p∈y.side,p) (hchk:UG i0 j0 ops s.nb es=true) (hE:i0<ops.size->i0<j0/\∃ex fx,es[i0]? =some ex/\ex.upd=[]/\es[j0]? =some fx/\∀sk oi,ops.toList[i0]? =some oi->a00 T Γ ops.toList ops.toList es s y i0 oi ex sk->zM T Γ ops.toList oi ⟨sk.env,qS (xO fx) sk.H,sk.nb,sk.N,sk.np⟩=some ex)
  (hQ: ∀g a w env H,AO g w env a.tmps->(∀t,lk env t=lk y.s.env t)->s9 g w H->(∀id,pZ H id=pZ y.s.H id)->a.tmps.size=s.N->zQ B w a.defers->sX A L g0 w0 g w H->(∀id,s.nb+32*ops.size<=id->g.J id=none/\∀n,g.cur id n=none)->Q .normal a w):
  ∀(fuel:Nat) (listed:Array Bool) (g:Gh) (w:pN) (a:Act) (env:List (Nat×pX)) (H:s5),CY listed ops.size<=fuel->Mid B A L g0 w0 ops es s listed g w a env H->wpAnyIn (EY ro) 0 P .any ops Q fuel listed a w:=by
 simp only[UG,aSB] at hchk;obtain⟨haf,hfr⟩:=hchk;have hsz:ops.toList.length=ops.size:=aTd;have done: ∀(listed:Array Bool) (g:Gh) (w:pN) (a:Act) (env:List (Nat×pX)) (H:s5),Mid B A L g0 w0 ops es s listed g w a env H->(∀j,j<ops.size->listed.getD j false=true)->Q .normal a w:=by
  intro listed g w a env H m hall;refine hQ g a w env H m.eok (fun t=>?_) m.heap (fun id=>?_) m.tmps m.def_ m.good m.top
  .rw[m.look t,run.env t,hsz];exact L1 (fun j hj _=>hall j hj)
  rw[m.get id,run.heap id,hsz];exact L1 (fun j hj _=>hall j hj)
 have stuck: ∀(listed:Array Bool),listed.size=ops.size->Region.ready .any ops listed=[]->∀j,j<ops.size->listed.getD j false=true:=by
  intro listed hls hr j hj;cases hp:listed.getD j false with
  |true=>rfl
  |false=>
   obtain⟨k,h1,h2,h3⟩:=aBY (p:=fun j=>listed.getD j false) ⟨j,hj,hp⟩;have:k∈Region.ready .any ops listed:=by
    rw[mem_ready];refine⟨?_,ops[k],by simp [h1],fun e he hb=>?_⟩
    .have h2:listed.getD k false=false:=h2;rw[aST] at h2|-;rw[aUa pC] at h2|-;exact h2
    have:=aBQ haf k ops[k] (by simp [h1]) e he hb;exact h3 e.on pC
   rw[hr] at this;cases this
 intro fuel
 induction fuel with
 |zero=>
  intro listed g w a env H hu m;have hall:=aBW (l:=listed) (n:=ops.size) pC;refine⟨?_,done listed g w a env H m hall⟩;cases hr:Region.ready .any ops listed with
  |nil=>rfl
  |cons i r=>
   have:i∈Region.ready .any ops listed:=by rw[hr];simp
   obtain⟨h0,o,ho,_⟩:=mem_ready.1 this;have hi:i<ops.size:=(aSO.1 ho).1;have:=hall i hi;rw[aST] at this h0;rw[aUa (by rw[m.size];exact hi)] at this h0;simp at this h0;rw[this] at h0;cases h0
 |succ fuel ih=>
  intro listed g w a env H hu m;refine⟨fun hr=>done listed g w a env H m (stuck listed m.size hr),fun i hi=>?_⟩;obtain⟨h0,o,ho,hall⟩:=mem_ready.1 hi;have hin:i<ops.size:=(aSO.1 ho).1;have hil:i<listed.size:=by rw[m.size];exact hin
  have hpi:listed.getD i false=false:=by
   rw[aST] at h0|-;rw[aUa hil] at h0|-;exact h0
  have hoL:ops.toList[i]? =some o:=by simpa using ho
  obtain⟨e,he⟩: ∃e,es[i]? =some e:=⟨es[i]'(by rw[run.len,hsz];exact hin),by simp⟩;obtain⟨sk,st⟩:=run.step i o e hoL he;have hcl':a03 ops.toList (fun j=>(listed.setIfInBounds i true).getD j false):=by
   intro j o' ho' hj ed hed hb;simp only[GD hil] at hj|-;by_cases hji:j=i
   .subst hji;rw[hoL] at ho';obtain rfl:=aSo ho';have:=hall ed hed hb;split
    .rfl
    exact this
   rw[aSl hji] at hj;have:=m.closed j o' ho' hj ed hed hb;split
   .rfl
   exact this
  have hbef: ∀j,((Region.before ops).toList.getD i 0).testBit j=true->j≠i->listed.getD j false=true:=by
   intro j hj hne;have:=aBU hcl' hj (by simp only[GD hil];simp);simp only[GD hil,aSl hne] at this;exact this
  have haft: ∀j,((Region.before ops).toList.getD j 0).testBit i=true->listed.getD j false=true->False:=by
   intro j hj hl;have:=aBU m.closed hj hl;rw[hpi] at this;cases this
  have pairLt: ∀j p f,j<i->ops.toList[j]? =some p->es[j]? =some f->listed.getD j false=true\/(p.apart ops o=true/\(G2 f e=true\/(j=i0/\i=j0))/\KH (s.nb+32*j) e.upd=true):=by
   intro j p f hji hp hf;rcases a02 hfr j i p f o e hji hp hf hoL he with h1|h1
   .rw[aSS,aSS] at h1;exact .inl (hbef j h1 pC)
   rw[aSS,aSS] at h1;exact .inr h1
  have pairGt: ∀j p f,i<j->ops.toList[j]? =some p->es[j]? =some f->listed.getD j false=true->o.apart ops p=true/\(G2 e f=true\/(i=i0/\j=j0)):=by
   intro j p f hij hp hf hl;rcases a02 hfr i j o e p f hij hoL he hp hf with h1|h1
   .rw[aSS,aSS] at h1;exact(haft j h1 hl).elim
   rw[aSS,aSS] at h1;exact⟨h1.1,h1.2.1⟩
  have same: ∀{α:Type}(wr:Nat->Option α) (b:α),(∀j p f,j<i->ops.toList[j]? =some p->es[j]? =some f->wr j≠none->p.apart ops o=true->(G2 f e=true\/(j=i0/\i=j0))->False)->
    (∀j p f,i<j->ops.toList[j]? =some p->es[j]? =some f->wr j≠none->listed.getD j false=true->o.apart ops p=true->(G2 e f=true\/(i=i0/\j=j0))->False)->(∀j,wr j≠none->∃f,es[j]? =some f)->
    uH (fun j=>listed.getD j false) wr b ops.size=uH (fun _=>true) wr b i:=by
   intro α wr b hlt hgt hex;rw[<-a0X (n:=ops.size) pC];refine L1 (fun j hj hw=>?_);obtain⟨f,hf⟩:=hex j hw;have hpj:ops.toList[j]? =some ops[j]:=by simp [hj]
   rcases Nat.lt_trichotomy j i with h1|h1|h1
   .rw[aSN h1];rcases pairLt j _ f h1 hpj hf with h2|h2
    .exact h2
    exact(hlt j _ f h1 hpj hf hw h2.1 h2.2.1).elim
   .subst h1;simp [hpi]
   have: ¬j<i:=by omega
   rw[decide_eq_false this];cases hl:listed.getD j false with
   |false=>rfl
   |true=>
    obtain⟨h2,h3⟩:=pairGt j _ f h1 hpj hf hl;exact(hgt j _ f h1 hpj hf hw hl h2 h3).elim
  have exS: ∀t j,AQ ops.toList es t j≠none->∃f,es[j]? =some f:=by
   intro t j h;unfold AQ at h;cases hf:es[j]? with
   |none=>rw[hf] at h;exact absurd (by split<;>first|rfl|(rename_i h1;cases h1)) h
   |some f=>exact⟨f,rfl⟩
  have exH: ∀t j,xS es t j≠none->∃f,es[j]? =some f:=by
   intro t j h;unfold xS at h;cases hf:es[j]? with
   |none=>rw[hf] at h;exact absurd rfl h
   |some f=>exact⟨f,rfl⟩
  have dS: ∀t j p f,ops.toList[j]? =some p->es[j]? =some f->AQ ops.toList es t j≠none->p.dst=some t:=by
   intro t j p f hp hf h;unfold AQ at h;rw[hp,hf] at h;simp only at h;split at h
   .assumption
   exact absurd rfl h
  have dH: ∀id j f,es[j]? =some f->xS es id j≠none->id∈qB (xO f):=by
   intro id j f hf h;unfold xS at h;rw[hf] at h;simp only at h;split at h
   .assumption
   exact absurd rfl h
  have noW: ∀id j f,es[j]? =some f->xS es id j≠none->j=i0->False:=fun id j f hf hw hj=>by
   subst hj;obtain⟨_,ex,fx,hex,hup,_⟩:=hE (by have:=(aSz.1 hf).1;rw[run.len,hsz] at this;exact this);have:=(NE.1 (dH id j _ hex hw)).1;rw[hup] at this;cases this
  have hrds: ∀id∈e.rds,¬(i=i0/\listed.getD j0 false=true)->pZ H id=pZ sk.H id:=fun id hid hX=>by
   rw[m.get id,st.heap id];refine same _ _ (fun j p f _ hp hf hw _ ha=>?_) (fun j p f _ hp hf hw hl _ ha=>?_) (exH id)
   .rcases ha with ha|ha
    .exact((NH ha).1 id (dH id j f hf hw)).1 hid
    exact noW id j f hf hw ha.1
   rcases ha with ha|ha
   .exact(NH ha).2 id (dH id j f hf hw) hid
   exact hX ⟨ha.1,ha.2▸hl⟩
  have htmp: ∀t∈o.looksAt ops,lk env t=lk sk.env t:=fun t ht=>by
   rw[m.look t,st.env t];refine same _ _ (fun j p f _ hp hf hw ha _=>?_) (fun j p f _ hp hf hw _ ha _=>?_) (exS t)
   .exact(Oper.apart_spec ha).1 t (dS t j p f hp hf hw) ht
   exact(Oper.apart_spec ha).2.2 t (dS t j p f hp hf hw) ht
  have hNs: ∀(s':St) (N':Nat),zM T Γ ops.toList o ⟨s'.env,s'.H,s'.nb,N',s'.np⟩=zM T Γ ops.toList o s':=fun _ _=>rfl;have hev:zM T Γ ops.toList o ⟨env,H,s.nb+32*i,s.N,s.np⟩=some e:=by
   by_cases hX:i=i0/\listed.getD j0 false=true
   .obtain⟨h1,hl0⟩:=hX;subst h1;obtain⟨hij0,ex,fx,hex,hup,hfx,hxe⟩:=hE hin;rw[he] at hex;cases hex;refine a0W (hxe sk o hoL st) (fun t ht=>htmp t ht) (fun id hid=>?_) st.nb.symm st.np.symm;show pZ H id=pZ (qS (xO fx) sk.H) id;have hj0:j0<ops.size:=by
     have:=(aSz.1 hfx).1;rw[run.len,hsz] at this;exact this
    rw[m.get id,VI (p:=fun j=>listed.getD j false&& !decide (j=j0)) (i:=j0) pE (fun j=>by
     by_cases h:j=j0
     .subst h;rw[aSj rfl];exact hl0
     rw[aSl h];simp [h]) hj0 (fun j h1 h2 h3=>?_)]
    .have hrest:uH (fun j=>listed.getD j false&& !decide (j=j0)) (xS es id) (pZ s.H id) ops.size=pZ sk.H id:=by
      rw[st.heap id,<-a0X (n:=ops.size) pC];refine L1 (fun j hj hw=>?_);obtain⟨f,hf⟩:=exH id j hw;have hpj:ops.toList[j]? =some ops[j]:=by simp [hj]
      rcases Nat.lt_trichotomy j i with h1|h1|h1
      .rw[aSN h1];rcases pairLt j _ f h1 hpj hf with h2|h2
       .rw[h2,decide_eq_false pC];rfl
       rcases h2.2.1 with h2|h2
       .exact(((NH h2).1 id (dH id j f hf hw)).1 hid).elim
       omega
      .exact(noW id j f hf hw h1).elim
      have h9: ¬j<i:=by omega
      rw[decide_eq_false h9];cases hl:listed.getD j false with
      |false=>rfl
      |true=>
       obtain⟨_,h3⟩:=pairGt j _ f h1 hpj hf hl;rcases h3 with h3|h3
       .exact((NH h3).2 id (dH id j f hf hw) hid).elim
       rw[aSN h3.2];rfl
     rw[hrest,NF];unfold xS;rw[hfx];simp only;by_cases h7:id∈qB (xO fx)
     .rw[aSj h7,aSj h7,aKV (NE.1 h7).2];rfl
     rw[aSl h7,aSl h7];rfl
    left;have hl:listed.getD j false=true:=by
     cases h:listed.getD j false with
     |true=>rfl
     |false=>rw[h] at h3;cases h3
    cases hw:xS es id j with
    |none=>rfl
    |some v=>
     obtain⟨f,hf⟩:=exH id j (by rw[hw];simp);have hpj:ops.toList[j]? =some ops[j]:=by simp [h2]
     obtain⟨_,h4⟩:=pairGt j _ f pC hpj hf hl;rcases h4 with h4|h4
     .exact((NH h4).2 id (dH id j f hf (by rw[hw];simp)) hid).elim
     omega
   exact a0W st.ev (fun t ht=>htmp t ht) (fun id hid=>hrds id hid hX) st.nb.symm st.np.symm
  have hXu: ∀id,id∈qB e.upd->¬(i=i0/\listed.getD j0 false=true):=fun id hid hX=>by
   obtain⟨h1,_⟩:=hX;subst h1;obtain⟨_,ex,fx,hex,hup,_⟩:=hE hin;rw[he] at hex;cases hex;rw[hup] at hid;cases hid
  have hfresh:xR g (s.nb+32*i) e:=fun id hid hle=>m.free i hin hpi id hle (QI st.ids hid);have key:=aBo hT hΓ (ops:=ops.toList) (o:=o) (a:=a) (s:=⟨env,H,s.nb+32*i,s.N,s.np⟩) (K:=wpAnyIn (EY ro) 0 P .any ops Q fuel (listed.setIfInBounds i true)) (Q:=Q) m.eok m.heap hev (fun p hp=>hs p (st.side p hp)) hfresh (fun g' w' v k=>by
   refine ih (listed.setIfInBounds i true) g' w' (a.put o.dst v) (uL o.dst e.slot env) (qS e.upd H) ?_ ⟨by rw[Array.size_setIfInBounds];exact m.size,hcl',a0R m.eok k.le k.slot m.tmps st.dst,fun t=>?_,k.heap,fun id=>?_,(aBs _ _ _).trans m.tmps,by rw[aBt];exact m.def_.eff m.heap k,m.good.eff k (m.len▸(QG hev).2),m.len,fun j hj hjp id h1 h2=>?_,fun id hid=>?_⟩
   .have:=aBX hil hpi hin;omega
   .rw[aBO,VI (p:=fun j=>listed.getD j false) (i:=i) hpi (fun j=>by simp only[GD hil]) hin (fun j hij hj hl=>?_),<-m.look t]
    .unfold AQ;rw[hoL,he];simp only;split<;>rfl
    have hpj:ops.toList[j]? =some ops[j]:=by simp [hj]
    obtain⟨f,hf⟩: ∃f,es[j]? =some f:=⟨es[j]'(by rw[run.len,hsz];exact hj),by simp⟩;obtain⟨h3,_⟩:=pairGt j _ f hij hpj hf hl;by_cases hw:AQ ops.toList es t j=none
    .exact .inl hw
    right;have hd:=dS t j _ f hpj hf hw;by_cases hwi:AQ ops.toList es t i=none
    .exact hwi
    have hdi:=dS t i _ e hoL he hwi;exact absurd hd ((Oper.apart_spec h3).2.1 t hdi)
   .rw[NF,VI (p:=fun j=>listed.getD j false) (i:=i) hpi (fun j=>by simp only[GD hil]) hin (fun j hij hj hl=>?_),<-m.get id]
    .unfold xS;rw[he];simp only;by_cases h7:id∈qB (xO e)
     .rw[aSj h7,aSj (NE.1 h7).1];rfl
     rw[aSl h7];by_cases h8:id∈qB e.upd
     .obtain⟨q1,q2⟩:=st.same id h8 h7;rw[aSj h8,q1,<-hrds id q2 (hXu id h8)];rfl
     rw[aSl h8];rfl
    have hpj:ops.toList[j]? =some ops[j]:=by simp [hj]
    obtain⟨f,hf⟩: ∃f,es[j]? =some f:=⟨es[j]'(by rw[run.len,hsz];exact hj),by simp⟩;obtain⟨_,h3⟩:=pairGt j _ f hij hpj hf hl;by_cases hw:xS es id j=none
    .exact .inl hw
    right;have hd:=dH id j f hf hw;by_cases hwi:xS es id i=none
    .exact hwi
    have hdi:=dH id i e he hwi;rcases h3 with h3|h3
    .exact absurd (NE.1 hd).1 ((NH h3).1 id hdi).2
    exact(noW id i e he hwi h3.1).elim
   .rw[GD hil] at hjp;have hji:j≠i:=fun h=>by rw[aSj h] at hjp;cases hjp
    rw[aSl hji] at hjp;have hnot:id∉qB e.upd:=by
     intro hm;have hlt:=QI st.ids hm;rcases Nat.lt_or_gt_of_ne hji with h3|h3
     .obtain⟨f,hf⟩: ∃f,es[j]? =some f:=⟨es[j]'(by rw[run.len,hsz];exact hj),by simp⟩;rcases pairLt j ops[j] f h3 (by simp [hj]) hf with h4|h4
      .rw[hjp] at h4;cases h4
      have:=aBR h4.2.2 id hm;omega
     omega
    have hg:=k.gho id hnot;have hb:=m.free j hj hjp id h1 h2;exact⟨hg.1.trans hb.1,fun n=>by rw[hg.2];exact hb.2 n⟩
   have hnot:id∉qB e.upd:=fun hm=>by have:=QI st.ids hm;omega
   have hg:=k.gho id hnot;have hb:=m.top id hid;exact⟨hg.1.trans hb.1,fun n=>by rw[hg.2];exact hb.2 n⟩)
  unfold wpOpIn;rw[ho];simp only[aTW] at key|-;split at key
  .rename_i hw;rw[aSj hw];exact aBx (aBw hev) key
  rename_i hw;rw[aSl hw];exact⟨fun _ _=>trivial,key⟩
theorem aKY {i0 j0:Nat}{ro:pL}(hm:P.follows .mixedOrders=true) {id:Nat}{ops:Array Oper}{s:St}{y:vT}{a:Act}{w:pN}{g:Gh}(h:uO T Γ ops.toList ops.toList (some ⟨s,[],[]⟩)=some y) (hchk:UG i0 j0 ops s.nb y.es.reverse=true) (hE:i0<ops.size->i0<j0/\∃ex fx a1 o1,y.es.reverse[i0]? =some ex/\ex.upd=[]/\y.es.reverse[j0]? =some fx/\ops.toList[i0]? =some o1/\uO T Γ ops.toList (ops.toList.take i0) (some ⟨s,[],[]⟩)=some a1/\zM T Γ ops.toList o1 ⟨a1.s.env,qS (xO fx) a1.s.H,a1.s.nb,a1.s.N,a1.s.np⟩=some ex) (hs: ∀p∈y.side,p) (hr:uP B g w s a) (hg:sX A L g0 w0 g w s.H) (hn:L.length=s.np)
  (hQ: ∀g' a' w',uP B g' w' y.s a'->sX A L g0 w0 g' w' y.s.H->Q .normal a' w'):(Code.region id ops true).wpIn (EY ro) 0 P Q a w:=by
 obtain⟨es,h1,run⟩:=VJ h hs;have hes:y.es.reverse=es:=by rw[h1];simp
 simp only at run;rw[hes] at hchk hE;have hsd:=GC h;have hrep: ∀j,(Array.replicate ops.size false).getD j false=false:=by
  intro j;rw[aST,Array.getElem?_replicate];split<;>rfl
 have none: ∀{α:Type}(wr:Nat->Option α) (b:α) n,uH (fun j=>(Array.replicate ops.size false).getD j false) wr b n=b:=by
  intro α wr b n
  induction n with
  |zero=>rfl
  |succ n ih=>simp only[uH];rw[aSl (by rw[hrep];simp)];exact ih
 have hsz:ops.toList.length=ops.size:=aTd;refine wpIn_region_any hm (aKX hT hΓ run hs hchk (fun hi=>let ⟨c0,ex,fx,a1,o1,c1,c2,c3,c4,c5,c6⟩:=hE hi;⟨c0,ex,fx,c1,c2,c3,aKW run hs c4 c5 hes h c6⟩) (fun g' a' w' env H he hl hh hgt hz hd hgd htop=>?_) _ _ g _ a s.env s.H ?_ ⟨by simp,fun j o ho hj=>?_,fun t=>CX (aBZ g w _) (hr.env t),fun t=>?_,hr.heap.drawn _,fun id=>?_,hr.size,hr.def_.same (fun _ h=>h),hg.drawn _,hn,fun j _ _ id h1 _=>hr.nb id pC,fun id h1=>hr.nb id pC⟩)
 .refine hQ g' a' w' ⟨fun t=>by rw[<-hl t];exact he t,hh.ext (fun i=>(hgt i).symm),by rw[hsd.2.1];exact hz,fun i hi=>htop i ?_,hd,?_⟩ (hgd.ext (fun i=>(hgt i).symm))
  .rw[run.nb,hsz] at hi;exact hi
  rw[hsd.2.2,run.nb];exact aTh hr.np (Nat.le_add_right _ _)
 .have: ∀n (l:Array Bool),CY l n<=n:=by
   intro n l
   induction n with
   |zero=>exact aSE _
   |succ n ih=>simp only[CY];split<;>omega
  exact this _ _
 .simp only[hrep] at hj;cases hj
 .rw[none]
 exact(none _ _ _).symm
end
theorem a06: ∀{l:List Prop},r8 l->∀p∈l,p
 |[p],h,q,hq=>by simp only[aSC] at hq;subst hq;exact h
 |p::q::r,h,x,hx=>by
  rcases aSx.1 hx with rfl|hx
  .exact h.1
  exact a06 h.2 x hx
theorem aB2 {p:Nat->Prop}(h: ∃n,p n): ∃n,p n/\∀m,p m->n<=m:=by
 obtain⟨n,hn⟩:=h
 induction n using Nat.strongRecOn with
 |_ n ih=>
  by_cases hs: ∃m,m<n/\p m
  .obtain⟨m,hm,hp⟩:=hs;exact ih m hm hp
  exact⟨n,hn,fun m hm=>Nat.le_of_not_lt fun hlt=>hs ⟨m,hlt,hm⟩⟩
noncomputable def QJ (p:Nat->Prop):Nat:=open Classical in if h: ∃n,p n then(aB2 h).choose else 0
theorem VL {p:Nat->Prop}(h: ∃n,p n):p (QJ p)/\∀m,p m->QJ p<=m:=by
 unfold QJ;rw[aUe h];exact(aB2 h).choose_spec
def EZ:Exit->Option Ex
 | .normal=>some .normal
 | .exit id=>some (.exit id)
 | .ret=>some .ret
 |_=>none
def aB3 (B:Nat) (A:Nat->Nat->Prop) (L:List pW) (g0:Gh) (w0:pN) (Q:Ex->St->Prop) (x:Exit) (a:Act) (w:pN):Prop:=
 ∃e g s,EZ x=some e/\Q e s/\uP B g w s a/\sX A L g0 w0 g w s.H/\s.np=L.length
section
variable {B:Nat}{P:Program}{T:sI}{Γ:sV}(hT:wY P T) (hΓ:DH P Γ) (hm:P.follows .mixedOrders=true) {A:Nat->Nat->Prop}{L:List pW}{g0:Gh}{w0:pN}
include hT hΓ hm
theorem GE {ro:pL}: ∀(c:Code) (s:St) (Q:Ex->St->Prop) (g:Gh) (a:Act) (w:pN),w9 T Γ c s Q->uP B g w s a->sX A L g0 w0 g w s.H->s.np=L.length->c.wpIn (EY ro) 0 P (aB3 B A L g0 w0 Q) a w
 | .skip,s,Q,g,a,w,h,hr,hg,hn=>by
  unfold w9 at h;exact wpIn_skip ⟨.normal,g,s,rfl,h,hr,hg,hn⟩
 | .label l,s,Q,g,a,w,h,hr,hg,hn=>by
  unfold w9 at h;exact wpIn_label ⟨.normal,g,s,rfl,h,hr,hg,hn⟩
 | .exit id,s,Q,g,a,w,h,hr,hg,hn=>by
  unfold w9 at h;exact wpIn_exit ⟨.exit id,g,s,rfl,h,hr,hg,hn⟩
 | .ret,s,Q,g,a,w,h,hr,hg,hn=>by
  unfold w9 at h;exact wpIn_ret ⟨.ret,g,s,rfl,h,hr,hg,hn⟩
 | .region id ops draw,s,Q,g,a,w,h,hr,hg,hn=>by
  unfold w9 at h;cases draw with
  |false=>
   simp only[PV] at h;cases hy:uO T Γ ops.toList ops.toList (some ⟨s,[],[]⟩) with
   |none=>rw[hy] at h;cases h
   |some y=>
    rw[hy] at h;refine aKF hT hΓ hy (a06 h.1) hr hg hn.symm (fun g' a' w' hr' hg'=>⟨.normal,g',y.s,rfl,h.2,hr',hg',(GC hy).2.2.trans hn⟩)
  |true=>
   simp only[PV] at h;cases hy:uO T Γ ops.toList ops.toList (some ⟨s,[],[]⟩) with
   |none=>rw[hy] at h;cases h
   |some y=>
    rw[hy] at h;simp only[a9S] at h;by_cases hc:KI ops s.nb y.es.reverse=true
    .rw[aSj hc] at h;refine aKY (i0:=ops.size) (j0:=0) hT hΓ hm hy hc (fun h=>absurd h (aT0 _)) (a06 h.1) hr hg hn.symm (fun g' a' w' hr' hg'=>⟨.normal,g',y.s,rfl,h.2,hr',hg',(GC hy).2.2.trans hn⟩)
    .rw[aSl hc] at h;cases h
 | .seq x y,s,Q,g,a,w,h,hr,hg,hn=>by
  unfold w9 at h;refine wpIn_seq (aT2 (GE x s _ g a w h hr hg hn) fun e a' w' hp=>?_);obtain⟨e',g',s',h1,h2,h3,h4,h5⟩:=hp;cases e<;>simp only[EZ,aSk] at h1
  case normal=>subst h1;exact GE y s' Q g' a' w' h2 h3 h4 h5
  case exit id=>subst h1;exact⟨.exit id,g',s',rfl,h2,h3,h4,h5⟩
  case ret=>subst h1;exact⟨.ret,g',s',rfl,h2,h3,h4,h5⟩
  all_goals cases h1
 | .cond c x y,s,Q,g,a,w,h,hr,hg,hn=>by
  unfold w9 at h;have hc:=A2 hr.env c;generalize tU s.env c=sc at h hc;unfold a90 at h;split at h
  .exact wpIn_cond_split (vE hc.1) (fun ht=>GE x s Q g a w (h.1 ht) hr hg hn) (fun ht=>GE y s Q g a w (h.2 ht) hr hg hn)
  .obtain⟨b,hb,hp,hq⟩:=hc.1;exact wpIn_cond_split hb (fun ht=>GE x s Q g a w (h.1 (hp ht)) hr hg hn) (fun ht=>GE y s Q g a w (h.2 (hq ht)) hr hg hn)
  .cases h
 | .block id c,s,Q,g,a,w,h,hr,hg,hn=>by
  unfold w9 at h;refine wpIn_block (aT2 (GE c s _ g a w h hr hg hn) fun e a' w' hp=>?_);obtain⟨e',g',s',h1,h2,h3,h4,h5⟩:=hp;cases e<;>simp only[EZ,aSk] at h1
  case normal=>subst h1;exact⟨.normal,g',s',rfl,h2,h3,h4,h5⟩
  case exit j=>
   subst h1;simp only[KK] at h2;simp only[Exit.inBlock];split
   .rename_i hj;rw[aSj hj] at h2;exact⟨.normal,g',s',rfl,h2,h3,h4,h5⟩
   rename_i hj;rw[aSl hj] at h2;exact⟨.exit j,g',s',rfl,h2,h3,h4,h5⟩
  case ret=>subst h1;exact⟨.ret,g',s',rfl,h2,h3,h4,h5⟩
  all_goals cases h1
 | .loop c,s,Q,g,a,w,h,hr,hg,hn=>by
  unfold w9 at h;obtain⟨k,I,μ,h0,hround⟩:=h;obtain⟨g1,k1,k2,k3,_⟩:=GB hr hg hn k
  let R:Act->pN->Nat->Prop:=fun a w n=> ∃g s,I s/\μ s=n/\uP B g w s a/\sX A L g0 w0 g w s.H/\s.np=L.length
  refine wpIn_loop (fun a w=> ∃n,R a w n) (fun a w=>QJ (R a w)) ⟨_,g1,s.keep k,h0,rfl,k1,k2,k3⟩ (fun a w hI=>?_);obtain⟨⟨g2,s2,i1,i2,i3,i4,i5⟩,_⟩:=VL hI;refine aT2 (GE c s2 _ g2 a w (hround s2 i1) i3 i4 i5) fun e a' w' hp=>?_;obtain⟨e',g',s',h1,h2,h3,h4,h5⟩:=hp;cases e<;>simp only[EZ,aSk] at h1
  case normal=>
   subst h1;obtain⟨k',j1,j2⟩:=h2;obtain⟨g3,l1,l2,l3,_⟩:=GB h3 h4 h5 k';have hR:R a' w' (μ (s'.keep k')):=⟨g3,s'.keep k',j1,rfl,l1,l2,l3⟩;refine⟨⟨_,hR⟩,Nat.lt_of_le_of_lt ((VL ⟨_,hR⟩).2 _ hR) (by rw[<-i2];exact j2)⟩
  case exit id=>subst h1;exact⟨.exit id,g',s',rfl,h2,h3,h4,h5⟩
  case ret=>subst h1;exact⟨.ret,g',s',rfl,h2,h3,h4,h5⟩
  all_goals cases h1
 | .rangeFunc _ _ _ _,_,_,_,_,_,h,_,_,_=>by unfold w9 at h;cases h
 | .scope _,_,_,_,_,_,h,_,_,_=>by unfold w9 at h;cases h
 | .goto _,_,_,_,_,_,h,_,_,_=>by unfold w9 at h;cases h
 | .refuse _,_,_,_,_,_,h,_,_,_=>by unfold w9 at h;cases h
end
section
variable {f:St->Prop}{Q:Ex->St->Prop}{s:St}{id j:Nat}{I:St->Prop}{μ:St->Nat}{m:Nat}
theorem q9 (h:f s):PY f Q .normal s:=h
theorem t7 (h:Q (.exit j) s):PY f Q (.exit j) s:=h
theorem qP (h:Q .ret s):PY f Q .ret s:=h
theorem rL (h:Q .normal s):KK id Q .normal s:=h
theorem t8 (h:Q .normal s):KK id Q (.exit id) s:=by show (if id=id then Q .normal s else Q (.exit id) s);rw[aSj rfl];exact h
theorem r9 (h:Q .ret s):KK id Q .ret s:=h
end
@[go_sem] def rP:Nat->List pX->List (Nat×pX)
 |_,[]=>[]
 |c,s::r=>(c,s)::rP (c+1) r
@[go_sem] def vL:Nat->List pW->pH
 |_,[]=>[]
 |c,_::L=>(c,c)::vL (c+1) L
@[go_sem] def QK (m:pH):List pX->Prop
 |[]=>True
 |s::r=>zX m s=s/\QK m r
@[go_sem] def L2 (m:pH):List pW->Prop
 |[]=>True
 | .dead::_=>False
 |b::r=>yV m (some b)=b/\L2 m r
def rQ:List pW->Prop
 |[]=>True
 | .row _ _ l n::r=>n=List.length l/\rQ r
 |_::r=>rQ r
theorem aB4 {g:Gh}{w:pN}: ∀{L:List pW},(∀(i:Nat) b,L[i]? =some b->∃j,zZ g w j b)->rQ L
 |[],_=>trivial
 |b::L,h=>by
  have h1:=aB4 (L:=L) fun i b' hb=>h (i+1) b' (by simpa using hb);obtain⟨j,h0⟩:=h 0 b rfl;cases b with
  |row e t l n=>exact⟨h0.1.symm,h1⟩
  |_=>exact h1
def a07:pJ->pO
 |[v]=>v
 |l=> .tuple l.toArray
@[go_sem] def aB5 (env:List (Nat×pX)):pM->List pX
 |[]=>[]
 |t::r=>lk env t::aB5 env r
attribute [go_sem] qQ
@[go_sem] def aKZ:pX->Int
 |(.val (.int _) n,_)=>n
 |_=>0
@[go_sem] def Fin (ts:pM) (r:qI):Ex->St->Prop
 | .exit _,_=>False
 |_,s=> ∃k:w4,(s.keep k).H=qQ 0 r.H/\aB5 (s.keep k).env ts=r.ret
theorem aB6: ∀(l:List pX) (c t:Nat),lk (rP c l) t=if c<=t then(l[t-c]?).getD (.any,none) else(.any,none)
 |[],c,t=>by simp [rP,lk]
 |s::l,c,t=>by
  simp only[rP,lk];by_cases h:c=t
  .subst h;simp
  rw[aSl h,aB6 l (c+1) t];by_cases h2:c<=t
  .rw[aSj h2,aSj pC];obtain⟨d,hd⟩: ∃d,t-c=d+1:=⟨t-c-1,pC⟩;rw[hd,aS7,show t- (c+1)=d by omega]
  rw[aSl h2,aSl pC]
theorem NI: ∀{L:List pW}{c i j:Nat},(i,j)∈vL c L↔i=j/\c<=i/\i<c+L.length
 |[],c,i,j=>by simp only[vL,aTK,aSG,false_iff];omega
 |b::L,c,i,j=>by
  simp only[vL,aSx,aSP,NI,aSq];omega
theorem VM: ∀{L:List pW}{c:Nat},wV 0 (vL c L)=true
 |[],_=>rfl
 |b::L,c=>by
  simp only[vL,wV,aSB];refine⟨⟨by simp,?_⟩,VM⟩;have: ∀{m:pH},(∀i j,(i,j)∈m->i≠c/\j≠c)->N7 c c m=false:=by
   intro m
   induction m with
   |nil=>intro _;rfl
   |cons q m ih=>
    intro h;obtain⟨i,j⟩:=q;have:=h i j pE;simp only[N7,ih (fun i j hm=>h i j (aSy _ hm)),decide_eq_false this.1,decide_eq_false this.2];rfl
  rw[this]
  .rfl
  intro i j hm;obtain⟨rfl,h1,_⟩:=NI.1 hm;omega
theorem aB7 {m:pH}: ∀{l:List pX},QK m l->∀s∈l,zX m s=s
 |x::l,h,s,hs=>by
  rcases aSx.1 hs with rfl|hs
  .exact h.1
  exact aB7 h.2 s hs
theorem L3 {m:pH}: ∀{l:List pW},L2 m l->∀b∈l,yV m (some b)=b/\b≠.dead
 |x::l,h,b,hb=>by
  cases x with
  |dead=>exact h.elim
  |cells t y ts=>
   rcases aSx.1 hb with rfl|hb
   .exact⟨h.1,fun h=>by cases h⟩
   .exact L3 h.2 b hb
  |row e t l n=>
   rcases aSx.1 hb with rfl|hb
   .exact⟨h.1,fun h=>by cases h⟩
   .exact L3 h.2 b hb
  |map k v l=>
   rcases aSx.1 hb with rfl|hb
   .exact⟨h.1,fun h=>by cases h⟩
   .exact L3 h.2 b hb
  |iter s n=>
   rcases aSx.1 hb with rfl|hb
   .exact⟨h.1,fun h=>by cases h⟩
   .exact L3 h.2 b hb
  |grow e c n=>
   rcases aSx.1 hb with rfl|hb
   .exact⟨h.1,fun h=>by cases h⟩
   exact L3 h.2 b hb
theorem VN {g:Gh}{w:pN}: ∀{ss:List pX}{vs:pJ},vG g w ss vs->vs.length=ss.length/\∀(i:Nat) s,ss[i]? =some s->∃v,vs[i]? =some v/\rF g w s v
 |[],vs,h=>by rw[show vs=[] from h];exact⟨rfl,fun i s h=>by simp at h⟩
 |s::ss,vs,⟨v,vs',e,h1,h2⟩=>by
  subst e;obtain⟨h3,h4⟩:=VN h2;refine⟨by simp [h3],fun i s' hi=>?_⟩;cases i with
  |zero=>simp only[aSY,aSk] at hi;subst hi;exact⟨v,rfl,h1⟩
  |succ i=>simp only[aS7] at hi|-;exact h4 i s' hi
theorem VO: ∀(L:List pW),qV L=L.length
 |[]=>rfl
 |_::L=>by simp only[qV,aSq,VO L]
theorem aK0 {g:Gh}{w:pN}{args:List pX}{vals:pJ}{L:List pW}{N:Nat}(hH:s9 g w (qQ 0 L)) (ha:vG g w args vals) (hs:QK (vL 0 L) args) (hb:L2 (vL 0 L) L) (hN:args.length<=N):
  uP w.heap.size (u6 g 0 (vL 0 L)) w ⟨rP 0 args,qQ 0 L,qV L,N,qV L⟩ {tmps:=vals.toArray++Array.replicate (N-vals.toArray.size) undef,defers:=[]}/\
  (∀i blk,L[i]? =some blk->(u6 g 0 (vL 0 L)).J i=g.J i/\zZ (u6 g 0 (vL 0 L)) w i blk/\∀b o,s8 (u6 g 0 (vL 0 L)) i blk b o->s8 g i blk b o):=by
 have hk:wV 0 (vL 0 L)=true:=VM;have hmem: ∀i blk,L[i]? =some blk->(i,i)∈vL 0 L:=fun i blk h=>NI.2 ⟨rfl,pC,by have:=(aSz.1 h).1;omega⟩;have hblk: ∀i blk,L[i]? =some blk->zZ (u6 g 0 (vL 0 L)) w i blk/\∀b o,s8 (u6 g 0 (vL 0 L)) i blk b o->s8 g i blk b o:=by
  intro i blk h;have hr:=(L3 hb blk (List.mem_of_getElem? h)).1;have:=KZ (g:=g) (w:=w) hk (hmem i blk h) (b:=some blk) (fun c hc=>by cases hc;exact hH.blk i blk (by rw[x8];exact h));rw[hr] at this;exact⟨this.1,fun b o ho=>by obtain⟨c,hc,hco⟩:=this.2 b o ho;cases hc;exact hco⟩
 obtain⟨hl,hv⟩:=VN ha;refine⟨⟨fun t=>?_,⟨fun i b h=>?_,fun i j bi bj b o hij h1 h2 o1 o2=>?_,hH.sl,hH.tab.1,fun i blk b o hg ho=>hH.tab.2 i blk b o hg ((hblk i blk (by rw[<-x8];exact hg)).2 b o ho)⟩,?_,fun i hi=>?_,aBm _ _,aSE _⟩,fun i blk h=>⟨(yX hk (hmem i blk h)).1,hblk i blk h⟩⟩
 .rw[aB6,aSj (aTg _),Nat.sub_zero];cases ht:args[t]? with
  |none=>exact⟨trivial,trivial⟩
  |some s=>
   obtain⟨v,hv1,hv2⟩:=hv t s ht;have hlt:t<vals.length:=(aSz.1 hv1).1;have:(vals.toArray++Array.replicate (N-vals.toArray.size) undef).getD t undef=v:=by
    rw[aST,Array.getElem?_append_left (by simpa using hlt)];simp [hv1]
   simp only[aTJ];rw[this];have:=VG hk hv2;rw[aB7 hs s (List.mem_of_getElem? ht)] at this;exact this
 .rw[x8] at h;exact(hblk i b h).1
 .rw[x8] at h1 h2;exact hH.dis i j bi bj b o hij (by rw[x8];exact h1) (by rw[x8];exact h2) ((hblk i bi h1).2 b o o1) ((hblk j bj h2).2 b o o2)
 .simp only[aUp,Array.size_replicate,aTo];omega
 have hold:zR (vL 0 L) i=none:=by
  cases ho:zR (vL 0 L) i with
  |none=>rfl
  |some o=>
   obtain⟨rfl,_,h2⟩:=NI.1 (a0P ho);have hi:qV L<=i:=hi;rw[VO] at hi;omega
 refine⟨?_,fun n=>?_⟩
 .show (if i<0 then g.J i else(zR (vL 0 L) i).bind g.J)=none;rw[aSl pC,hold];rfl
 show (if i<0 then g.cur i n else(zR (vL 0 L) i).bind fun o=>g.cur o n)=none;rw[aSl pC,hold];rfl
structure uQ (B:Nat) (w w':pN):Prop where
 os:w'.os=w.os
 tape:w'.tape=w.tape
 output:w'.output=w.output
 size:w.heap.size<=w'.heap.size
 blk: ∀b,b<w.heap.size->w'.heap[b]? =w.heap[b]? \/(B<=b/\NG<=b/\∃o o',w.heap[b]? =some o/\w'.heap[b]? =some o'/\GA o=true/\GA o'=true)
theorem aB8 {w:pN}{b:Nat}{ob:Obj}(hd:w.heap[b]? =some ob) (hm:GA ob=true) (o:Nat):w.frozen? ⟨b,o,none⟩=false:=by
 unfold World.frozen?;simp only[hd];cases ob<;>first|rfl|cases hm
theorem aK1 {w:pN}{b:Nat}{ob:Obj}(hd:w.heap[b]? =some ob) (hm:GA ob=true):w.shape? b=none:=by
 unfold World.shape?;simp only[hd];cases ob<;>first|rfl|cases hm
section
variable {B:Nat}{w w' w'':pN}
theorem uQ.refl (B:Nat) (w:pN):uQ B w w:=⟨rfl,rfl,rfl,aSE _,fun _ _=> .inl rfl⟩
theorem uQ.trans (h:uQ B w w') (k:uQ B w' w''):uQ B w w'':=by
 refine⟨k.os.trans h.os,k.tape.trans h.tape,k.output.trans h.output,aTh h.size k.size,fun b hb=>?_⟩;rcases k.blk b (aSW hb h.size) with k1|⟨k0,k1,o,o',k2,k3,k4,k5⟩
 .rcases h.blk b hb with h1|⟨h0,h1,o,o',h2,h3,h4,h5⟩
  .exact .inl (k1.trans h1)
  exact .inr ⟨h0,h1,o,o',h2,k1.trans h3,h4,h5⟩
 rcases h.blk b hb with h1|⟨h0,h1,p,p',h2,h3,h4,h5⟩
 .exact .inr ⟨k0,k1,o,o',h1▸k2,k3,k4,k5⟩
 exact .inr ⟨h0,h1,p,o',h2,k3,h4,k5⟩
theorem uQ.cell (t:uQ B w w') {b:Nat}(hb:b<w.heap.size) (o:Nat):w'.cell? ⟨b,o,none⟩=w.cell? ⟨b,o,none⟩/\w'.frozen? ⟨b,o,none⟩=w.frozen? ⟨b,o,none⟩:=by
 rcases t.blk b hb with h|⟨_,_,o1,o2,h1,h2,m1,m2⟩
 .exact⟨aSH h,by unfold World.frozen?;simp only[h]⟩
 exact⟨by rw[a0L h1 m1,a0L h2 m2],by rw[aB8 h1 m1,aB8 h2 m2]⟩
theorem uQ.shape (t:uQ B w w') {b:Nat}{s:TypeId×Nat}(h:w.shape? b=some s):w'.shape? b=some s:=by
 have hb:b<w.heap.size:=by
  unfold World.shape? at h;cases hx:w.heap[b]? with
  |none=>rw[hx] at h;cases h
  |some _=>exact(aSO.1 hx).1
 rcases t.blk b hb with k|⟨_,_,o1,o2,h1,h2,m1,m2⟩
 .unfold World.shape? at h|-;rw[k];exact h
 rw[aK1 h1 m1] at h;cases h
theorem uQ.le (t:uQ B w w') {g:Gh}(hs: ∀b o,g.S b o->b<w.heap.size):Le g w g w':=⟨fun _ _ h=>h,fun b o h=>(t.cell (hs b o h) o).1,fun _ _ h=>h,fun _ _ _ h=>h⟩
theorem uQ.heapOk (t:uQ B w w') {g:Gh}{H:s5}(h:s9 g w H):s9 g w' H:=by
 have own: ∀{i blk b o},pZ H i=some blk->s8 g i blk b o->w'.heap[b]? =w.heap[b]? :=fun hg ho=>by
  rcases t.blk _ (KO (h.blk _ _ hg) ho) with k|⟨_,_,o1,o2,h1,_,m1,_⟩
  .exact k
  exact(VD (h.blk _ _ hg) ho h1 m1).elim
 refine⟨fun i blk hb=>I4 (h.blk i blk hb) (t.le h.sl) rfl rfl (fun b o ho=>t.cell (KO (h.blk i blk hb) ho) o) (fun b ho=>own hb (ho 0)) (fun _ _ _ x=>x) (fun b o s _ x=>t.shape x),h.dis,fun b o x=>aSW (h.sl b o x) t.size,HO h.tab.1 t.size (fun b hb=>?_),h.tab.2⟩;rcases t.blk b (aSW hb h.tab.1.1) with k|⟨_,k,_⟩
 .exact k
 omega
theorem uP.turn {g:Gh}{s:St}{a:Act}{ds:List Deferred}(h:uP B g w s a) (t:uQ B w w') (hd:zQ B w' ds):uP B g w' s {a with defers:=ds}:=
 ⟨fun x=>CX (t.le h.heap.sl) (h.env x),t.heapOk h.heap,h.size,h.nb,hd,h.np⟩
theorem sX.turn {A:Nat->Nat->Prop}{L:List pW}{g0 g:Gh}{w0:pN}{H:s5}(h:sX A L g0 w0 g w H) (hs: ∀b o,g.S b o->b<w.heap.size) (t:uQ w0.heap.size w w'):sX A L g0 w0 g w' H:=by
 refine⟨fun b o x=>⟨(h.shut b o x).1,(t.cell (hs b o (h.shut b o x).1) o).1.trans (h.shut b o x).2⟩,⟨t.os.trans h.fr.os,t.tape.trans h.fr.tape,t.output.trans h.fr.output,aTh h.fr.size t.size,fun b hb hA=>?_,fun b o hb hA=>?_,h.fr.new,fun b s x=>?_⟩,h.perm,h.J,h.live,h.ty,h.cur⟩
 .rcases t.blk b (aSW hb h.fr.size) with k|⟨k,_⟩
  .exact k.trans (h.fr.blk b hb hA)
  omega
 .have:=t.cell (aSW hb h.fr.size) o;have k:=h.fr.cell b o hb hA;exact⟨this.1.trans k.1,this.2.trans k.2⟩
 rcases h.fr.shape b s x with k|k
 .exact .inl (t.shape k)
 exact .inr k
end
theorem aB9 {P:Program}{fn:Func}{R:Ending->pN->Prop}{A:Nat->Nat->Prop}{L:List pW}{g0 g:Gh}{w0:pN}{s:St}{tmps:Array pO}: ∀(ds:List Deferred) (w:pN),uP w0.heap.size g w s {tmps:=tmps,defers:=ds}->sX A L g0 w0 g w s.H->
  (∀w',uP w0.heap.size g w' s {tmps:=tmps,defers:=[]}->sX A L g0 w0 g w' s.H->∃v,(results fn tmps).run P w'= .ok v w'/\R (.returned v) w')->LeavesInM Fence.wide 0 P fn tmps R ds .returning w
 |[],w,hr,hg,h=>h w hr hg
 |d::ds,w,hr,hg,h=>by
  obtain⟨hnd,hall⟩:=hr.def_;obtain⟨D,rfl,h1,h2,h3⟩:=hall d aSJ;have hlt:=(aSO.1 h3).1;have t:uQ w0.heap.size w (w.putObj D (.deferred none)):=by
   refine⟨rfl,rfl,rfl,by simp [World.putObj],fun b hb=>?_⟩;by_cases e:b=D
   .subst e;exact .inr ⟨h1,h2,_,_,h3,World.putObj_heap_same hlt,rfl,rfl⟩
   exact .inl (World.putObj_heap_other e)
  have hd:zQ w0.heap.size (w.putObj D (.deferred none)) ds:=by
   refine⟨(List.nodup_cons.1 hnd).2,fun d' hd'=>?_⟩;obtain⟨D',rfl,k1,k2,k3⟩:=hall d' (aSy _ hd');refine⟨D',rfl,k1,k2,?_⟩;rw[World.putObj_heap_other (fun e:D'=D=>(List.nodup_cons.1 hnd).1 (by subst e;exact hd'))];exact k3
  exact⟨by simp,.inl ⟨D,_,rfl,run_takeDeferred h3,aB9 ds _ (hr.turn t hd) (hg.turn hr.heap.sl t) h⟩⟩
def Ev (R:Bool) (P:Program) (c:Code) (s:St) (Q:Ex->St->Prop):Prop:=
 ∀(ro:pL),ro.isSome=R->
 ∀(A:Nat->Nat->Prop) (L:List pW) (g0:Gh) (w0:pN) (g:Gh) (a:Act) (w:pN) (B:Nat),B<=w0.heap.size->uP B g w s a->sX A L g0 w0 g w s.H->s.np=L.length->c.wpIn (EY ro) 0 P (aB3 B A L g0 w0 Q) a w
variable {R:Bool}
theorem aCa {P:Program}{T:sI}{Γ:sV}(hT:wY P T) (hΓ:DH P Γ) (hm:P.follows .mixedOrders=true) {c:Code}{s:St}{Q:Ex->St->Prop}(h:w9 T Γ c s Q):Ev R P c s Q:=
 fun ro hro A L g0 w0 g a w B hB hr hg hn=>GE hT hΓ hm c s Q g a w h hr hg hn
structure qW (P:Program) (T:sI) (Γ:sV):Prop where
 T:wY P T
 Γ:DH P Γ
 m:P.follows .mixedOrders=true
@[go_sem] def skS (l:pM) (Γ:sV) (f:Nat):Option r7:=if zV f l=true then some ⟨[],fun _ _=>none,[],[],none⟩ else Γ f
theorem VP {P:Program}{T:sI}{Γ:sV}{l:pM}(h:qW P T Γ) (hl:(l.all fun k=>decide (1000000000<=k))=true):qW P T (skS l Γ):=
 ⟨h.T,fun f s hlt hs=>by
  unfold skS at hs;split at hs
  .rename_i hm;have:=aS1 (aT3.1 hl f (G7.1 hm));omega
  exact h.Γ f s hlt hs,h.m⟩
theorem aK2 {P:Program}{c:Code}{s:St}{Q Q':Ex->St->Prop}(h:Ev R P c s Q') (hq: ∀e s,Q' e s->Q e s):Ev R P c s Q:=by
 intro ro hro A L g0 w0 g a w B hB hr hg hn;refine aT2 (h ro hro A L g0 w0 g a w B hB hr hg hn) fun x a' w' hp=>?_;obtain⟨e,g',s',h1,h2,h3,h4,h5⟩:=hp;exact⟨e,g',s',h1,hq e s' h2,h3,h4,h5⟩
theorem aK3 {P:Program}{c:Code}{s:St}{Q:Ex->St->Prop}(k:w4) (h:Ev R P c (s.keep k) Q):Ev R P c s Q:=by
 intro ro hro A L g0 w0 g a w B hB hr hg hn;obtain⟨g1,k1,k2,k3,_⟩:=GB hr hg hn k;exact h ro hro A L g0 w0 g1 a w B hB k1 k2 k3
section
variable {P:Program}{s:St}{Q:Ex->St->Prop}
theorem qM (h:Q .normal s):Ev R P .skip s Q:=fun _ _ _ _ _ _ g _ _ _ _ hr hg hn=>wpIn_skip ⟨.normal,g,s,rfl,h,hr,hg,hn⟩
theorem tA {id:Nat}(h:Q (.exit id) s):Ev R P (.exit id) s Q:=fun _ _ _ _ _ _ g _ _ _ _ hr hg hn=>wpIn_exit ⟨.exit id,g,s,rfl,h,hr,hg,hn⟩
theorem qC (h:Q .ret s):Ev R P .ret s Q:=fun _ _ _ _ _ _ g _ _ _ _ hr hg hn=>wpIn_ret ⟨.ret,g,s,rfl,h,hr,hg,hn⟩
theorem qD {x y:Code}(h:Ev R P x s (PY (fun s'=>Ev R P y s' Q) Q)):Ev R P (.seq x y) s Q:=by
 intro ro hro A L g0 w0 g a w B hB hr hg hn;refine wpIn_seq (aT2 (h ro hro A L g0 w0 g a w B hB hr hg hn) fun e a' w' hp=>?_);obtain⟨e',g',s',h1,h2,h3,h4,h5⟩:=hp;cases e<;>simp only[EZ,aSk] at h1
 case normal=>subst h1;exact h2 ro hro A L g0 w0 g' a' w' B hB h3 h4 h5
 case exit id=>subst h1;exact⟨.exit id,g',s',rfl,h2,h3,h4,h5⟩
 case ret=>subst h1;exact⟨.ret,g',s',rfl,h2,h3,h4,h5⟩
 all_goals cases h1
theorem aK4 {c:Operand}{x y:Code}{b:Bool}{k:pL}(h:tU s.env c=(.val .bool b,k)) (ht:b=true->Ev R P x s Q) (hf:b=false->Ev R P y s Q):Ev R P (.cond c x y) s Q:=by
 intro ro hro A L g0 w0 g a w B hB hr hg hn;have hc:=A2 hr.env c;rw[h] at hc;exact wpIn_cond_split (vE hc.1) (fun e=>ht e ro hro A L g0 w0 g a w B hB hr hg hn) (fun e=>hf e ro hro A L g0 w0 g a w B hB hr hg hn)
theorem aK5 {c:Operand}{x y:Code}{p q:Prop}{k:pL}(h:tU s.env c=(.flag p q,k)) (ht:p->Ev R P x s Q) (hf:q->Ev R P y s Q):Ev R P (.cond c x y) s Q:=by
 intro ro hro A L g0 w0 g a w B hB hr hg hn;have hc:=A2 hr.env c;rw[h] at hc;obtain⟨b,hb,hp,hq⟩:=hc.1;exact wpIn_cond_split hb (fun e=>ht (hp e) ro hro A L g0 w0 g a w B hB hr hg hn) (fun e=>hf (hq e) ro hro A L g0 w0 g a w B hB hr hg hn)
theorem rN {id:Nat}{c:Code}(h:Ev R P c s (KK id Q)):Ev R P (.block id c) s Q:=by
 intro ro hro A L g0 w0 g a w B hB hr hg hn;refine wpIn_block (aT2 (h ro hro A L g0 w0 g a w B hB hr hg hn) fun e a' w' hp=>?_);obtain⟨e',g',s',h1,h2,h3,h4,h5⟩:=hp;cases e<;>simp only[EZ,aSk] at h1
 case normal=>subst h1;exact⟨.normal,g',s',rfl,h2,h3,h4,h5⟩
 case exit j=>
  subst h1;simp only[KK] at h2;simp only[Exit.inBlock];split
  .rename_i hj;rw[aSj hj] at h2;exact⟨.normal,g',s',rfl,h2,h3,h4,h5⟩
  rename_i hj;rw[aSl hj] at h2;exact⟨.exit j,g',s',rfl,h2,h3,h4,h5⟩
 case ret=>subst h1;exact⟨.ret,g',s',rfl,h2,h3,h4,h5⟩
 all_goals cases h1
end
@[go_sem] def a08 (k:Nat) (t:Ty) (l:List t.den):pX->pX
 |(.own j m,x)=>if j=k then(.val (.list t) l,some k) else(.own j m,x)
 |s=>s
@[go_sem] def QL (k:Nat) (t:Ty) (l:List t.den):List (Nat×pX)->List (Nat×pX)
 |[]=>[]
 |(i,s)::r=>(i,a08 k t l s)::QL k t l r
@[go_sem] def aCc (k n:Nat):pX->Prop
 |(.own j m,_)=>j=k->m=n
 |_=>True
@[go_sem] def a09 (k n:Nat):List (Nat×pX)->Prop
 |[]=>True
 |(_,s)::r=>aCc k n s/\a09 k n r
theorem aCd {k:Nat}{t:Ty}{l:List t.den}: ∀{env:List (Nat×pX)}{i:Nat},lk (QL k t l env) i=a08 k t l (lk env i)
 |[],i=>rfl
 |(j,s)::r,i=>by
  simp only[QL,lk];split
  .rfl
  exact aCd
theorem aCe {k n:Nat}: ∀{env:List (Nat×pX)}{i:Nat},a09 k n env->aCc k n (lk env i)
 |[],i,_=>trivial
 |(j,s)::r,i,⟨h1,h2⟩=>by
  simp only[lk];split
  .exact h1
  exact aCe h2
theorem a1a {P:Program}{c:Code}{s:St}{Q:Ex->St->Prop}(k:Nat) {e:TypeId}{t:Ty}{l:List t.den}{n:Nat}(hk:pZ s.H k=some (.row e t l n)) (hok:a09 k n s.env)
  (h:Ev R P c ⟨QL k t l s.env,(k,.grow e t.cells (List.length l))::s.H,s.nb,s.N,s.np⟩ Q):Ev R P c s Q:=by
 intro ro hro A L g0 w0 g a w B hB hr hg hn;obtain⟨hl,v,xs,hv,hown,hF,hnone,hseal⟩:=hr.heap.blk k _ hk
 let g':Gh:={g with S:=fun b o=>g.S b o\/(v.ownBlock=some b/\o<n*t.cells)}
 have le:Le g w g' w:=⟨fun _ _ h=> .inl h,fun _ _ _=>rfl,fun _ _ h=>h,fun _ _ _ h=>h⟩;have hown2: ∀b,v.ownBlock=some b->∀o,s8 g k (.row e t l n) b o:=fun b hb o=>⟨v,hv,hb⟩;have hlist: ∀u,g.cur k n=some u->((u= .slice none 0 0/\n=0)\/∃b cap,u= .slice (some ⟨b,0,none⟩) n cap/\n<=cap)->sW g' w (.list t) l u:=by
  intro u hu hshape;rw[hv] at hu;obtain rfl:=aSo hu;rcases hshape with⟨rfl,h0⟩ |⟨b,cap,rfl,hcap⟩
  .have:l=[]:=aSQ (by rw[hl,h0]);subst this;exact .inr ⟨rfl,none,0,rfl,aSE _,.inl rfl⟩
  refine .inr ⟨rfl,some ⟨b,0,none⟩,cap,by rw[hl],by rw[hl];exact hcap,.inr ⟨b,0,rfl,I6 (CC (fun _ _ h=>wA le h) hF) (fun j u hu=>?_) (fun j hj=>?_)⟩⟩
  .have:=hown.cells (g:=b) rfl j u hu;rwa [aTp] at this
  right;exact⟨rfl,by rw[hl] at hj;omega⟩
 have hget: ∀i b,pZ ((k,pW.grow e t.cells (List.length l))::s.H) i=some b->(i=k/\b= .grow e t.cells (List.length l))\/(i≠k/\pZ s.H i=some b):=by
  intro i b hb;simp only[pZ] at hb;split at hb
  .rename_i e1;exact .inl ⟨e1.symm,(aSo hb).symm⟩
  rename_i e1;exact .inr ⟨Ne.symm e1,hb⟩
 have howns: ∀i b bb o,pZ ((k,pW.grow e t.cells (List.length l))::s.H) i=some b->s8 g' i b bb o->∃b0,pZ s.H i=some b0/\s8 g i b0 bb o:=by
  intro i b bb o hb ho;rcases hget i b hb with⟨rfl,rfl⟩ |⟨_,h1⟩
  .obtain⟨u,hu,hub⟩:=ho;have hu':g.cur i (List.length l)=some u:=hu;rw[hl] at hu';exact⟨_,hk,u,hu',hub⟩
  exact⟨b,h1,(wW (g':=g') (g:=g) rfl rfl).1 ho⟩
 have hrel:uP B g' w ⟨QL k t l s.env,(k,.grow e t.cells (List.length l))::s.H,s.nb,s.N,s.np⟩ a:=by
  refine⟨fun i=>?_,⟨fun i b hb=>?_,fun i j bi bj b o hij h1 h2 o1 o2=>?_,fun b o hS=>?_,hr.heap.tab.1,fun i b bb oo hb ho=>by
   obtain⟨c1,k1,k2⟩:=howns i b bb oo hb ho;exact hr.heap.tab.2 i c1 bb oo k1 k2⟩,hr.size,hr.nb,hr.def_,hr.np⟩
  .rw[aCd];have h1:=hr.env i;have h2:=aCe (i:=i) hok;generalize lk s.env i=sl at h1 h2;obtain⟨d,x⟩:=sl;cases d with
   |own j m=>
    simp only[a08];split
    .rename_i hj;subst hj;have hm:m=n:=h2 rfl;subst hm;refine⟨hlist _ h1.1.1 h1.1.2,?_⟩;show g'.cur j (List.length l)=_;rw[hl];exact h1.1.1
    .exact CX le h1
   |_=>exact CX le h1
  .rcases hget i b hb with⟨rfl,rfl⟩ |⟨hne,h1⟩
   .refine⟨v,xs,by rw[hl];exact hv,by rw[hl];exact hown,fun m hm=>hnone m (by rw[hl] at hm;exact hm),fun b hb o hS=>?_⟩;rw[hl];rcases hS with hS|hS
    .exact absurd hS (hseal b hb o)
    exact hS.2
   exact I4 (hr.heap.blk i b h1) le rfl rfl (fun _ _ _=>⟨rfl,rfl⟩) (fun _ _=>rfl) (fun bb o ho hS=>by
    rcases hS with hS|hS
    .exact hS
    exact absurd (hown2 bb hS.1 o) (fun h5=>hr.heap.dis i k b _ bb o hne h1 hk ho h5)) (fun _ _ _ _ h=>h)
  .obtain⟨c1,k1,k2⟩:=howns i bi b o h1 o1;obtain⟨c2,k3,k4⟩:=howns j bj b o h2 o2;exact hr.heap.dis i j c1 c2 b o hij k1 k3 k2 k4
  rcases hS with hS|hS
  .exact hr.heap.sl b o hS
  exact KN hown hS.1
 have hgood:sX A L g0 w0 g' w ((k,.grow e t.cells (List.length l))::s.H):=by
  refine⟨fun b o h0=>⟨.inl (hg.shut b o h0).1,(hg.shut b o h0).2⟩,⟨hg.fr.os,hg.fr.tape,hg.fr.output,hg.fr.size,hg.fr.blk,hg.fr.cell,fun b o hS=>?_,hg.fr.shape⟩,fun i b bb o hb ho=>?_,hg.J,hg.live,fun i u y us hi hb=>?_,hg.cur⟩
  .rcases hS with hS|hS
   .exact hg.fr.new b o hS
   exact .inr (hg.perm k _ b o hk (hown2 b hS.1 o))
  .obtain⟨c1,k1,k2⟩:=howns i b bb o hb ho;exact hg.perm i c1 bb o k1 k2
  rcases hget i _ hb with⟨_,h1⟩ |⟨_,h1⟩
  .cases h1
  exact hg.ty i u y us hi h1
 exact h ro hro A L g0 w0 g' a w B hB hrel hgood hn
def iter {σ ρ:Type}(f:σ->Option (σ⊕ρ)):Nat->σ->Option ρ
 |0,_=>none
 |n+1,x=>match f x with
  |none=>none
  |some (.inl y)=>iter f n y
  |some (.inr r)=>some r
theorem aCf {σ ρ:Type}{f:σ->Option (σ⊕ρ)}{r:ρ}: ∀{n:Nat}{x:σ},iter f n x=some r->iter f (n+1) x=some r
 |0,_,h=>by cases h
 |n+1,x,h=>by
  unfold iter at h|-;split
  .rename_i e;rw[e] at h;cases h
  .rename_i y e;rw[e] at h;exact aCf h
  rename_i r' e;rw[e] at h;exact h
theorem a1b {σ ρ:Type}{f:σ->Option (σ⊕ρ)}{r:ρ}{n:Nat}{x:σ}(h:iter f n x=some r): ∀m,iter f (n+m) x=some r
 |0=>h
 |m+1=>aCf (a1b h m)
theorem aCg {σ ρ:Type}{f:σ->Option (σ⊕ρ)}{r r':ρ}{n m:Nat}{x:σ}(h:iter f n x=some r) (h':iter f m x=some r'):r=r':=by
 have h1:=a1b h m;have h2:=a1b h' n;rw[Nat.add_comm] at h2;exact aSo (h1.symm.trans h2)
noncomputable def QM {σ ρ:Type}(f:σ->Option (σ⊕ρ)) (x:σ):Option ρ:=open Classical in if h: ∃n r,iter f n x=some r then some (Classical.choose (aTT h)) else none
def aK6 {ρ:Type}:Option ρ->Option ρ->Option ρ
 |some r,_=>some r
 |none,r=>r
noncomputable def rG {σ ρ:Type}(f:σ->Option (σ⊕ρ)) (x:σ):Option ρ:=aK6 (iter f 2000 x) (QM f x)
theorem aK7 {σ ρ:Type}{f:σ->Option (σ⊕ρ)}{x:σ}{r:ρ}{n:Nat}(h:iter f n x=some r):QM f x=some r:=by
 have hx: ∃n r,iter f n x=some r:=⟨n,r,h⟩;unfold QM;rw[aUe hx,aCg h (aTT (aTT hx))]
theorem a1c {σ ρ:Type}{f:σ->Option (σ⊕ρ)}{x:σ}{r:ρ}{n:Nat}(h:iter f n x=some r):rG f x=some r:=by
 unfold rG;cases hi:iter f 2000 x with
 |some r'=>rw[aCg h hi];rfl
 |none=>exact aK7 h
theorem VQ {σ ρ:Type}{f:σ->Option (σ⊕ρ)}{x:σ}{r:ρ}(h:rG f x=some r): ∃n,iter f n x=some r:=by
 unfold rG at h;cases hi:iter f 2000 x with
 |some r'=>
  rw[hi] at h;cases h;exact⟨_,hi⟩
 |none=>
  rw[hi] at h;have h:QM f x=some r:=h;unfold QM at h;split at h
  .rename_i hx;have:=aTT (aTT hx);rw[aSo h] at this;exact⟨_,this⟩
  cases h
attribute [irreducible] rG
theorem NJ {σ ρ:Type}{f:σ->Option (σ⊕ρ)}{x y:σ}(h:f x=some (.inl y)):rG f x=rG f y:=by
 cases hy:rG f y with
 |some r=>
  obtain⟨n,hn⟩:=VQ hy;exact a1c (n:=n+1) (by unfold iter;rw[h];exact hn)
 |none=>
  cases hx:rG f x with
  |none=>rfl
  |some r=>
   obtain⟨n,hn⟩:=VQ hx;cases n with
   |zero=>cases hn
   |succ n=>
    unfold iter at hn;rw[h] at hn;rw[a1c hn] at hy;cases hy
theorem BP {σ ρ:Type}{f:σ->Option (σ⊕ρ)}{x:σ}{r:ρ}(h:f x=some (.inr r)):rG f x=some r:=a1c (n:=1) (by unfold iter;rw[h])
def Nxt {σ ρ:Type}(f:σ->Option (σ⊕ρ)) (y:ρ) (n:Nat):σ⊕ρ->Prop
 | .inl x=>iter f n x=some y
 | .inr r=>r=y
def qL {σ ρ:Type}(enc:σ->St) (f:σ->Option (σ⊕ρ)) (y:ρ) (n:Nat) (Q:Ex->St->Prop):Ex->St->Prop
 | .normal,s=> ∃(k:w4) (x:σ),s.keep k=enc x/\iter f n x=some y
 | .exit j,s=>Q (.exit j) s
 | .ret,s=>Q .ret s
theorem aK9 {P:Program}{c:Code}{s:St}{Q:Ex->St->Prop}(I:Nat->St->Prop) (h0: ∃(k:w4) (n:Nat),I n (s.keep k))
  (h: ∀n s,I n s->Ev R P c s (fun e s'=>match e with| .normal=> ∃(k:w4) (m:Nat),m<n/\I m (s'.keep k) |e=>Q e s')):Ev R P (.loop c) s Q:=by
 intro ro hro A L g0 w0 g a w B hB hr hg hn;obtain⟨k,n0,h0⟩:=h0;obtain⟨g1,k1,k2,k3,_⟩:=GB hr hg hn k
 let R:Act->pN->Nat->Prop:=fun a w n=> ∃g s,I n s/\uP B g w s a/\sX A L g0 w0 g w s.H/\s.np=L.length
 refine wpIn_loop (fun a w=> ∃n,R a w n) (fun a w=>QJ (R a w)) ⟨_,g1,s.keep k,h0,k1,k2,k3⟩ (fun a w hI=>?_);obtain⟨⟨g2,s2,i1,i3,i4,i5⟩,_⟩:=VL hI;refine aT2 (h _ s2 i1 ro hro A L g0 w0 g2 a w B hB i3 i4 i5) fun e a' w' hp=>?_;obtain⟨e',g',s',h1,h2,h3,h4,h5⟩:=hp;cases e<;>simp only[EZ,aSk] at h1
 case normal=>
  subst h1;obtain⟨k',m,j1,j2⟩:=h2;obtain⟨g3,l1,l2,l3,_⟩:=GB h3 h4 h5 k';have hR:R a' w' m:=⟨g3,s'.keep k',j2,l1,l2,l3⟩;exact⟨⟨_,hR⟩,Nat.lt_of_le_of_lt ((VL ⟨_,hR⟩).2 _ hR) j1⟩
 case exit id=>subst h1;exact⟨.exit id,g',s',rfl,h2,h3,h4,h5⟩
 case ret=>subst h1;exact⟨.ret,g',s',rfl,h2,h3,h4,h5⟩
 all_goals cases h1
theorem tD {P:Program}{c:Code}{s:St}{Q:Ex->St->Prop}{σ ρ:Type}{f:σ->Option (σ⊕ρ)}{x0:σ}{y:ρ}(hy:rG f x0=some y) (enc:σ->St) (k:w4) (h0:s.keep k=enc x0)
  (round: ∀x w n,f x=some w->Nxt f y n w->Ev R P c (enc x) (qL enc f y n Q)):Ev R P (.loop c) s Q:=by
 obtain⟨n,hn⟩:=VQ hy;refine aK9 (fun n s=> ∃x,s=enc x/\iter f n x=some y) ⟨k,n,x0,h0,hn⟩ fun n s ⟨x,e,hx⟩=>?_;subst e;cases n with
 |zero=>cases hx
 |succ n=>
  unfold iter at hx;refine aK2 (Q':=qL enc f y n Q) ?_ (fun e s' hq=>?_)
  .split at hx
   .cases hx
   .rename_i x' e;exact round x _ n e hx
   rename_i r e;exact round x _ n e (aSo hx)
  cases e with
  |normal=>obtain⟨k,x',h1,h2⟩:=hq;exact⟨k,n,pC,x',h1,h2⟩
  |exit j=>exact hq
  |ret=>exact hq
def qX (j:Nat) (X:St->Prop) (Q:Ex->St->Prop):Ex->St->Prop
 | .normal,s=>Q .normal s
 | .exit i,s=>if i=j then∃k:w4,X (s.keep k) else Q (.exit i) s
 | .ret,s=>Q .ret s
theorem tN {P:Program}{c:Code}{s:St}{Q:Ex->St->Prop}(j:Nat) (X:St->Prop) (h:Ev R P c s (qX j X Q)) (J: ∀s',X s'->Q (.exit j) s'):Ev R P c s Q:=by
 intro ro hro A L g0 w0 g a w B hB hr hg hn;refine aT2 (h ro hro A L g0 w0 g a w B hB hr hg hn) fun x a' w' hp=>?_;obtain⟨e,g',s',h1,h2,h3,h4,h5⟩:=hp;cases e with
 |normal=>exact⟨.normal,g',s',h1,h2,h3,h4,h5⟩
 |ret=>exact⟨.ret,g',s',h1,h2,h3,h4,h5⟩
 |exit i=>
  have h2:(if i=j then∃k:w4,X (s'.keep k) else Q (.exit i) s'):=h2;by_cases hij:i=j
  .rw[aSj hij] at h2;obtain⟨k,hk⟩:=h2;obtain⟨g1,k1,k2,k3,_⟩:=GB h3 h4 h5 k;exact⟨.exit i,g1,s'.keep k,h1,by rw[hij];exact J _ hk,k1,k2,k3⟩
  rw[aSl hij] at h2;exact⟨.exit i,g',s',h1,h2,h3,h4,h5⟩
section
variable {Q:Ex->St->Prop}{s:St}{j i:Nat}{X:St->Prop}{σ ρ:Type}{enc:σ->St}{f:σ->Option (σ⊕ρ)}{y:ρ}{n:Nat}
theorem uR (h:Q .ret s):qX j X Q .ret s:=h
theorem tO (h: ∃k:w4,X (s.keep k)):qX j X Q (.exit j) s:=by show (if j=j then _ else _);rw[aSj rfl];exact h
theorem sN (h: ∃(k:w4) (x:σ),s.keep k=enc x/\iter f n x=some y):qL enc f y n Q .normal s:=h
theorem tB (h:Q (.exit j) s):qL enc f y n Q (.exit j) s:=h
theorem tY (h:Q .ret s):qL enc f y n Q .ret s:=h
end
def qN (X:St->Prop) (Q:Ex->St->Prop):Ex->St->Prop
 | .normal,s=> ∃k:w4,X (s.keep k)
 | .exit j,s=>Q (.exit j) s
 | .ret,s=>Q .ret s
theorem AR {P:Program}{c:Code}{s:St}{Q:Ex->St->Prop}(X:St->Prop) (h:Ev R P c s (qN X Q)) (J: ∀s',X s'->Q .normal s'):Ev R P c s Q:=by
 intro ro hro A L g0 w0 g a w B hB hr hg hn;refine aT2 (h ro hro A L g0 w0 g a w B hB hr hg hn) fun x a' w' hp=>?_;obtain⟨e,g',s',h1,h2,h3,h4,h5⟩:=hp;cases e with
 |exit j=>exact⟨.exit j,g',s',h1,h2,h3,h4,h5⟩
 |ret=>exact⟨.ret,g',s',h1,h2,h3,h4,h5⟩
 |normal=>
  obtain⟨k,hk⟩:=h2;obtain⟨g1,k1,k2,k3,_⟩:=GB h3 h4 h5 k;exact⟨.normal,g1,s'.keep k,h1,J _ hk,k1,k2,k3⟩
section
variable {Q:Ex->St->Prop}{s:St}{j:Nat}{X:St->Prop}
theorem tE (h: ∃k:w4,X (s.keep k)):qN X Q .normal s:=h
theorem a1d (h:Q .ret s):qN X Q .ret s:=h
end
def val {ρ:Type}[Inhabited ρ] (x:Option ρ):ρ:=x.getD default
theorem rX {ρ:Type}[Inhabited ρ] {x:Option ρ}{y:ρ}(h:x=some y):val x=y:=by rw[h];rfl
theorem rH {ρ:Type}{x:Option ρ}{y:ρ}(h:x=some y):x.isSome=true:=by rw[h];rfl
theorem q8 {ρ:Type}{c:Prop}[Decidable c] {x:Option ρ}{r:ρ}(h:(if c then x else none)=some r):c/\x=some r:=by
 by_cases hc:c
 .rw[aSj hc] at h;exact⟨hc,h⟩
 rw[aSl hc] at h;cases h
theorem p7{ρ:Type}{c e:Prop}[Decidable c][Decidable e]{x:Option ρ}{r:ρ}(h:(if c then if e then x else none else none)=some r):c/\e/\x=some r:=have k:=q8 h;⟨k.1,q8 k.2⟩
theorem qR {σ ρ:Type}{x:Option σ}{k:σ->Option ρ}{r:ρ}(h:x.bind k=some r): ∃y,x=some y/\k y=some r:=by
 cases x with
 |none=>cases h
 |some y=>exact⟨y,rfl,h⟩
theorem aLa {ρ:Type}{b:Bool}{x y:ρ}{r:ρ}(h:(if b=true then x else y)=r) (hb:b=true):x=r:=by rw[aSj hb] at h;exact h
theorem aLb {ρ:Type}{b:Bool}{x y:ρ}{r:ρ}(h:(if b=true then x else y)=r) (hb:b=false):y=r:=by rw[hb,aSl pD] at h;exact h
def tC {σ ρ:Type}(x:Option (σ⊕ρ)) (k:σ->Option ρ):Option ρ:=x.bind fun y=>match y with
 | .inl v=>k v
 | .inr r=>some r
theorem uM {σ ρ:Type}{x:Option (σ⊕ρ)}{k:σ->Option ρ}{r:ρ}(h:tC x k=some r): ∃y,x=some y/\(match y with| .inl v=>k v| .inr r=>some r)=some r:=qR h
def sR {σ ρ:Type}(x:Option σ) (k:σ->Option ρ):Option ρ:=x.bind k
def AS {σ ρ:Type}(x:σ) (k:σ->ρ):ρ:=k x
theorem a1e {σ ρ:Type}{x:σ}{k:σ->ρ}{r:ρ}(h:AS x k=r):k x=r:=h
theorem QN {σ ρ:Type}{x:σ}{k:σ->ρ}{r:ρ}(h:AS x k=r): ∃y,x=y/\k y=r:=⟨x,rfl,h⟩
theorem rY {x:Bool}(h:x=true):(x==true)=true:=by rw[h];rfl
theorem IB {G x:Bool}(hG:G=true) (h:x=true):(G&&(x==true))=true:=by rw[hG,h];rfl
theorem GF {G x:Bool}(hG:G=true) (h:x=false):(G&&(x==false))=true:=by rw[hG,h];rfl
theorem tP {x:Bool}(h:x=false):(x==false)=true:=by rw[h];rfl
section
variable {P:Program}{T:sI}{Γ:sV}(E:qW P T Γ) {s:St}{Q:Ex->St->Prop}
include E
theorem aCh {id:Nat}{ops:Array Oper}{a:vT}(h:uO T Γ ops.toList ops.toList (some ⟨s,[],[]⟩)=some a) (hp:r8 a.side) (hq:Q .normal a.s):Ev R P (.region id ops false) s Q:=
 aCa E.T E.Γ E.m (aIH h hp hq)
theorem aCi {id:Nat}{ops:Array Oper}{a:vT}(h:uO T Γ ops.toList ops.toList (some ⟨s,[],[]⟩)=some a) (hf:KI ops s.nb a.es.reverse=true) (hp:r8 a.side) (hq:Q .normal a.s):Ev R P (.region id ops true) s Q:=
 aCa E.T E.Γ E.m (aII h hf hp hq)
end
end Go.Proofs.YtcpbaddnmpeipaaGreatDoor.Vc
namespace Go.Proofs.YtcpbaddnmpeipaaGreatDoor.Vc
open Go.RowKit
variable {R:Bool}
attribute [go_sem] Option.map_some Option.map_none
@[go_sem] theorem aP7 {H:List (Nat×pW)}{ps:List PK}{b:List pX}{a:Option sQ}:xM H ps ([]++b) a=xM H ps b a:=rfl
@[go_sem] theorem aP8 {H:List (Nat×pW)}{ps:List PK}{x:pX}{l b:List pX}{a:Option sQ}:xM H ps ((x::l)++b) a=xM H ps (x::(l++b)) a:=rfl
@[go_sem] def aCj:Option pX->Option (List pX)->Option (List pX)
 |some s,some l=>some (s::l)
 |_,_=>none
@[go_sem] def aCk:Option qJ->Option pX
 |some e=>some e.slot
 |none=>none
@[go_sem] def VR (H:List (Nat×pW)):Option TI->pX->Option qJ
 |some ti,(.val .ref (some (i,off)),_)=>PM ti.ty i off (pZ H i)
 |_,_=>none
@[go_sem] def QO (T:sI) (s:St) (m:pH):Nat×Option TypeId->Option pX
 |(t,none)=>some (zX m (lk s.env t))
 |(t,some ty)=>(aCk (VR s.H (rO T ty) (lk s.env t))).map (zX m)
@[go_sem] def IC (T:sI) (s:St) (m:pH):List (Nat×Option TypeId)->Option (List pX)
 |[]=>some []
 |q::r=>aCj (QO T s m q) (IC T s m r)
def CZ:Nat×Option TypeId->ResultVar
 |(t,none)=> .tmp t
 |(t,some ty)=> .cell t ty
@[go_sem] def DK:Nat->Nat->List (Nat×pW)->List (Nat×pW)
 |0,_,H=>H
 |n+1,i,[]=>(i,.dead)::DK n (i+1) []
 |n+1,i,(j,b)::H=>if j=i then(j,b)::DK n (i+1) H else(i,.dead)::DK n (i+1) ((j,b)::H)
theorem L4: ∀{n i:Nat}{H:List (Nat×pW)}{k:Nat}{b:pW},pZ (DK n i H) k=some b->pZ H k=some b\/b= .dead
 |0,_,_,_,_,h=> .inl h
 |n+1,i,[],k,b,h=>by
  simp only[DK,pZ] at h;split at h
  .exact .inr (aSo h).symm
  .exact L4 h
 |n+1,i,(j,c)::H,k,b,h=>by
  unfold DK at h;split at h
  .simp only[pZ] at h|-;split at h
   .rename_i e;rw[aSj e];exact .inl h
   rename_i e;rw[aSl e];exact L4 h
  simp only[pZ] at h;split at h
  .exact .inr (aSo h).symm
  exact L4 h
theorem s9.pad {g:Gh}{w:pN}{H:s5}(h:s9 g w H) (n i:Nat):s9 g w (DK n i H):=by
 have own: ∀{k blk b o},pZ (DK n i H) k=some blk->s8 g k blk b o->pZ H k=some blk:=fun hg ho=>by
  rcases L4 hg with h1|h1
  .exact h1
  subst h1;exact ho.elim
 refine⟨fun k b hb=>?_,fun i j bi bj b o hij h1 h2 o1 o2=>h.dis i j bi bj b o hij (own h1 o1) (own h2 o2) o1 o2,h.sl,h.tab.1,fun k blk b o h1 h2=>h.tab.2 k blk b o (own h1 h2) h2⟩;rcases L4 hb with h1|h1
 .exact h.blk k b h1
 subst h1;trivial
theorem sX.pad {A:Nat->Nat->Prop}{L:List pW}{g0 g:Gh}{w0 w:pN}{H:s5}(h:sX A L g0 w0 g w H) (n i:Nat):sX A L g0 w0 g w (DK n i H):=by
 refine⟨h.shut,h.fr,fun k blk b o hg ho=>?_,h.J,h.live,fun k u y us hk hg=>?_,h.cur⟩
 .rcases L4 hg with h1|h1
  .exact h.perm k blk b o h1 ho
  subst h1;exact ho.elim
 rcases L4 hg with h1|h1
 .exact h.ty k u y us hk h1
 cases h1
def aCl (T:sI) (ts:List (Nat×Option TypeId)) (r:qI):Ex->St->Prop
 | .exit _,_=>False
 |_,s=> ∃m:pH,wV s.np m=true/\DK (qV r.H) 0 (s.keep ⟨[],m⟩).H=qQ 0 r.H/\IC T s m ts=some r.ret
section
variable {P:Program}{o:Oper}{a:Act}{g:Gh}{w:pN}{H:s5}{T:sI}(hT:wY P T) (hH:s9 g w H)
include hT hH
theorem aLc {t:TypeId}{vx:pO}{sx:pX}(hx:rF g w sx vx) {e:qJ}(hr:VR H (rO T t) sx=some e): ∃ad v,vx= .pointer (some ad)/\(loadVar t ad).run P w= .ok v w/\rF g w e.slot v:=by
 generalize hs:rO T t=ot at hr;replace hx:=hx.1;unfold VR at hr;split at hr
 .rename_i ti i off k;have hty:=sP hT hs;generalize hb:pZ H i=ob at hr;unfold PM at hr;split at hr
  .rename_i u z toks;generalize hga:qT ti.ty u z off=oy at hr;cases oy with
   |none=>cases hr
   |some y=>
    cases hr;obtain⟨p,hp,hv⟩:=x7 hx;obtain⟨p',cs,hp',hR,hra,_,_,htk⟩:=hH.blk i _ hb;rw[hp] at hp';obtain rfl:=aSo hp';obtain⟨c1,c2,c3,rfl,rfl,hR2⟩:=BL hR hga;obtain⟨v,h1,h2,h3⟩:=N9 hT hH hty (KT hT hH hra) hR2;refine⟨_,v,hv,by simpa[Instr.loadAt,Instr.sureAddr] using h1,h2,?_⟩;obtain⟨ty,el,by',ar,ls⟩:=ti;cases ty with
    |list u'=>
     simp only[EK];generalize htt:wT toks c1.length=ok;cases ok with
     |none=>trivial
     |some k=>
      obtain⟨u2,l,v',g1,g2,g3⟩:=htk _ _ (a0e hT hH htt);obtain⟨heq,hl⟩:=aAm hT hH g1 hga rfl;injection heq with heq'
      subst heq';have hlen:=sL hR2;obtain⟨v2,rfl⟩:=aTt.1 hlen;have e2:v'=v2:=by
       have e:(c1++[v2]++c3)[c1.length]? =some v2:=by simp
       rw[e] at g2;exact(aSo g2).symm
      have e3:v=v2:=by
       have h4:=wZ rfl h2;have hone:=zY h4 v pE;have:v.cells= #[v]:=by cases v<;>first|rfl|(simp [Value.oneCell'] at hone)
       rw[this] at h3;simpa using h3
      subst e2;subst e3;have e4:(y:List u'.den)=l:=hl;subst e4;exact g3
    |_=>trivial
  cases hr
 cases hr
end
def L5 (tmps:Array pO) (q:Nat×Option TypeId):Sem pO:=match CZ q with
 | .tmp t=>pure (tmps.getD t undef)
 | .cell a t=>do loadVar t (<-asAddr (tmps.getD a undef))
theorem aCm {P:Program}{T:sI}(hT:wY P T) {B:Nat}{g:Gh}{w:pN}{s:St}{a:Act}{m:pH}(hk:wV s.np m=true) (hr:uP B g w s a): ∀{ts:List (Nat×Option TypeId)}{l:List pX},IC T s m ts=some l->
  ∃vs:pJ,(ts.mapM (L5 a.tmps)).run P w= .ok vs w/\vG (u6 g s.np m) w l vs
 |[],l,h=>by
  simp only[IC,aSk] at h;subst h;exact⟨[],by simp,rfl⟩
 |q::ts,l,h=>by
  simp only[IC] at h;obtain⟨s1,l1,e1,e2,rfl⟩: ∃s1 l1,QO T s m q=some s1/\IC T s m ts=some l1/\l=s1::l1:=by
   cases h1:QO T s m q<;>cases h2:IC T s m ts<;>rw[h1,h2] at h<;>simp [aCj] at h
   exact⟨_,_,rfl,rfl,h.symm⟩
  obtain⟨vs,v1,v2⟩:=aCm hT hk hr e2;obtain⟨v,w1,w2⟩: ∃v,(L5 a.tmps q).run P w= .ok v w/\rF (u6 g s.np m) w s1 v:=by
   obtain⟨t,oty⟩:=q;cases oty with
   |none=>
    simp only[QO,aSk] at e1;subst e1;exact⟨_,by simp [L5,CZ],VG hk (hr.env t)⟩
   |some ty=>
    simp only[QO] at e1;cases he:VR s.H (rO T ty) (lk s.env t) with
    |none=>rw[he] at e1;cases e1
    |some e=>
     rw[he] at e1;simp only[aCk,Option.map_some,aSk] at e1;subst e1;obtain⟨ad,v,hv,hl,hs⟩:=aLc hT hr.heap (hr.env t) he;exact⟨v,by simp only[L5,CZ,hv,asAddr,aSw,aSI,aSr,hl],VG hk hs⟩
  exact⟨v::vs,by simp only[List.mapM_cons,aSw,w1,aSr,v1,aSI],v,vs,rfl,w2,v2⟩
def NK (tmps:Array pO):ResultVar->Sem pO
 | .tmp t=>pure (tmps.getD t undef)
 | .cell a t=>do loadVar t (<-asAddr (tmps.getD a undef))
theorem aLd {P:Program}{fn:Func}{w:pN}{tmps:Array pO}{ts:List (Nat×Option TypeId)}(h:fn.results.toList=ts.map CZ) {vs:pJ}(hv:(ts.mapM (L5 tmps)).run P w= .ok vs w):(results fn tmps).run P w= .ok (a07 vs) w:=by
 obtain⟨rs,hrs⟩: ∃rs,fn.results=⟨rs⟩:=⟨fn.results.toList,rfl⟩;have hm:rs=ts.map CZ:=by rw[hrs] at h;exact h
 have key:Sem.run P (((ts.map CZ).toArray).mapM (NK tmps)) w=Result.ok vs.toArray w:=by
  rw[List.mapM_toArray,List.mapM_map];have e:NK tmps∘CZ=L5 tmps:=by
   funext q;obtain⟨t,o⟩:=q;cases o<;>rfl
  have e2:(fun q=>NK tmps (CZ q))=L5 tmps:=e;show Sem.run P (List.mapM (fun q=>NK tmps (CZ q)) ts>>=fun l=>pure l.toArray) w=_;rw[e2,aSw,hv];rfl
 have hu:results fn tmps=(fn.results.mapM (NK tmps) >>=fun vs=>pure (if h:vs.size=1 then vs[0] else .tuple vs)):=by
  unfold results;congr 2
 rw[hu,hrs,hm,aSw];have key2:Sem.run P (Array.mapM (NK tmps) (⟨ts.map CZ⟩:Array ResultVar)) w=Result.ok vs.toArray w:=key;rw[key2];simp only[aSr,aSI]
 match vs with
 |[]=>rfl
 |[v]=>rfl
 |v::u::l=>simp [a07]
theorem aLe {P:Program}{T:sI}(hT:wY P T) {f:FuncId}{fn:Func}{c:Code}{C:List pX->List pW->Option qI}{ts:List (Nat×Option TypeId)}(hf:P.funcs[f]? =some fn) (hb:fn.body=some c) {N:Nat}(hN:fn.ntmps=N)
  (hcall: ∀args w,(callFunc f args).run P w= .ok (.enter f args) w) (hres:fn.results.toList=ts.map CZ)
  (h: ∀args L r,C args L=some r->(∀p∈r.side,p)->rQ L->args.length<=N/\QK (vL 0 L) args/\L2 (vL 0 L) L/\Ev false P c ⟨rP 0 args,qQ 0 L,qV L,N,qV L⟩ (aCl T ts r)):yN P f C:=by
 subst hN;refine⟨hcall,fun g w args vals L r hH ha hC hs=>?_⟩;obtain⟨h1,h2,h3,h4⟩:=h args L r hC hs (aB4 fun i b hb=>⟨i,hH.blk i b (by rw[x8];exact hb)⟩);obtain⟨hr,hent⟩:=aK0 hH ha h2 h3 h1;have hsub: ∀b o,yB (u6 g 0 (vL 0 L)) (qQ 0 L) b o->yB g (qQ 0 L) b o:=fun b o ⟨i,blk,hg,ho⟩=>⟨i,blk,hg,(hent i blk (by rw[<-x8];exact hg)).2.2 b o ho⟩;have hgood:sX (yB (u6 g 0 (vL 0 L)) (qQ 0 L)) L (u6 g 0 (vL 0 L)) w (u6 g 0 (vL 0 L)) w (qQ 0 L):=by
  refine⟨fun b o h=>⟨h,rfl⟩,Fr.refl _ _ _,fun i blk b o hg ho=> .inr ⟨i,blk,hg,ho⟩,fun _ _ _ h=>h,fun i hi=>?_,fun i u y us _ hg=>⟨y,us,by rw[<-x8];exact hg⟩,fun _ _ _ _ h=>h⟩;have hL:L[i]? =some L[i]:=by simp
  obtain⟨_,hbk,_⟩:=hent i L[i] hL;have hnd:=(L3 h3 L[i] (aTq hi)).2;generalize L[i]=blk at hbk hnd;cases blk with
  |cells t x ts=>obtain⟨p,cs,hp,_⟩:=hbk;exact .inl ⟨p,hp⟩
  |grow e c n=>obtain⟨v,xs,hv,_⟩:=hbk;exact .inr ⟨n,v,hv⟩
  |row e t l n=>obtain⟨_,v,xs,hv,_⟩:=hbk;exact .inr ⟨n,v,hv⟩
  |map k v l=>obtain⟨p,es,cl,hp,_⟩:=hbk;exact .inl ⟨p,hp⟩
  |iter s n=>obtain⟨p,hp,_⟩:=hbk;exact .inl ⟨p,hp⟩
  |dead=>exact absurd rfl hnd
 refine callsIn_wide.1 (callsIn_of_wp_marks (F:=Fence.wide) (n:=0) hf hb trivial (aT2 (h4 none rfl _ _ _ _ _ _ _ _ (aSE _) hr hgood (VO L)) fun x a' w' hp=>?_) rfl);obtain⟨e,g',s',e1,e2,e3,e4,e5⟩:=hp;have fin: ∀m:pH,wV s'.np m=true->DK (qV r.H) 0 (s'.keep ⟨[],m⟩).H=qQ 0 r.H->IC T s' m ts=some r.ret->LeavesInM Fence.wide 0 P fn a'.tmps (fun e w'=> ∃v' g',e= .returned v'/\EX g w L r g' w' v') a'.defers .returning w':=by
  intro m hk k1 k2;refine aB9 a'.defers w' e3 e4 (fun w1 e3 e4=>?_);obtain⟨l1,l2,l3,_⟩:=a0Q e3 e4 e5 ⟨[],m⟩ hk;replace l2:=l2.pad (qV r.H) 0;rw[k1] at l2;obtain⟨vs,q1,q2⟩:=aCm hT hk e3 k2;have q3:=aLd (P:=P) (w:=w1) (tmps:=a'.tmps) hres q1;refine⟨_,q3,_,_,rfl,⟨fun b o hb=>l2.shut b o hb,by rw[<-k1];exact l1.heap.pad _ _,?_,?_,fun i blk b o hi ho=>?_,fun i t x us hi=>?_,fun i t x us u y vs hi hr=>?_,fun i p hi hp=>l2.J i p hi ((yX VM (NI.2 ⟨rfl,aTg _,pC⟩)).1.trans hp),fun i n u hi hu=>l2.cur i n u hi ((congrFun (yX VM (NI.2 ⟨rfl,aTg _,pC⟩)).2 n).trans hu)⟩⟩
  .unfold QA;split
   .rename_i s hs;rw[hs] at q2;obtain⟨v,vs',hv,h5,h6⟩:=q2;rw[hv,show vs'=[] from h6];exact h5
   rename_i hne;refine⟨_,?_,q2⟩;unfold a07;split
   .rename_i v hv;exfalso;have:=(VN q2).1;cases hq:r.ret with
    |nil=>rw[hq] at this;simp at this
    |cons s l=>cases l with
     |nil=>exact hne s hq
     |cons _ _=>rw[hq] at this;simp at this
   rfl
  .exact⟨l2.fr.os,l2.fr.tape,l2.fr.output,l2.fr.size,fun b hb hA=>l2.fr.blk b hb (fun o ho=>hA o (hsub b o ho)),fun b o hb hA=>l2.fr.cell b o hb (fun ho=>hA (hsub b o ho)),fun b o hS=>(l2.fr.new b o hS).imp id (Or.imp id (hsub b o)),fun b s hs=>(l2.fr.shape b s hs).imp id fun h o=>hsub b o (h o)⟩
  .exact(l2.perm i blk b o (by rw[x8];exact hi) ho).imp id (hsub b o)
  .obtain⟨j1,⟨p,cs,j2,_⟩,_⟩:=hent i _ hi;have hil:i<L.length:=(aSz.1 hi).1;rw[l2.J i p hil j2,<-j1,j2]
  have hil:i<L.length:=(aSz.1 hi).1;obtain⟨x',ts',h5⟩:=l2.ty i u y vs hil (by rw[x8];exact hr);rw[hi] at h5;simp only[aSk,pW.cells.injEq] at h5;exact h5.1.symm
 cases x<;>simp only[EZ,aSk] at e1
 case normal=>subst e1;obtain⟨k,k0,k1,k2⟩:=e2;exact fin k k0 k1 k2
 case ret=>subst e1;obtain⟨k,k0,k1,k2⟩:=e2;exact fin k k0 k1 k2
 case exit id=>subst e1;exact e2.elim
 all_goals cases e1
open Classical in
noncomputable def rR {V:Type}(p:V->List pX) (q:V->List pW) (R:V->qI) (a:List pX) (L:List pW):Option qI:=
 if h: ∃v,p v=a/\q v=L then some (R h.choose) else none
theorem aLf {V:Type}{p:V->List pX}{q:V->List pW}{R:V->qI}{a:List pX}{L:List pW}{r:qI}(h:rR p q R a L=some r): ∃v,p v=a/\q v=L/\R v=r:=by
 unfold rR at h;split at h
 .rename_i e;exact⟨e.choose,e.choose_spec.1,e.choose_spec.2,aSo h⟩
 cases h
theorem rS {V:Type}{p:V->List pX}{q:V->List pW}{R:V->qI}(inj: ∀v v',p v=p v'->q v=q v'->v=v') (v:V):rR p q R (p v) (q v)=some (R v):=by
 have h: ∃u,p u=p v/\q u=q v:=⟨v,rfl,rfl⟩;unfold rR;rw[aUe h,inj _ v h.choose_spec.1 h.choose_spec.2]
theorem aCn: ∀{l:List Prop},(∀p∈l,p)->r8 l
 |[],_=>trivial
 |[p],h=>h p pE
 |p::q::r,h=>⟨h p pE,aCn (l:=q::r) fun x hx=>h x (aSy _ hx)⟩
def rD (P:Program) (x:Nat×r7):Prop:=yN P x.1 x.2.C/\∀F,x.2.row=some F->V1 P x.1 F
theorem rT {P:Program}{T:sI}{Γ:sV}(hE:qW P T Γ) {f:FuncId}{fn:Func}{c:Code}{V:Type}{p:V->List pX}{q:V->List pW}{R:V->qI}{ps:List PK}{gs:List (Nat×Nat×PK)}{same:pM}{ts:List (Nat×Option TypeId)}(hf:P.funcs[f]? =some fn) (hb:fn.body=some c) {N:Nat}(hN:fn.ntmps=N)
  (hres:fn.results.toList=ts.map CZ) (hcall: ∀args w,(callFunc f args).run P w= .ok (.enter f args) w)
  (h: ∀v,r8 (R v).side->rQ (q v)->Ev false P c ⟨rP 0 (p v),qQ 0 (q v),qV (q v),N,qV (q v)⟩ (aCl T ts (R v)))
  (h1: ∀v,Nat.ble (p v).length N=true:=by intro _;rfl)
  (h2: ∀v,QK (vL 0 (q v)) (p v):=by intro _;repeat (first|exact trivial|refine ⟨rfl,?_⟩))
  (h3: ∀v,L2 (vL 0 (q v)) (q v):=by intro _;repeat (first|exact trivial|refine ⟨rfl,?_⟩)):rD P (f,⟨ps,rR p q R,gs,same,none⟩):=
 ⟨aLe hE.T hf hb hN hcall hres fun args L r hC hs hr=>by
  obtain⟨v,rfl,rfl,rfl⟩:=aLf hC;exact⟨aTS (h1 v),h2 v,h3 v,h v (aCn hs) hr⟩,fun _ h=>by cases h⟩
abbrev pY (n:Int):Prop:= -9223372036854775808<=n/\n<=9223372036854775807
@[go_sem] def qY:List (Nat×r7)->sV
 |[],_=>none
 |(k,s)::r,f=>if k=f then some s else qY r f
theorem rM {P:Program}:DH P (qY []):=fun _ _ _ h=>by cases h
theorem qK {P:Program}{x:Nat×r7}{r:List (Nat×r7)}(h:rD P x) (hr:DH P (qY r)):DH P (qY (x::r)):=fun f s hlt hs=>by
 obtain⟨k,y⟩:=x;simp only[qY] at hs;split at hs
 .rename_i e;subst e;cases hs;exact h
 exact hr f s hlt hs
section
variable {P:Program}{T:sI}{Γ:sV}(E:qW P T Γ) {s:St}{Q:Ex->St->Prop}
include E
theorem pV {id:Nat}{ops:Array Oper}{a:vT}{y:Code}(hq:Ev R P y a.s Q) (h:uO T Γ ops.toList ops.toList (some ⟨s,[],[]⟩)=some a:=by simp only[go_sem];rfl) (hp:r8 a.side:=by exact trivial):Ev R P (.seq (.region id ops false) y) s Q:=
 qD (aCh E h hp hq)
theorem w6 {id:Nat}{ops:Array Oper}{a:vT}{y:Code}(hq:Ev R P y a.s Q) (h:uO T Γ ops.toList ops.toList (some ⟨s,[],[]⟩)=some a:=by simp only[go_sem];rfl) (hp:r8 a.side:=by exact trivial) (hf:KI ops s.nb a.es.reverse=true:=by kernel_rfl):Ev R P (.seq (.region id ops true) y) s Q:=
 qD (aCi E h hf hp hq)
theorem qZ {id:Nat}{ops:Array Oper}{a:vT}(hq:Q .normal a.s) (h:uO T Γ ops.toList ops.toList (some ⟨s,[],[]⟩)=some a:=by simp only[go_sem];rfl) (hp:r8 a.side:=by exact trivial):Ev R P (.region id ops false) s Q:=
 aCh E h hp hq
theorem GG {id:Nat}{ops:Array Oper}{a:vT}(hq:Q .normal a.s) (h:uO T Γ ops.toList ops.toList (some ⟨s,[],[]⟩)=some a:=by simp only[go_sem];rfl) (hp:r8 a.side:=by exact trivial) (hf:KI ops s.nb a.es.reverse=true:=by kernel_rfl):Ev R P (.region id ops true) s Q:=
 aCi E h hf hp hq
end
theorem qE {P:Program}{s:St}{Q:Ex->St->Prop}{c:Operand}{x y:Code}{b b':Bool}{k:pL}{ρ:Type}{X Y r:ρ}(hC:(if b'=true then X else Y)=r) (ht:X=r->b=true->Ev R P x s Q) (hf:Y=r->b=false->Ev R P y s Q)
  (h:tU s.env c=(.val .bool b,k):=by simp only[go_sem];rfl) (hb:b=b':=by first|rfl|simp):Ev R P (.cond c x y) s Q:=
 aK4 h (fun e=>ht (aLa hC (hb▸e)) e) (fun e=>hf (aLb hC (hb▸e)) e)
theorem rI {σ ρ:Type}[Inhabited σ] {x:Option σ}{k:σ->Option ρ}{r:ρ}(h:x.bind k=some r): ∃y,x=some y/\val x=y/\k y=some r:=by
 obtain⟨y,h1,h2⟩:=qR h;exact⟨y,h1,rX h1,h2⟩
attribute [go_sem] true_and and_true false_and and_false Nat.reduceMul List.nil_append List.cons_append List.append_nil List.toList_toArray Nat.reduceEqDiff reduceIte reduceDIte reduceCtorEq Nat.reduceAdd Nat.reduceSub Int.reduceToNat Nat.reduceLT Nat.reduceLeDiff decide_true decide_false Bool.and_self Bool.or_self Bool.or_false Bool.false_or Bool.and_true Bool.true_and Bool.not_true Bool.not_false
end Go.Proofs.YtcpbaddnmpeipaaGreatDoor.Vc
namespace Go.Proofs
open Go.RowKit Go.Lib
open Tryz
def Tryz.lays137_ren:Go.Shelf.Ren:=⟨fun|137=>133|217=>139|266=>174|n=>n,fun|9=>9|5=>5|3=>3|n=>n,fun|n=>n⟩
theorem Tryz.lays137:Go.Proofs.Lays.n137 prog Tryz.lays137_ren:={
 mixed:=by kernel_rfl
 f137:=Tryz.func133.trans (aSL some pQ)
 f217:=Tryz.func139.trans (aSL some pQ)
 f266:=Tryz.func174.trans (aSL some pQ)
 t3:=Tryz.underlying3
 a3:=Tryz.isAgg3
 z3:=Tryz.sizeOf3
 v3:=Tryz.zeroValue3
 t5:=Tryz.underlying5
 a5:=Tryz.isAgg5
 z5:=Tryz.sizeOf5
 v5:=Tryz.zeroValue5
 t9:=Tryz.underlying9
 a9:=Tryz.isAgg9
 z9:=Tryz.sizeOf9
 v9:=Tryz.zeroValue9}
def Tryz.lays161_ren:Go.Shelf.Ren:=⟨fun|161=>80|231=>111|227=>112|233=>113|235=>114|228=>143|197=>144|151=>145|260=>176|152=>177|137=>133|119=>199|224=>141|225=>140|217=>139|266=>174|n=>n,fun|9=>9|4=>4|3=>3|5=>5|117=>152|116=>151|0=>0|124=>155|105=>177|21=>21|119=>218|46=>176|139=>221|138=>220|n=>n,fun|3=>1|4=>2|n=>n⟩
theorem Tryz.lays161:Go.Proofs.Lays.n161 prog Tryz.lays161_ren:={
 mixed:=by kernel_rfl
 f119:=Tryz.func199.trans (aSL some pQ)
 f137:=Tryz.func133.trans (aSL some pQ)
 f151:=Tryz.func145.trans (aSL some pQ)
 f152:=Tryz.func177.trans (aSL some pQ)
 f161:=Tryz.func80.trans (aSL some pQ)
 f197:=Tryz.func144.trans (aSL some pQ)
 f217:=Tryz.func139.trans (aSL some pQ)
 f224:=Tryz.func141.trans (aSL some pQ)
 f225:=Tryz.func140.trans (aSL some pQ)
 f227:=Tryz.func112.trans (aSL some pQ)
 f228:=Tryz.func143.trans (aSL some pQ)
 f231:=Tryz.func111.trans (aSL some pQ)
 f233:=Tryz.func113.trans (aSL some pQ)
 f235:=Tryz.func114.trans (aSL some pQ)
 f260:=Tryz.func176.trans (aSL some pQ)
 f266:=Tryz.func174.trans (aSL some pQ)
 t0:=Tryz.underlying0
 a0:=Tryz.isAgg0
 z0:=Tryz.sizeOf0
 v0:=Tryz.zeroValue0
 t3:=Tryz.underlying3
 a3:=Tryz.isAgg3
 z3:=Tryz.sizeOf3
 v3:=Tryz.zeroValue3
 t4:=Tryz.underlying4
 a4:=Tryz.isAgg4
 z4:=Tryz.sizeOf4
 v4:=Tryz.zeroValue4
 t5:=Tryz.underlying5
 a5:=Tryz.isAgg5
 z5:=Tryz.sizeOf5
 v5:=Tryz.zeroValue5
 t9:=Tryz.underlying9
 a9:=Tryz.isAgg9
 z9:=Tryz.sizeOf9
 v9:=Tryz.zeroValue9
 t21:=Tryz.underlying21
 a21:=Tryz.isAgg21
 z21:=Tryz.sizeOf21
 v21:=Tryz.zeroValue21
 t46:=Tryz.underlying176
 a46:=Tryz.isAgg176
 z46:=Tryz.sizeOf176
 v46:=Tryz.zeroValue176
 t105:=Tryz.underlying177
 a105:=Tryz.isAgg177
 z105:=Tryz.sizeOf177
 v105:=Tryz.zeroValue177
 t116:=Tryz.underlying151
 a116:=Tryz.isAgg151
 z116:=Tryz.sizeOf151
 t117:=Tryz.underlying152
 a117:=Tryz.isAgg152
 z117:=Tryz.sizeOf152
 v117:=Tryz.zeroValue152
 t119:=Tryz.underlying218
 a119:=Tryz.isAgg218
 z119:=Tryz.sizeOf218
 t124:=Tryz.underlying155
 a124:=Tryz.isAgg155
 z124:=Tryz.sizeOf155
 v124:=Tryz.zeroValue155
 t138:=Tryz.underlying220
 a138:=Tryz.isAgg220
 z138:=Tryz.sizeOf220
 v138:=Tryz.zeroValue220
 t139:=Tryz.underlying221
 a139:=Tryz.isAgg221
 z139:=Tryz.sizeOf221
 v139:=Tryz.zeroValue221
 g3:=by kernel_rfl
 g4:=by kernel_rfl}
def Tryz.lays190_ren:Go.Shelf.Ren:=⟨fun|190=>163|125=>192|258=>191|128=>217|129=>218|302=>208|303=>209|304=>210|305=>211|306=>212|307=>213|308=>214|309=>215|310=>216|333=>236|329=>237|330=>238|334=>239|335=>240|336=>241|344=>252|n=>n,fun|31=>23|9=>9|3=>3|46=>176|0=>0|51=>202|53=>241|4=>4|183=>234|182=>233|131=>54|5=>5|218=>255|222=>259|228=>268|229=>140|n=>n,fun|n=>n⟩
theorem Tryz.lays190:Go.Proofs.Lays.n190 prog Tryz.lays190_ren:={
 mixed:=by kernel_rfl
 f125:=Tryz.func192.trans (aSL some pQ)
 f128:=Tryz.func217.trans (aSL some pQ)
 f129:=Tryz.func218.trans (aSL some pQ)
 f190:=Tryz.func163.trans (aSL some pQ)
 f258:=Tryz.func191.trans (aSL some pQ)
 f302:=Tryz.func208.trans (aSL some pQ)
 f303:=Tryz.func209.trans (aSL some pQ)
 f304:=Tryz.func210.trans (aSL some pQ)
 f305:=Tryz.func211.trans (aSL some pQ)
 f306:=Tryz.func212.trans (aSL some pQ)
 f307:=Tryz.func213.trans (aSL some pQ)
 f308:=Tryz.func214.trans (aSL some pQ)
 f309:=Tryz.func215.trans (aSL some pQ)
 f310:=Tryz.func216.trans (aSL some pQ)
 f329:=Tryz.func237.trans (aSL some pQ)
 f330:=Tryz.func238.trans (aSL some pQ)
 f333:=Tryz.func236.trans (aSL some pQ)
 f334:=Tryz.func239.trans (aSL some pQ)
 f335:=Tryz.func240.trans (aSL some pQ)
 f336:=Tryz.func241.trans (aSL some pQ)
 f344:=Tryz.func252.trans (aSL some pQ)
 t0:=Tryz.underlying0
 a0:=Tryz.isAgg0
 z0:=Tryz.sizeOf0
 v0:=Tryz.zeroValue0
 t3:=Tryz.underlying3
 a3:=Tryz.isAgg3
 z3:=Tryz.sizeOf3
 v3:=Tryz.zeroValue3
 t4:=Tryz.underlying4
 a4:=Tryz.isAgg4
 z4:=Tryz.sizeOf4
 v4:=Tryz.zeroValue4
 t5:=Tryz.underlying5
 a5:=Tryz.isAgg5
 z5:=Tryz.sizeOf5
 v5:=Tryz.zeroValue5
 t9:=Tryz.underlying9
 a9:=Tryz.isAgg9
 z9:=Tryz.sizeOf9
 v9:=Tryz.zeroValue9
 t31:=Tryz.underlying23
 a31:=Tryz.isAgg23
 z31:=Tryz.sizeOf23
 v31:=Tryz.zeroValue23
 t46:=Tryz.underlying176
 a46:=Tryz.isAgg176
 z46:=Tryz.sizeOf176
 v46:=Tryz.zeroValue176
 t51:=Tryz.underlying202
 a51:=Tryz.isAgg202
 z51:=Tryz.sizeOf202
 v51:=Tryz.zeroValue202
 t53:=Tryz.underlying241
 a53:=Tryz.isAgg241
 z53:=Tryz.sizeOf241
 v53:=Tryz.zeroValue241
 t131:=Tryz.underlying54
 a131:=Tryz.isAgg54
 z131:=Tryz.sizeOf54
 v131:=Tryz.zeroValue54
 t182:=Tryz.underlying233
 a182:=Tryz.isAgg233
 z182:=Tryz.sizeOf233
 v182:=Tryz.zeroValue233
 t183:=Tryz.underlying234
 a183:=Tryz.isAgg234
 z183:=Tryz.sizeOf234
 v183:=Tryz.zeroValue234
 t218:=Tryz.underlying255
 a218:=Tryz.isAgg255
 z218:=Tryz.sizeOf255
 v218:=Tryz.zeroValue255
 t222:=Tryz.underlying259
 a222:=Tryz.isAgg259
 z222:=Tryz.sizeOf259
 v222:=Tryz.zeroValue259
 t228:=Tryz.underlying268
 a228:=Tryz.isAgg268
 z228:=Tryz.sizeOf268
 v228:=Tryz.zeroValue268
 t229:=Tryz.underlying140
 a229:=Tryz.isAgg140
 z229:=Tryz.sizeOf140
 v229:=Tryz.zeroValue140}
def Tryz.lays196_ren:Go.Shelf.Ren:=⟨fun|196=>168|259=>195|n=>n,fun|0=>0|3=>3|4=>4|5=>5|9=>9|12=>12|46=>176|53=>241|119=>218|138=>220|139=>221|n=>n,fun|3=>1|4=>2|n=>n⟩
theorem Tryz.lays196:Go.Proofs.Lays.n196 prog Tryz.lays196_ren:={
 mixed:=by kernel_rfl
 f196:=Tryz.func168.trans (aSL some pQ)
 f259:=Tryz.func195.trans (aSL some pQ)
 t0:=Tryz.underlying0
 a0:=Tryz.isAgg0
 z0:=Tryz.sizeOf0
 v0:=Tryz.zeroValue0
 t3:=Tryz.underlying3
 a3:=Tryz.isAgg3
 z3:=Tryz.sizeOf3
 v3:=Tryz.zeroValue3
 t4:=Tryz.underlying4
 a4:=Tryz.isAgg4
 z4:=Tryz.sizeOf4
 v4:=Tryz.zeroValue4
 t5:=Tryz.underlying5
 a5:=Tryz.isAgg5
 z5:=Tryz.sizeOf5
 v5:=Tryz.zeroValue5
 t9:=Tryz.underlying9
 a9:=Tryz.isAgg9
 z9:=Tryz.sizeOf9
 v9:=Tryz.zeroValue9
 t12:=Tryz.underlying12
 a12:=Tryz.isAgg12
 z12:=Tryz.sizeOf12
 v12:=Tryz.zeroValue12
 t46:=Tryz.underlying176
 a46:=Tryz.isAgg176
 z46:=Tryz.sizeOf176
 v46:=Tryz.zeroValue176
 t53:=Tryz.underlying241
 a53:=Tryz.isAgg241
 z53:=Tryz.sizeOf241
 v53:=Tryz.zeroValue241
 t119:=Tryz.underlying218
 a119:=Tryz.isAgg218
 z119:=Tryz.sizeOf218
 t138:=Tryz.underlying220
 a138:=Tryz.isAgg220
 z138:=Tryz.sizeOf220
 v138:=Tryz.zeroValue220
 t139:=Tryz.underlying221
 a139:=Tryz.isAgg221
 z139:=Tryz.sizeOf221
 v139:=Tryz.zeroValue221
 g3:=by kernel_rfl
 g4:=by kernel_rfl}
def Tryz.lays240_ren:Go.Shelf.Ren:=⟨fun|240=>78|276=>109|n=>n,fun|0=>0|4=>4|9=>9|20=>20|70=>79|72=>82|164=>146|37=>80|n=>n,fun|n=>n⟩
theorem Tryz.lays240:Go.Proofs.Lays.n240 prog Tryz.lays240_ren:={
 mixed:=by kernel_rfl
 f240:=Tryz.func78.trans (aSL some pQ)
 f276:=Tryz.func109.trans (aSL some pQ)
 t0:=Tryz.underlying0
 a0:=Tryz.isAgg0
 z0:=Tryz.sizeOf0
 v0:=Tryz.zeroValue0
 t4:=Tryz.underlying4
 a4:=Tryz.isAgg4
 z4:=Tryz.sizeOf4
 v4:=Tryz.zeroValue4
 t9:=Tryz.underlying9
 a9:=Tryz.isAgg9
 z9:=Tryz.sizeOf9
 v9:=Tryz.zeroValue9
 t20:=Tryz.underlying20
 a20:=Tryz.isAgg20
 z20:=Tryz.sizeOf20
 v20:=Tryz.zeroValue20
 t70:=Tryz.underlying79
 a70:=Tryz.isAgg79
 z70:=Tryz.sizeOf79
 v70:=Tryz.zeroValue79
 t72:=Tryz.underlying82
 a72:=Tryz.isAgg82
 z72:=Tryz.sizeOf82
 v72:=Tryz.zeroValue82
 t164:=Tryz.underlying146
 a164:=Tryz.isAgg146
 z164:=Tryz.sizeOf146
 v164:=Tryz.zeroValue146}
theorem Tryz.builderX72:Builder.X72 prog Tryz.lays240_ren:={
 sizeBuilder:=by kernel_rfl
 liesBuilder:=by kernel_rfl}
def Tryz.lays169_ren:Go.Shelf.Ren:=⟨fun|169=>53|n=>n,fun|70=>79|9=>9|0=>0|72=>82|37=>80|127=>115|3=>3|5=>5|n=>n,fun|n=>n⟩
theorem Tryz.lays169:Go.Proofs.Lays.n169 prog Tryz.lays169_ren:={
 mixed:=by kernel_rfl
 f169:=Tryz.func53.trans (aSL some pQ)
 t0:=Tryz.underlying0
 a0:=Tryz.isAgg0
 z0:=Tryz.sizeOf0
 v0:=Tryz.zeroValue0
 t3:=Tryz.underlying3
 a3:=Tryz.isAgg3
 z3:=Tryz.sizeOf3
 v3:=Tryz.zeroValue3
 t9:=Tryz.underlying9
 a9:=Tryz.isAgg9
 z9:=Tryz.sizeOf9
 v9:=Tryz.zeroValue9
 t37:=Tryz.underlying80
 a37:=Tryz.isAgg80
 z37:=Tryz.sizeOf80
 v37:=Tryz.zeroValue80
 t70:=Tryz.underlying79
 a70:=Tryz.isAgg79
 z70:=Tryz.sizeOf79
 v70:=Tryz.zeroValue79
 t72:=Tryz.underlying82
 a72:=Tryz.isAgg82
 z72:=Tryz.sizeOf82
 v72:=Tryz.zeroValue82
 t127:=Tryz.underlying115
 a127:=Tryz.isAgg115
 z127:=Tryz.sizeOf115
 v127:=Tryz.zeroValue115}
theorem Tryz.builderExtra:Builder.Extra prog Tryz.lays169_ren:={
 sizeBuilder:=by kernel_rfl
 liesBuilder:=by kernel_rfl
 t5:=Tryz.underlying5
 a5:=Tryz.isAgg5
 z5:=Tryz.sizeOf5
 v5:=Tryz.zeroValue5
 infoByte:=by kernel_rfl
 cellsByte:=by kernel_rfl
 sizeByte:=by kernel_rfl
 neB5:=by decide}
end Go.Proofs
namespace Go.Proofs.YtcpbaddnmpeipaaGreatDoor
open Vc Go.RowKit
open Tryz
theorem aLg {g:Gh}{w w':pN}(hH:s9 g w (qQ 0 [])) (hb:Below w.heap.size w w'):s9 g w' (qQ 0 []):=
 ⟨fun _ _ h=>(by cases h),fun _ _ _ _ _ _ _ h=>(by cases h),fun b o h=>aSW (hH.sl b o h) hb.size,⟨HO hH.tab.1 hb.size fun b h=>hb.block b (aSW h hH.tab.1.1),fun _ _ _ _ h=>(by cases h)⟩⟩
theorem QP {P:Program}{f:FuncId}{C:List pX->List pW->Option qI}(hen: ∀args w,(callFunc f args).run P w= .ok (.enter f args) w)
  (h: ∀(g:Gh) (w:pN) (args:List pX) (vals:pJ) (L:List pW) (r:qI),EJ w->vG g w args vals->C args L=some r->(∀p∈r.side,p)->
   L=[]/\r.H=[]/\Calls P f vals.toArray w (fun e w'=> ∃v,e= .returned v/\Below w.heap.size w w'/\QA g w' r.ret v)):yN P f C:=by
 refine⟨hen,fun g w args vals L r hH ha hC hs=>?_⟩;obtain⟨rfl,hr,hc⟩:=h g w args vals L r hH.tab.1 ha hC hs;refine hc.mono fun e w' ⟨v,he,hb,hv⟩=>⟨v,g,he,⟨fun b o h=>⟨h,hb.cell (p:=⟨b,o,none⟩) (hH.sl b o h)⟩,by rw[hr];exact aLg hH hb,hv,⟨hb.os,hb.tape,hb.output,hb.size,fun b h _=>hb.block b h,fun b o h _=>⟨hb.cell (p:=⟨b,o,none⟩) h,hb.frozen (p:=⟨b,o,none⟩) h⟩,fun b o h=> .inl h,fun b s h=> .inl ((BN (hb.block b (BM h))).trans h)⟩,(fun i blk b o h=>by rw[hr] at h;cases h),(fun i t x ts h=>by cases h),(fun i t x ts u y us h=>by cases h),(fun _ _ _ h=>h),(fun _ _ _ _ h=>h)⟩⟩
theorem aCo {P:Program}{f:FuncId}{vals:Array pO}{w:pN}{Q:Ending->Prop}(h:Calls P f vals w fun e w'=>Q e/\w'=w):Calls P f vals w fun e w'=>Q e/\Below w.heap.size w w':=
 h.mono fun e w' ⟨h1,h2⟩=>⟨h1,by rw[h2];exact Below.refl _ _⟩
def vV (s:p8) (c:Int):Int:=Lib.indexByte s (Int.toNat c).toUInt8
@[go_sem] def VS:List pX->List pW->Option qI
 |[(.val .str O,none),(.val (.int .u8) Z,none)],[]=>some ⟨[],[(.val (.int .i64) (vV O Z),none)],[]⟩
 |_,_=>none
theorem aCp:yN prog 133 VS:=by
 refine QP (fun _ _=>rfl) fun g w args vals L r hT ha hC hs=>?_;unfold VS at hC;split at hC
 .rename_i s c;cases hC;obtain⟨va,_,rfl,ra,vb,_,rfl,rb,hv⟩:=ha;obtain rfl:=x6 ra.1;obtain rfl:=wF rb.1;cases hv;exact⟨rfl,rfl,(aCo (Any.strings_IndexByte Tryz.lays137 ⟨List.toArray s⟩ c w)).mono fun e w' ⟨he,hb⟩=>⟨_,he,hb,wB _ _ _ _,trivial⟩⟩
 cases hC
@[go_sem] def VT:List pX->List pW->Option qI
 |[(.val .str O,none),(.val .str Z,none)],[]=>some ⟨[(List.all Z fun b=>decide (b.toNat<128))=true/\List.length Z<4294967281],[(.val .str (Lib.trimLeftS O Z),none)],[]⟩
 |_,_=>none
theorem aCq:yN prog 80 VT:=by
 refine QP (fun _ _=>rfl) fun g w args vals L r hT ha hC hs=>?_;unfold VT at hC;split at hC
 .rename_i s c;cases hC;obtain⟨h1,h2⟩:=hs _ aSJ;obtain⟨va,_,rfl,ra,vb,_,rfl,rb,hv⟩:=ha;obtain rfl:=x6 ra.1;obtain rfl:=x6 rb.1;cases hv;exact⟨rfl,rfl,(Any.strings_TrimLeft_laid Tryz.lays161 pQ ⟨List.toArray s⟩ ⟨List.toArray c⟩ w h2 (ascii_of_all h1)).mono fun e w' ⟨he,hb⟩=>⟨_,he,hb,KS _ _ _,trivial⟩⟩
 cases hC
@[go_sem] def VU:List pX->List pW->Option qI
 |[(.val .str O,none)],[]=>some ⟨[List.length O<=9223372036854775807],[(.val .bool (Lib.validD O),none)],[]⟩
 |_,_=>none
theorem aCr:yN prog 168 VU:=by
 refine QP (fun _ _=>rfl) fun g w args vals L r hT ha hC hs=>?_;unfold VU at hC;split at hC
 .rename_i s;cases hC;have h1:=hs _ aSJ;obtain⟨va,_,rfl,ra,hv⟩:=ha;obtain rfl:=x6 ra.1;cases hv;exact⟨rfl,rfl,(Any.utf8_ValidString Tryz.lays196 ⟨List.toArray s⟩ w h1 hT.2.1).mono fun e w' ⟨he,hb⟩=>⟨_,he,hb,vF _ _ _,trivial⟩⟩
 cases hC
@[go_sem] def noC:List pX->List pW->Option qI:=fun _ _=>none
def sJ (l:p9):p9:=l.mergeSort fun x y=>decide (x<=y)
@[go_sem] def a1g:(t:Ty)->List t.den->Option (List t.den)
 | .str,l=>some (sJ l)
 |_,_=>none
def a1h {g:Gh}{w:pN}: ∀{l:p9}{xs:pJ},tV (Rd g w .str) 1 l xs->xs=l.map Go.Proofs.encStr
 |[],_,h=>h
 |_::_,_,⟨c1,c2,e,_,h2,h3⟩=>by rw[e,show c1=_ from h2,a1h h3];rfl
def a1i {g:Gh}{w:pN}: ∀(l:p9),tV (Rd g w .str) 1 l (l.map Go.Proofs.encStr)
 |[]=>rfl
 |x::l=>⟨[.string ⟨x.toArray⟩],_,rfl,rfl,rfl,a1i l⟩
def aCs (s:p9) (cur:Array pO) (h:s.length<=cur.size):(Go.Sort.putCells Go.Proofs.encStr 0 s.toArray cur).toList.take s.length=s.map Go.Proofs.encStr:=by
 apply List.ext_getElem
 .simp [Go.Sort.putCells];omega
 intro i h1 h2;have hi:i<s.length:=by simpa using h2
 simp only[Go.Sort.putCells,List.getElem_take,Array.getElem_toList,Array.getElem_mapIdx,List.getElem_map];rw[aSj (by simp;exact hi)];simp [hi]
def aCt:yN prog 163 noC/\∀F,some a1g=some F->V1 prog 163 F:=by
 refine⟨⟨fun _ _=>rfl,fun g w args vals L r _ _ hC _=>by cases hC⟩,fun F hF=>?_⟩;cases hF;intro g w e t l l' v n xs hT hown hF hl hn hf;cases t with
 |str=>
  have hf:sJ l=l':=aSo hf;subst hf;subst hl;have hlen:(sJ l).length=l.length:=by simp [sJ]
  obtain⟨hx,⟨rfl,h0⟩ |⟨b,cap,cur,rfl,hb0,hbk,hnc,hcm,hcs,htk⟩⟩:=hown
  .obtain rfl:l=[]:=aTi.1 h0;refine(Any.slices_Sort_string_none Tryz.lays190 none 0 w).mono ?_;rintro en w' ⟨rfl,rfl⟩;exact⟨rfl,hlen,[],⟨rfl,.inl ⟨rfl,rfl⟩⟩,by simp [sJ,tV],⟨rfl,rfl,rfl,aSE _,fun _ _ _=>rfl⟩⟩
  .have hxs:=a1h hF;subst hxs;have hc1:(Ty.str).cells=1:=rfl;rw[hc1,aUc] at hcs htk;have hbl:b<w.heap.size:=by
    rcases aTl b w.heap.size with h|h
    .exact h
    rw[Array.getElem?_eq_none h] at hbk;cases hbk
   have hH:Go.Sort.Holds Go.Proofs.encStr w b 0 l.toArray:=by
    intro j hj;have hj':j<l.length:=by simpa using hj
    refine⟨?_,Lib.frozen_of_heap hbk _⟩;rw[Lib.cell_of_heap hbk,aSS];have h2:(cur.toList.take l.length)[j]? =(l.map Go.Proofs.encStr)[j]? :=by rw[htk]
    rw[aTe hj',aTm] at h2;rw[h2];simp [hj']
   refine(Any.slices_Sort_string Tryz.lays190 b 0 cap l w hH hbl hn).mono ?_;rintro en w' ⟨rfl,m,os,rfl⟩;have hsz:(sJ l).length<=cur.size:=by rw[hlen,hcs];exact hnc
   have hnew:(Go.Sort.grow (Go.Sort.putRow Go.Proofs.encStr (Go.Sort.ahead w m) b 0 (sJ l).toArray) os).heap[b]? =some (.cells (Go.Sort.putCells Go.Proofs.encStr 0 (sJ l).toArray cur) e (0,0)):=by
    rw[Go.Sort.heap_grow_old _ _ (by simpa using hbl)];simp [Go.Sort.putRow,Go.Sort.mapBlock,aTj,hbk,Go.Sort.onCells]
   refine⟨rfl,hlen,(sJ l).map Go.Proofs.encStr,⟨by simp [hlen,hc1],.inr ⟨b,cap,_,rfl,hb0,hnew,hnc,hcm,?_,?_⟩⟩,a1i _,⟨rfl,rfl,rfl,by simp,fun k hk hne=>?_⟩⟩
   .rw[hc1,aUc];simpa[Go.Sort.putCells] using hcs
   .rw[hc1,aUc,<-hlen];exact aCs _ _ hsz
   .rw[Go.Sort.heap_grow_old _ _ (by simpa using hk)];have hkb:b≠k:=fun h=>hne (by rw[h];rfl);simp [Go.Sort.putRow,Go.Sort.mapBlock,aTj,hkb]
 |_=>cases hf
def F0 (s c:p8):Int:=Lib.index s c
@[go_sem] def VV:List pX->List pW->Option qI
 |[(.val .ref (some (0,0)),none)],[.cells (.pair .mref (.pair (.list (.int .u8)) .unit)) ((some (0,0)),O) [(1,1)],.grow Z 1 aA]=>some ⟨[aA=List.length O.1],[],[.cells (.pair .mref (.pair (.list (.int .u8)) .unit)) ((some (0,0)),O) [(1,1)],.grow Z 1 aA]⟩
 |_,_=>none
def aCu {g:Gh}{w:pN}{L:List pW}{e:qJ}{w':pN}{u v:pO}{r:qI}(hE:rE g w (qQ 0 L) e g w' u)
  (hH: ∀i,pZ (qQ 0 r.H) i=pZ (qS e.upd (qQ 0 L)) i) (hin: ∀i,i∈qB e.upd->i<L.length) (hlen:r.H.length=L.length)
  (hp: ∀i blk b o,r.H[i]? =some blk->s8 g i blk b o->w.heap.size<=b\/yB g (qQ 0 L) b o)
  (hty: ∀(i:Nat) t x ts u y us,L[i]? =some (.cells t x ts)->r.H[i]? =some (.cells u y us)->u=t)
  (hret:QA g w' r.ret v):EX g w L r g w' v:=
 ⟨fun b o h=>⟨h,hE.le.cell b o h⟩,hE.heap.ext hH,hret,hE.fr.mono fun b o ⟨i,blk,_,h1,h2⟩=>⟨i,blk,h1,h2⟩,hp,fun _ _ _ _ _=>rfl,hty,fun _ _ _ h=>h,fun _ _ _ _ h=>h⟩
def aLh {P:Program}{ρ:Go.Shelf.Ren}(L:Lays.n240 P ρ) (X:Builder.X72 P ρ) {e:TypeId}(b:Nat) (w:pN) (h0:w.cell? ⟨b,0,none⟩=some (.pointer none)) (hsh:w.shape? b=some (e,2)) (hl:liesAt P P.depth e (2/P.cellsOf e) 0 (ρ.t 72) 1=true) (hfz:w.frozen? ⟨b,0,none⟩=false):
  Calls P (ρ.f 240) #[.pointer (some ⟨b,0,none⟩)] w fun en w'=>en= .returned (.tuple #[])/\w'=w.setCell ⟨b,0,none⟩ (.pointer (some ⟨b,0,none⟩)):=by
 obtain⟨j,hj,hjs⟩:=aSA.1 X.sizeBuilder;have mixed:=L.mixed;have t72:=L.t72;have a72:=L.a72;have z72:=L.z72;have v72:=L.v72;have u72:=aSF L.t72;have t70:=L.t70;have a70:=L.a70;have z70:=L.z70;have v70:=L.v70;have u70:=aSF L.t70;have t9:=L.t9;have a9:=L.a9;have z9:=L.z9;have v9:=L.v9;have u9:=aSF L.t9;have t4:=L.t4;have a4:=L.a4;have z4:=L.z4;have v4:=L.v4;have u4:=aSF L.t4;have t164:=L.t164;have a164:=L.a164;have z164:=L.z164;have v164:=L.v164;have u164:=aSF L.t164
 go_enter L.f240,Body.n240_ntmps ρ
 go_wp2
 rw[Lib.run_to_unsafe w ⟨b,0,none⟩ L.t70 L.t164 hj (by rw[hjs];decide) hsh (Nat.zero_lt_succ 1)];simp only[Result.andThen];rw[Oper.upon_value]
 go_wp2
 rw[run_callFunc_extern L.f276 pQ pQ pQ (e:=Extern.AbiNoEscape.same) pQ];rw[Lib.run_noEscape];simp only[Result.andThen];rw[Oper.upon_value]
 go_wp2
 rw[Lib.run_from_unsafe w ⟨b,0,none⟩ L.t164 L.t70 hj hsh hl];simp only[Result.andThen];rw[Oper.upon_value]
 go_wp2
 go_end0
 exact⟨rfl,rfl⟩
def aCv:yN prog 78 VV:=by
 refine⟨fun _ _=>rfl,fun g w args vals L r hH ha hC hs=>?_⟩;unfold VV at hC;split at hC
 .rename_i O Z aA;cases hC;obtain⟨va,_,rfl,ra,hv⟩:=ha;cases hv;have hg0:pZ (qQ 0 [pW.cells (.pair .mref (.pair (.list (.int .u8)) .unit)) ((some (0,0)),O) [(1,1)],.grow Z 1 aA]) 0=some (.cells (.pair .mref (.pair (.list (.int .u8)) .unit)) ((some (0,0)),O) [(1,1)]):=rfl;obtain⟨p,cs,hJ,hR,hra,hth,hns,htk⟩:=hH.blk 0 _ hg0;obtain⟨c1,c2,rfl,hR1,hR2⟩:=hR;obtain⟨p',hJ',⟨hp0,eb,heb,hk3⟩,hc1⟩:=hR1;rw[hJ] at hJ';obtain rfl:=aSo hJ';obtain⟨b,o,k⟩:=p;have ho:o=0:=by simpa using hp0
  subst ho;have hlies:liesAt prog Tryz.prog.depth eb (2/Tryz.prog.cellsOf eb) 0 82 1=true:=by
   unfold YA at heb;split at heb
   .rename_i h;subst h;kernel_rfl
   split at heb
   .rename_i h;subst h;kernel_rfl
   cases heb
  have hva:va= .pointer (some ⟨b,0,none⟩):=by
   obtain⟨q,hq,e⟩:=x7 ra.1;rw[hJ] at hq;cases hq;exact e
  subst hva;have hsh:w.shape? b=some (eb,2):=hth.2 pD _ hk3;rcases hc1 with rfl|rfl
  .have h0:w.cell? ⟨b,0,none⟩=some (.pointer none)/\w.frozen? ⟨b,0,none⟩=false:=⟨hra 0 _ rfl,(hth.1 0 pD).2⟩;refine(aLh Tryz.lays240 Tryz.builderX72 b w h0.1 hsh hlies h0.2).mono ?_;rintro en w' ⟨rfl,rfl⟩;refine⟨_,g,rfl,?_⟩;have hE:=rE.store (side:=[]) (rds:=[]) hH (i:=0) (t:= .mref) (y:=some (0,0)) (off:=0) (k:=none) (p:=⟨b,0,k⟩) (cy:=[.pointer (some ⟨b,0,none⟩)]) (v:= .pointer (some ⟨b,0,none⟩)) hg0 hJ (z:=((some (0,0)),O)) pR ⟨_,hJ,⟨rfl,_,heb,hk3⟩,.inr rfl⟩ trivial (fun _ _ h=>by cases h) (fun _=>rfl);refine aCu hE.1 ?_ ?_ rfl ?_ ?_ ?_
   .intro i
    match i with
    |0=>rfl
    |1=>rfl
    |i+2=>rfl
   .intro i hi;simp [qB] at hi;subst hi;exact Nat.zero_lt_succ _
   .intro i blk b o hi ho;exact .inr ⟨i,blk,by rw[V0];simpa using hi,ho⟩
   .intro i t x ts u y us h1 h2;rw[h1] at h2;cases h2;rfl
   exact⟨[],rfl,rfl⟩
  have h0:w.cell? ⟨b,0,none⟩=some (.pointer (some ⟨b,0,none⟩)):=hra 0 _ rfl;refine(Any.Builder_copyCheck_used Tryz.lays240 Tryz.builderX72 b w h0).mono ?_;rintro en w' ⟨rfl,rfl⟩;refine⟨_,g,rfl,⟨fun b o h=>⟨h,rfl⟩,hH,⟨[],rfl,rfl⟩,Fr.refl _ _ _,?_,fun _ _ _ _ _=>rfl,?_,fun _ _ _ h=>h,fun _ _ _ _ h=>h⟩⟩
  .intro i blk b o hi ho;exact .inr ⟨i,blk,by rw[V0];simpa using hi,ho⟩
  intro i t x ts u y us h1 h2;rw[h1] at h2;cases h2;rfl
 cases hC
def aCw {P:Program}(w:pN): ∀(l:pI) (a:Addr) (acc:ByteArray),(∀j x,l[j]? =some x->w.cell? (a.add j)=some (.int .u8 x))->
  (loadBytes a acc l.length).run P w= .ok ⟨acc.data++(tQ l).toArray⟩ w
 |[],a,acc,_=>by simp [loadBytes,tQ]
 |x::l,a,acc,h=>by
  have h0:w.cell? a=some (.int .u8 x):=by
   have:=h 0 x rfl;simpa[Addr.add] using this
  have ih:=aCw (P:=P) w l (a.add 1) (acc.push (UInt8.ofNat x.toNat)) (fun j y hy=>by
   have:=h (j+1) y (by simpa using hy);have e:(a.add 1).add j=a.add (j+1):=by
    unfold Addr.add;by_cases hj:j=0
    .subst hj;simp
    simp [hj];omega
   rw[e];exact this)
  have hx:x.toNat.toUInt8=UInt8.ofNat x.toNat:=rfl;simp only[aSq,loadBytes,aSw,run_load,h0,Result.andThen,hx];rw[ih];congr 1;apply ByteArray.ext;simp [ByteArray.push,tQ]
def aLi {P:Program}(w:pN) (pt it ty e:TypeId) (hp:P.underlying pt=some (.pointer e)) (hc:P.cellsOf e=1) (g cells:Nat) (hsh:w.shape? g=some (e,cells)) (l:pI) (h0:l≠[]) (hn:l.length<=cells) (h63:l.length<=9223372036854775807)
  (hcell: ∀j x,l[j]? =some x->w.cell? ((⟨g,0,none⟩:Addr).add j)=some (.int .u8 x)):
  (Builtin.unsafeString_ #[pt,it] ty #[.pointer (some ⟨g,0,none⟩),.int .i64 l.length]).run P w= .ok (.string ⟨(tQ l).toArray⟩) (w.freeze ⟨g,0,none⟩ l.length):=by
 have hl:l.length≠0:=by simpa using h0
 have hlb:=aCw (P:=P) w l ⟨g,0,none⟩ .empty hcell;have hlies:=Lib.liesAt_bytes (P:=P) hc (cells/P.cellsOf e) l.length (by rw[hc];simpa using hn);have h63': ¬(9223372036854775807:Int)<(l.length:Int):=by omega
 have hdef:Builtin.unsafeString_ #[pt,it] ty #[.pointer (some ⟨g,0,none⟩),.int .i64 l.length]=
   (do
    let n<-asInt (.int .i64 l.length)
    if n<0 then runtimePanic (.error "unsafe.String: len out of range")
    if n>IntKind.i64.max then unsupported (.unsafePointer "String: a length above the largest int")
    if n=0 then pure (.string .empty)
    else if<-variablesAt ⟨g,0,none⟩ (<-elemOf pt) n.toNat then do
     let s<-loadBytes ⟨g,0,none⟩ .empty n.toNat
     freeze ⟨g,0,none⟩ n.toNat
     pure (.string s)
    else unsupported (.unsafePointer "String: not so many bytes at ptr")):=rfl
 rw[hdef];have hmax:IntKind.i64.max=9223372036854775807:=rfl;have hneg: ¬(l.length:Int)<0:=by omega
 simp [asInt,asIntOf,hmax,h63',hneg,hl,variablesAt,hsh,elemOf,aSF hp,hlies,hlb]
def a1j {P:Program}{ρ:Go.Shelf.Ren}(L:Lays.n169 P ρ) (X:Builder.Extra P ρ) (b n cap:Nat) (a q:Option Addr) (s:ByteArray) (w w2:pN)
  (c1:w.drew.cell? ⟨b,1,none⟩=some (.slice a n cap)) (hSD:(Builtin.unsafeSliceData_ #[(ρ.t 37)] (ρ.t 127) #[.slice a n cap]).run P w.drew= .ok (.pointer q) w.drew)
  (hUS:(Builtin.unsafeString_ #[(ρ.t 127),(ρ.t 3)] (ρ.t 9) #[.pointer q,.int .i64 n]).run P w.drew= .ok (.string s) w2):
  Calls P (ρ.f 169) #[.pointer (some ⟨b,0,none⟩)] w fun e w'=>e= .returned (.string s)/\w'=w2:=by
 have mixed:=L.mixed;have t72:=L.t72;have a72:=L.a72;have z72:=L.z72;have v72:=L.v72;have u72:=aSF L.t72;have t70:=L.t70;have a70:=L.a70;have z70:=L.z70;have v70:=L.v70;have u70:=aSF L.t70;have t37:=L.t37;have a37:=L.a37;have z37:=L.z37;have v37:=L.v37;have u37:=aSF L.t37;have t127:=L.t127;have a127:=L.a127;have z127:=L.z127;have v127:=L.v127;have u127:=aSF L.t127;have t3:=L.t3;have a3:=L.a3;have z3:=L.z3;have v3:=L.v3;have u3:=aSF L.t3;have t9:=L.t9;have a9:=L.a9;have z9:=L.z9;have v9:=L.v9;have u9:=aSF L.t9;have t5:=X.t5;have a5:=X.a5;have z5:=X.z5;have v5:=X.v5;have u5:=aSF X.t5
 go_enter L.f169,Body.n169_ntmps ρ
 go_wp2
 go_region_o
 all_goals (go_wp2;go_ret;exact⟨rfl,rfl⟩)
def aLj {P:Program}{ρ:Go.Shelf.Ren}(L:Lays.n169 P ρ) (X:Builder.Extra P ρ) (b g:Nat) (cur:Array pO) (w:pN) (hlt:b<w.heap.size)
  (c1:w.drew.cell? ⟨b,1,none⟩=some (.slice (some ⟨g,0,none⟩) 0 0)) (hg:w.drew.heap[g]? =some (.cells cur (ρ.t 5) (0,0))):
  Calls P (ρ.f 169) #[.pointer (some ⟨b,0,none⟩)] w fun e w'=>e= .returned (.string ⟨#[]⟩)/\w'=w.drew.alloc (.view ⟨g,0,none⟩ (ρ.t 5)):=by
 have hUS:=Any.unsafeString_none L X;have hSD:(Builtin.unsafeSliceData_ #[(ρ.t 37)] (ρ.t 127) #[.slice (some ⟨g,0,none⟩) 0 0]).run P w.drew= .ok (.pointer (some ⟨w.drew.heap.size,0,none⟩)) (w.drew.alloc (.view ⟨g,0,none⟩ (ρ.t 5))):=
  Lib.run_unsafeSliceData_zero w.drew _ _ (ρ.t 5) L.t127 ⟨g,0,none⟩ 0 ((ρ.t 5),cur.size) (by simp [World.shape?,hg])
 have c2:(w.drew.alloc (.view ⟨g,0,none⟩ (ρ.t 5))).cell? ⟨b,1,none⟩=some (.slice (some ⟨g,0,none⟩) 0 0):=
  (aSH (a:=⟨b,1,none⟩) (Lib.alloc_old w.drew _ b hlt)).trans c1
 have c3:(w.alloc (.view ⟨g,0,none⟩ (ρ.t 5))).drew.cell? ⟨b,1,none⟩=some (.slice (some ⟨g,0,none⟩) 0 0):=c2;have c0:w.cell? ⟨b,1,none⟩=some (.slice (some ⟨g,0,none⟩) 0 0):=c1;have mixed:=L.mixed;have t72:=L.t72;have a72:=L.a72;have z72:=L.z72;have v72:=L.v72;have u72:=aSF L.t72;have t70:=L.t70;have a70:=L.a70;have z70:=L.z70;have v70:=L.v70;have u70:=aSF L.t70;have t37:=L.t37;have a37:=L.a37;have z37:=L.z37;have v37:=L.v37;have u37:=aSF L.t37;have t127:=L.t127;have a127:=L.a127;have z127:=L.z127;have v127:=L.v127;have u127:=aSF L.t127;have t3:=L.t3;have a3:=L.a3;have z3:=L.z3;have v3:=L.v3;have u3:=aSF L.t3;have t9:=L.t9;have a9:=L.a9;have z9:=L.z9;have v9:=L.v9;have u9:=aSF L.t9;have t5:=X.t5;have a5:=X.a5;have z5:=X.z5;have v5:=X.v5;have u5:=aSF X.t5
 go_enter L.f169,Body.n169_ntmps ρ
 go_wp2
 go_region_o
 all_goals (go_wp2;go_ret;exact⟨rfl,rfl⟩)
@[go_sem] def VW:List pX->List pW->Option qI
 |[(.val .ref (some (0,0)),none)],[.cells (.pair .mref (.pair (.list (.int .u8)) .unit)) ((some (0,0)),O) [(1,1)],.grow 5 1 Z]=>some ⟨[Z=List.length O.1],[(.val .str (tQ O.1),none)],[.cells (.pair .mref (.pair (.list (.int .u8)) .unit)) ((some (0,0)),O) [],.dead]⟩
 |_,_=>none
def a1k {g:Gh}{w w':pN}{m:pK}{b:(Ty.pair (.list (.int .u8)) .unit).den}{e n:Nat}{s:p8}{sd:List Prop}(hH:s9 g w (qQ 0 [pW.cells (.pair .mref (.pair (.list (.int .u8)) .unit)) (m,b) [(1,1)],.grow e 1 n]))
  (hos:w'.os=w.os) (htape:w'.tape=w.tape) (hout:w'.output=w.output) (hsz:w.heap.size<=w'.heap.size)
  (hcell: ∀b o,b<w.heap.size->w'.cell? ⟨b,o,none⟩=w.cell? ⟨b,o,none⟩) (hshape: ∀b s,w.shape? b=some s->w'.shape? b=some s)
  (hblk: ∀b,b<w.heap.size->(∀o,¬s8 g 1 (.grow e 1 n) b o)->w'.heap[b]? =w.heap[b]?):
  EX g w [pW.cells (.pair .mref (.pair (.list (.int .u8)) .unit)) (m,b) [(1,1)],.grow e 1 n] ⟨sd,[(.val .str s,none)],[.cells (.pair .mref (.pair (.list (.int .u8)) .unit)) (m,b) [],.dead]⟩ g w' (.string ⟨s.toArray⟩):=by
 have hg0:pZ (qQ 0 [pW.cells (.pair .mref (.pair (.list (.int .u8)) .unit)) (m,b) [(1,1)],.grow e 1 n]) 0=some (.cells (.pair .mref (.pair (.list (.int .u8)) .unit)) (m,b) [(1,1)]):=rfl;have hg1:pZ (qQ 0 [pW.cells (.pair .mref (.pair (.list (.int .u8)) .unit)) (m,b) [(1,1)],.grow e 1 n]) 1=some (.grow e 1 n):=rfl;have hle:Le g w g w':=⟨fun _ _ h=>h,fun b o h=>hcell b o (hH.sl b o h),fun _ _ h=>h,fun _ _ _ h=>h⟩;have hno: ∀c o,s8 g 0 (.cells (.pair .mref (.pair (.list (.int .u8)) .unit)) (m,b) [(1,1)]) c o->∀o',¬s8 g 1 (.grow e 1 n) c o':=fun c o h o' h'=>by
  obtain⟨v,hv,hb⟩:=h';exact hH.dis 0 1 _ _ c o pD hg0 hg1 h ⟨v,hv,hb⟩
 obtain⟨p,cs,hJ,hR,hra,hth,hns,htk⟩:=hH.blk 0 _ hg0;have hown0: ∀j,j<2->s8 g 0 (.cells (.pair .mref (.pair (.list (.int .u8)) .unit)) (m,b) [(1,1)]) p.1 (p.2+j):=fun j hj=>⟨p,hJ,rfl,Nat.le_add_right _ _,Nat.add_lt_add_left hj _⟩;have hpl:p.1<w.heap.size:=KO (hH.blk 0 _ hg0) (hown0 0 pD);have hpb:w'.heap[p.1]? =w.heap[p.1]? :=hblk p.1 hpl (hno p.1 _ (hown0 0 pD));have hbk0:zZ g w' 0 (.cells (.pair .mref (.pair (.list (.int .u8)) .unit)) (m,b) []):=
  ⟨p,cs,hJ,wA hle hR,fun j v hj=>(hcell _ _ hpl).trans (hra j v hj),⟨fun j hj=>by
   have h1:=hth.1 j hj;rw[hcell _ _ hpl];exact⟨h1.1,(aS8 (a:=⟨p.1,p.2+j,none⟩) hpb).trans h1.2⟩,fun h s hs=>hshape _ _ (hth.2 h s hs)⟩,hns,fun _ _ h=>by cases h⟩
 refine⟨fun b o h=>⟨h,hcell b o (hH.sl b o h)⟩,?_,(show rF g w' (.val .str s,none) (.string ⟨s.toArray⟩) from⟨KS _ _ _,trivial⟩),⟨hos,htape,hout,hsz,?_,?_,fun _ _ h=> .inl h,fun b s h=> .inl (hshape b s h)⟩,?_,fun _ _ _ _ _=>rfl,?_,fun _ _ _ h=>h,fun _ _ _ _ h=>h⟩
 .refine⟨fun i blk h=>?_,fun i j bi bj c o hij hi hj hoi hoj=>?_,fun b o h=>aSW (hH.sl b o h) hsz,HO hH.tab.1 hsz (fun c hc=>hblk c (aSW hc hH.tab.1.1) fun o ho=>absurd (hH.tab.2 1 _ c o hg1 ho) pC),fun i blk c o h ho=>?_⟩
  .match i,h with
   |0,h=>cases h;exact hbk0
   |1,h=>cases h;trivial
   |i+2,h=>simp [qQ,pZ] at h
  .match i,j,hi,hj with
   |0,0,_,_=>exact hij rfl
   |0,1,_,hj=>cases hj;exact hoj
   |1,_,hi,_=>cases hi;exact hoi
   |0,j+2,_,hj=>simp [qQ,pZ] at hj
   |i+2,_,hi,_=>simp [qQ,pZ] at hi
  match i,h with
  |0,h=>cases h;exact hH.tab.2 0 _ c o hg0 ho
  |1,h=>cases h;exact ho.elim
  |i+2,h=>simp [qQ,pZ] at h
 .intro c hc hn;exact hblk c hc fun o ho=>hn o ⟨1,_,hg1,ho⟩
 .intro c o hc hn;exact⟨hcell c o hc,aS8 (a:=⟨c,o,none⟩) (hblk c hc fun o' ho=>hn ⟨1,_,hg1,by obtain⟨v,hv,hb⟩:=ho;exact⟨v,hv,hb⟩⟩)⟩
 .intro i blk c o hi ho
  match i,hi with
  |0,hi=>cases hi;exact .inr ⟨0,_,hg0,ho⟩
  |1,hi=>cases hi;exact ho.elim
  |i+2,hi=>simp at hi
 intro i t x ts u y us h1 h2
 match i,h1,h2 with
 |0,h1,h2=>cases h1;cases h2;rfl
 |1,h1,_=>cases h1
 |i+2,h1,_=>simp at h1
def aLk (w:pN) (a p:Addr) (n:Nat):(w.freeze a n).cell? p=w.cell? p:=by
 unfold World.freeze;split
 .rfl
 simp only[World.cell?,aTj];by_cases h:a.block=p.block
 .rw[aSj h];cases w.heap[p.block]? with
  |none=>rfl
  |some o=>cases o<;>rfl
 rw[aSl h]
def aLl (w:pN) (a:Addr) (n b:Nat):(w.freeze a n).shape? b=w.shape? b:=by
 unfold World.freeze;split
 .rfl
 simp only[World.shape?,aTj];by_cases h:a.block=b
 .rw[aSj h];cases w.heap[b]? with
  |none=>rfl
  |some o=>cases o<;>rfl
 rw[aSl h]
def aLm (w:pN) (a:Addr) (n b:Nat) (h:b≠a.block):(w.freeze a n).heap[b]? =w.heap[b]? :=by
 unfold World.freeze;split
 .rfl
 simp only[aTj];rw[aSl (Ne.symm h)]
def aLn (w:pN) (a:Addr) (n:Nat):(w.freeze a n).os=w.os/\(w.freeze a n).tape=w.tape/\(w.freeze a n).output=w.output/\(w.freeze a n).heap.size=w.heap.size:=by
 unfold World.freeze;split
 .exact⟨rfl,rfl,rfl,rfl⟩
 exact⟨rfl,rfl,rfl,by simp⟩
def aCx {g:Gh}{w:pN}{b:Nat}: ∀{l:pI}{o:Nat},yJ (Rd g w (.int .u8)) w g.S 1 b o l->∀j x,l[j]? =some x->w.cell? ⟨b,o+j,none⟩=some (.int .u8 x)
 |[],_,_,_,_,h=>by cases h
 |y::l,o,⟨⟨cs,_,hra,_,hR⟩,hl⟩,j,x,h=>by
  match j,h with
  |0,h=>
   cases h;have hR:cs=[.int .u8 y]:=hR;subst hR;exact hra 0 _ rfl
  |j+1,h=>
   have:=aCx hl j x (by simpa using h);rw[show o+(j+1)=o+1+j by omega];exact this
def aLo {u:Ty}{m:pK}{bv:(Ty.pair (.list (.int .u8)) .unit).den}{l:List u.den}(hget:qT (.list u) (.pair .mref (.pair (.list (.int .u8)) .unit)) (m,bv) 1=some l):l.length=bv.1.length:=by
 have h2:qT (.list u) (.list (.int .u8)) bv.1 0=some l:=hget;simp only[qT] at h2;split at h2
 .rename_i h;injection h with h
  subst h;cases h2;rfl
 cases h2
def aCy:yN prog 53 VW:=by
 refine⟨fun _ _=>rfl,fun g w args vals L r hH ha hC hs=>?_⟩;unfold VW at hC;split at hC
 .rename_i bv n;cases hC;obtain rfl:n=List.length bv.1:=hs _ pE;obtain⟨va,_,rfl,ra,hv⟩:=ha;cases hv;have hg0:pZ (qQ 0 [pW.cells (.pair .mref (.pair (.list (.int .u8)) .unit)) ((some (0,0)),bv) [(1,1)],.grow 5 1 (List.length bv.1)]) 0=some (.cells (.pair .mref (.pair (.list (.int .u8)) .unit)) ((some (0,0)),bv) [(1,1)]):=rfl;have hg1:pZ (qQ 0 [pW.cells (.pair .mref (.pair (.list (.int .u8)) .unit)) ((some (0,0)),bv) [(1,1)],.grow 5 1 (List.length bv.1)]) 1=some (.grow 5 1 (List.length bv.1)):=rfl;obtain⟨p,cs,hJ,hR,hra,hth,hns,htk⟩:=hH.blk 0 _ hg0;obtain⟨v',xs,hv',hown,hmax,hsl⟩:=hH.blk 1 _ hg1;obtain⟨c1,c2,rfl,hR1,hR2⟩:=hR;obtain⟨d1,d2,rfl,⟨a,cap,rfl,hcap,hl⟩,hd2⟩:=hR2;obtain⟨p',hJ',⟨hp0,_,_,_⟩,hc1⟩:=hR1;rw[hJ] at hJ';obtain rfl:=aSo hJ';obtain⟨b,o,k⟩:=p;have ho:o=0:=by simpa using hp0
  subst ho;have hlen1:c1.length=1:=by rcases hc1 with rfl|rfl<;>rfl
  obtain⟨q,hq,hva⟩:=x7 ra.1;rw[hJ] at hq;cases hq;subst hva;have hcell1:w.cell? ⟨b,1,none⟩=some (.slice a bv.1.length cap):=hra 1 _ (by rw[aSt pC,hlen1];rfl);obtain⟨u,l,v,hget,hcv,hcur⟩:=htk 1 1 pE;have hvv:v= .slice a bv.1.length cap:=by
   rw[aSt pC,hlen1] at hcv;exact(aSo hcv).symm
  have hll:l.length=bv.1.length:=aLo hget;rw[hll,hv',hvv] at hcur;obtain rfl:=aSo hcur;have hbl:b<w.heap.size:=UN hcell1;have hdr: ∀(s:p8) (sd:List Prop),EX g w _ ⟨sd,[(.val .str s,none)],[.cells (.pair .mref (.pair (.list (.int .u8)) .unit)) ((some (0,0)),bv) [],.dead]⟩ g w.drew (.string ⟨s.toArray⟩):=fun s sd=>
   a1k hH rfl rfl rfl (aSE _) (fun _ _ _=>rfl) (fun _ _ h=>h) (fun _ _ _=>rfl)
  obtain⟨hx,⟨hnil,h0⟩ |⟨gb,cap',cur,hsl',hb0,hbk,hnc,hcm,hcs,htake⟩⟩:=hown
  .have hb0:bv.1=[]:=aTi.1 h0;have hz:tQ bv.1=[]:=by rw[hb0];rfl
   have hl0:List.length bv.1=0:=h0;injection hnil with e1 e2 e3
   subst e1;subst e3;refine(a1j Tryz.lays169 Tryz.builderExtra b bv.1.length 0 none none .empty w w.drew hcell1 rfl (by rw[hl0];exact Any.unsafeString_none Tryz.lays169 Tryz.builderExtra w.drew none)).mono ?_;rintro e w' ⟨rfl,rfl⟩;exact⟨_,g,rfl,by rw[hz];exact hdr [] _⟩
  injection hsl' with e1 e2 e3
  subst e1;subst e3;have hsz:bv.1.length<=cur.size:=by omega
  by_cases hb0:bv.1=[]
  .have hz:tQ bv.1=[]:=by rw[hb0];rfl
   have hl0:List.length bv.1=0:=by rw[hb0];rfl
   by_cases hc0:cap=0
   .subst hc0;rw[hl0] at hcell1;refine(aLj Tryz.lays169 Tryz.builderExtra b gb cur w hbl hcell1 hbk).mono ?_;rintro e w' ⟨rfl,rfl⟩;have hold: ∀c,c<w.heap.size->(w.drew.alloc (.view ⟨gb,0,none⟩ 5)).heap[c]? =w.heap[c]? :=fun c hc=>Lib.alloc_old w.drew _ c hc;refine⟨_,g,rfl,?_⟩;rw[hz];exact a1k hH rfl rfl rfl pE (fun c o hc=>aSH (a:=⟨c,o,none⟩) (hold c hc)) (fun c s h=>(BN (hold c (BM h))).trans h) (fun c hc _=>hold c hc)
   refine(a1j Tryz.lays169 Tryz.builderExtra b bv.1.length cap (some ⟨gb,0,none⟩) (some ⟨gb,0,none⟩) .empty w w.drew hcell1 (Lib.run_unsafeSliceData_row _ _ _ _ _ _ hc0) (by rw[hl0];exact Any.unsafeString_none Tryz.lays169 Tryz.builderExtra w.drew _)).mono ?_;rintro e w' ⟨rfl,rfl⟩;exact⟨_,g,rfl,by rw[hz];exact hdr [] _⟩
  have hcap0:cap≠0:=fun h=>hb0 (aTi.1 pC);have hcb: ∀j x,bv.1[j]? =some x->w.cell? ⟨gb,j,none⟩=some (.int .u8 x):=by
   rcases hl with hl|⟨b',o',ha',hl⟩
   .exact absurd hl hb0
   cases ha';intro j x hj;have:=aCx hl j x hj;rwa [aSS] at this
  have hbk':w.drew.heap[gb]? =some (.cells cur 5 (0,0)):=hbk;have hshp:w.drew.shape? gb=some (5,cur.size):=by simp only[World.shape?,hbk']
  refine(a1j Tryz.lays169 Tryz.builderExtra b bv.1.length cap (some ⟨gb,0,none⟩) (some ⟨gb,0,none⟩) ⟨(tQ bv.1).toArray⟩ w (w.drew.freeze ⟨gb,0,none⟩ bv.1.length) hcell1 (Lib.run_unsafeSliceData_row _ _ _ _ _ _ hcap0)
   (aLi w.drew _ _ _ 5 (Tryz.lays169).t127 (Tryz.builderExtra).cellsByte gb cur.size hshp bv.1 hb0 hsz (by unfold maxLen at hcm;omega) (fun j x h=>by rw[aTp,aSS];exact hcb j x h))).mono ?_
  rintro e w' ⟨rfl,rfl⟩;refine⟨_,g,rfl,?_⟩;have hblk: ∀c,(∀o,¬s8 g 1 (.grow 5 1 (List.length bv.1)) c o)->(w.drew.freeze ⟨gb,0,none⟩ bv.1.length).heap[c]? =w.heap[c]? :=fun c hc=>aLm w.drew _ _ c fun e=>hc 0 ⟨_,hv',by rw[e];rfl⟩;have hr:=aLn w.drew ⟨gb,0,none⟩ bv.1.length;refine a1k hH hr.1 hr.2.1 hr.2.2.1 (aTN hr.2.2.2.symm) (fun c o _=>aLk w.drew _ _ _) (fun c s h=>(aLl w.drew _ _ c).trans h) (fun c _ hc=>hblk c hc)
 cases hC
end Go.Proofs.YtcpbaddnmpeipaaGreatDoor
namespace Go.Proofs.YtcpbaddnmpeipaaGreatDoor.Vc
open Go.RowKit
@[go_sem] def a1l (np:Nat):DV->Bool
 | .any=>true
 | .nilS=>true
 | .val .ref (some (i,_))=>decide (i<np)
 | .val .ref none=>true
 | .val t _=>t.pure
 |_=>false
@[go_sem] def VX (np:Nat):pX->Bool
 |(d,none)=>a1l np d
 |(.val (.list t) _,some k)=>t.pure&&decide (k<np)
 |_=>false
@[go_sem] def L6 (np:Nat):List (Nat×pX)->Bool
 |[]=>true
 |(_,s)::r=>VX np s&&L6 np r
theorem aCz {np:Nat}: ∀{env:List (Nat×pX)},L6 np env=true->∀t,VX np (lk env t)=true
 |[],_,t=>rfl
 |(k,s)::r,h,t=>by
  simp only[L6,aSB] at h;unfold lk;split
  .exact h.1
  exact aCz h.2 t
theorem aLp {np:Nat}{g g':Gh}{w:pN}(hS:g'.S=g.S) (hJ: ∀i,i<np->g'.J i=g.J i) (hC: ∀i n,i<np->g'.cur i n=g.cur i n) {s:pX}{v:pO}(hp:VX np s=true) (h:rF g w s v):rF g' w s v:=by
 have hV: ∀{t:Ty}{x:t.den},t.pure=true->sW g w t x v->sW g' w t x v:=fun ht hv=>by
  rcases hv with⟨h1,cs,h2,h3⟩ |⟨h1,h2⟩
  .exact .inl ⟨h1,cs,h2,vU hS ht h3⟩
  exact .inr ⟨h1,vU hS ht h2⟩
 have hD: ∀d,a1l np d=true->yK g w d v->yK g' w d v:=by
  intro d hd hr;unfold a1l at hd;split at hd
  .trivial
  .exact hr
  .rename_i i o;have hi:=aS1 hd;rcases hr with⟨h1,_⟩ |⟨h1,h2⟩
   .cases h1
   refine .inr ⟨h1,?_⟩;obtain⟨p,hp1,hp2⟩:=h2;exact⟨p,(hJ i hi).trans hp1,hp2⟩
  .rcases hr with⟨h1,_⟩ |⟨h1,h2⟩
   .cases h1
   exact .inr ⟨h1,h2⟩
  .exact hV hd hr
  cases hd
 obtain⟨d,k⟩:=s;cases k with
 |none=>exact⟨hD d hp h.1,trivial⟩
 |some k=>
  unfold VX at hp;split at hp
  .rename_i heq;cases heq
  .rename_i t x k' heq;cases heq;simp only[aSB,aSs] at hp;exact⟨hV (t:= .list t) hp.1 h.1,(hC k _ hp.2).trans h.2⟩
  cases hp
theorem aLq {np:Nat}{g g':Gh}{w w':pN}{env:List (Nat×pX)}{tmps:Array pO}(h:AO g w env tmps) (hp:L6 np env=true) (hS: ∀b o,g.S b o->g'.S b o) (hc: ∀b o,g.S b o->w'.cell? ⟨b,o,none⟩=w.cell? ⟨b,o,none⟩)
  (hJ: ∀i p,i<np->g.J i=some p->g'.J i=some p) (hC: ∀i n v,i<np->g.cur i n=some v->g'.cur i n=some v):AO g' w' env tmps:=fun t=>by
 have le:Le g w ⟨g'.S,fun i=>if i<np then g'.J i else g.J i,fun i n=>if i<np then g'.cur i n else g.cur i n⟩ w':=by
  refine⟨hS,hc,fun i p hi=>?_,fun i n v hi=>?_⟩
  .show (if i<np then _ else _)=_;split
   .rename_i hlt;exact hJ i p hlt hi
   exact hi
  show (if i<np then _ else _)=_;split
  .rename_i hlt;exact hC i n v hlt hi
  exact hi
 exact aLp (np:=np) (g:=⟨g'.S,fun i=>if i<np then g'.J i else g.J i,fun i n=>if i<np then g'.cur i n else g.cur i n⟩) (g':=g') rfl (fun i hi=>(aSj hi).symm) (fun i n hi=>by show g'.cur i n=(if i<np then g'.cur i n else g.cur i n);rw[aSj hi]) (aCz hp t) (CX le (h t))
theorem sX.inner {A A':Nat->Nat->Prop}{L L':List pW}{g0 g g':Gh}{w0 w w':pN}{H H':s5}(h:sX A L g0 w0 g w H) (k:sX A' L' g w g' w' H') (hA: ∀b o,A' b o->w.heap.size<=b\/yB g H b o) (hl:L.length<=L'.length)
  (hL: ∀i,i<L.length->∀b,L'[i]? =some b->pZ H i=some b):sX A L g0 w0 g' w' H':=by
 have own: ∀b o,A' b o->w0.heap.size<=b\/A b o:=fun b o x=>by
  rcases hA b o x with h1|⟨i,blk,h1,h2⟩
  .exact .inl (aTh h.fr.size h1)
  exact h.perm i blk b o h1 h2
 refine⟨fun b o x=>?_,h.fr.trans k.fr own,fun i blk b o h1 h2=>?_,fun i p hi hp=>k.J i p pC (h.J i p hi hp),fun i hi=>k.live i pC,fun i u y us hi hg=>?_,fun i n v hi hv=>k.cur i n v pC (h.cur i n v hi hv)⟩
 .obtain⟨h1,h2⟩:=h.shut b o x;obtain⟨k1,k2⟩:=k.shut b o h1;exact⟨k1,k2.trans h2⟩
 .rcases k.perm i blk b o h1 h2 with h3|h3
  .exact .inl (aTh h.fr.size h3)
  exact own b o h3
 obtain⟨x,ts,hx⟩:=k.ty i u y us pC hg;exact h.ty i u x ts hi (hL i hi _ hx)
theorem sX.start {g:Gh}{w:pN}{H:s5}{L':List pW}(hH:s9 g w H) (hL: ∀i b,L'[i]? =some b->pZ H i=some b/\b≠.dead) (hty: ∀i,i<L'.length->∀b,pZ H i=some b->L'[i]? =some b):sX (yB g H) L' g w g w H:=by
 refine⟨fun b o h=>⟨h,rfl⟩,Fr.refl _ _ _,fun i blk b o hg ho=> .inr ⟨i,blk,hg,ho⟩,fun _ _ _ h=>h,fun i hi=>?_,fun i u y us hi hg=>⟨y,us,hty i hi _ hg⟩,fun _ _ _ _ h=>h⟩;obtain⟨h1,h2⟩:=hL i L'[i] pE;have hbk:=hH.blk i _ h1;generalize L'[i]=blk at hbk h2;cases blk with
 |cells t x ts=>obtain⟨p,cs,hp,_⟩:=hbk;exact .inl ⟨p,hp⟩
 |grow e c n=>obtain⟨v,xs,hv,_⟩:=hbk;exact .inr ⟨n,v,hv⟩
 |row e t l n=>obtain⟨_,v,xs,hv,_⟩:=hbk;exact .inr ⟨n,v,hv⟩
 |map k v l=>obtain⟨p,es,cl,hp,_⟩:=hbk;exact .inl ⟨p,hp⟩
 |iter s n=>obtain⟨p,hp,_⟩:=hbk;exact .inl ⟨p,hp⟩
 |dead=>exact absurd rfl h2
@[go_sem] def NL (env:List (Nat×pX)):pM->List pX->List (Nat×pX)
 |p::ps,s::ss=>NL (uL (some p) s env) ps ss
 |_,_=>env
theorem aCA {g:Gh}{w:pN}: ∀{ps:pM}{ss:List pX}{vs:pJ}{env:List (Nat×pX)}{tmps:Array pO},AO g w env tmps->(∀p∈ps,p<tmps.size)->vG g w ss vs->ps.length=ss.length->
  AO g w (NL env ps ss) ((ps.zip vs).foldl (fun t (q:Nat×pO)=>t.setIfInBounds q.1 q.2) tmps)/\((ps.zip vs).foldl (fun t (q:Nat×pO)=>t.setIfInBounds q.1 q.2) tmps).size=tmps.size
 |[],[],vs,env,tmps,h,_,ha,_=>by
  have:vs=[]:=ha;subst this;exact⟨h,rfl⟩
 |p::ps,s::ss,vs,env,tmps,h,hp,ha,hl=>by
  obtain⟨v,vs',rfl,h1,h2⟩:=ha;have hput:AO g w (uL (some p) s env) (tmps.setIfInBounds p v):=a0R (a:={tmps:=tmps,defers:=[]}) (o:=⟨some p,.move (.tmp 0),0, "",#[],none⟩) (N:=tmps.size) h (Le.refl g w) h1 rfl (by simpa[HZ] using hp p pE)
  have:=aCA (tmps:=tmps.setIfInBounds p v) hput (fun q hq=>by simpa using hp q (aSy _ hq)) h2 (by simpa using hl);exact⟨this.1,by rw[List.zip_cons_cons,List.foldl_cons];rw[this.2];simp⟩
def aCB (P:Program) (gf:Nat) (u:Ty) {ι:Type}(pre:u.den->Prop) (items:u.den->List ι) (vl:ι->pJ):Prop:=
 (∀args w,(callFunc gf args).run P w= .ok (.enter gf args) w)/\
 ∀(l b o:Nat) (x:u.den) (cs:pJ) (g:Gh) (W0:pN) (J:Nat->pN->Prop) (Jx:pN->Prop),pre x->Rd g W0 u x cs->
  (∀i W,J i W->W.rangeAt b o cs/\∀b o,g.S b o->W.cell? ⟨b,o,none⟩=W0.cell? ⟨b,o,none⟩)->
  (∀i W W',J i W->Below W.heap.size W W'->J i W')->(∀W W',Jx W->Below W.heap.size W W'->Jx W')->(∀i W,J i W->EJ W)->
  (∀i it V W,(items x)[i]? =some it->J i V->Below V.heap.size V W->YieldAt Fence.wide 0 P l (vl it).toArray W fun e W'=>((e= .returned (.bool true)/\J (i+1) W')\/(e= .returned (.bool false)/\Jx W'))/\
   ∀D,V.heap.size<=D->D<W.heap.size->W'.heap[D]? =W.heap[D]?)->
  ∀W,J 0 W->Calls P gf #[.func (.yield l) #[] #[],.pointer (some ⟨b,o,none⟩)] W fun e W'=>(∃v,e= .returned v)/\(J (items x).length W'\/Jx W')
def VY (once:Bool) (P:Program) (gf:Nat) (u:Ty) {ι:Type}(pre:u.den->Prop) (items:u.den->List ι) (vl:ι->pJ):Prop:=
 (∀args w,(callFunc gf args).run P w= .ok (.enter gf args) w)/\
 ∀(l b o:Nat) (x:u.den) (cs:pJ) (g:Gh) (W0:pN) (J:Nat->pN->Prop) (Jx:pN->Prop),pre x->Rd g W0 u x cs->
  (∀i W,J i W->(once=false->W.rangeAt b o cs)/\∀b o,g.S b o->W.cell? ⟨b,o,none⟩=W0.cell? ⟨b,o,none⟩)->
  (∀i W W',J i W->Below W.heap.size W W'->J i W')->(∀W W',Jx W->Below W.heap.size W W'->Jx W')->(∀i W,J i W->EJ W)->
  (∀i it V W,(items x)[i]? =some it->J i V->Below V.heap.size V W->YieldAt Fence.wide 0 P l (vl it).toArray W fun e W'=>((e= .returned (.bool true)/\J (i+1) W')\/(e= .returned (.bool false)/\Jx W'))/\
   ∀D,V.heap.size<=D->D<W.heap.size->W'.heap[D]? =W.heap[D]?)->
  ∀W,J 0 W->W.rangeAt b o cs->Calls P gf #[.func (.yield l) #[] #[],.pointer (some ⟨b,o,none⟩)] W fun e W'=>(∃v,e= .returned v)/\(J (items x).length W'\/Jx W')
theorem aCB.zero {P:Program}{gf:Nat}{u:Ty}{ι:Type}{pre:u.den->Prop}{items:u.den->List ι}{vl:ι->pJ}(h:aCB P gf u pre items vl):VY false P gf u pre items vl:=
 ⟨h.1,fun l b o x cs g W0 J Jx h1 h2 h3 h4 h5 h6 h7 W h8 _=>h.2 l b o x cs g W0 J Jx h1 h2 (fun i W hJ=>⟨(h3 i W hJ).1 rfl,(h3 i W hJ).2⟩) h4 h5 h6 h7 W h8⟩
def F1 {ι σ ρ:Type}(f:ι->σ->Option (σ⊕ρ)):List ι->σ->Option (σ⊕ρ)
 |[],x=>some (.inl x)
 |it::r,x=>(f it x).bind fun w=>match w with
  | .inl x'=>F1 f r x'
  | .inr y=>some (.inr y)
theorem aLr {ι σ ρ:Type}{f:ι->σ->Option (σ⊕ρ)}{it:ι}{r:List ι}{x:σ}{y:σ⊕ρ}(h:F1 f (it::r) x=some y): ∃w,f it x=some w/\(∀x',w= .inl x'->F1 f r x'=some y)/\(∀z,w= .inr z->y= .inr z):=by
 unfold F1 at h;cases hf:f it x with
 |none=>rw[hf] at h;cases h
 |some w=>
  rw[hf] at h;refine⟨w,rfl,fun x' e=>?_,fun z e=>?_⟩
  .subst e;exact h
  subst e;exact(aSo h).symm
def qA (st:St):Ex->St->Prop
 | .normal,s=> ∃k:w4,s.keep k=st
 |_,_=>False
def qF {σ ρ:Type}(encH:σ->List pW) (E0:List (Nat×pX)) (N np np':Nat) (w:σ⊕ρ) (Q:Ex->St->Prop):Ex->St->Prop
 | .normal,s=> ∃(k:w4) (x:σ),w= .inl x/\s.keep k=⟨[],qQ 0 (encH x),qV (encH x),N,np'⟩
 |e,s=> ∃(k:w4) (B:List pW),s.keep k=⟨[],qQ 0 B,qV B,N,np'⟩/\(∃z,w= .inr z)/\Q e ⟨E0,qQ 0 B,qV B,N,np⟩
section
variable {B:Nat}{A:Nat->Nat->Prop}{L:List pW}{g0 g:Gh}{w0 w:pN}{b0 o0 n0:Nat}{cs:pJ}{E0:List (Nat×pX)}{tmps:Array pO}{ds:List Deferred}
structure DL (B:Nat) (A:Nat->Nat->Prop) (L:List pW) (g0:Gh) (w0:pN) (g:Gh) (w:pN) (b0 o0 n0:Nat) (cs:pJ) (E0:List (Nat×pX)) (tmps:Array pO) (ds:List Deferred) (g1:Gh) (W:pN) (H:s5):Prop where
 env:AO g1 W E0 tmps
 heap:s9 g1 W H
 good:sX A L g0 w0 g1 W H
 sld: ∀b o,g.S b o->g1.S b o/\W.cell? ⟨b,o,none⟩=w.cell? ⟨b,o,none⟩
 rng:W.rangeAt b0 o0 cs
 len:cs.length=n0
 lt:0<n0->b0<W.heap.size
 out: ∀o,o0<=o->o<o0+n0->¬yB g1 H b0 o
 defs:zQ B W ds
theorem DL.turn {g1:Gh}{W W2:pN}{H:s5}(h:DL B A L g0 w0 g w b0 o0 n0 cs E0 tmps ds g1 W H) (t:uQ w0.heap.size W W2) {ds':List Deferred}(hd:zQ B W2 ds'):DL B A L g0 w0 g w b0 o0 n0 cs E0 tmps ds' g1 W2 H:=by
 refine⟨fun x=>CX (t.le h.heap.sl) (h.env x),t.heapOk h.heap,h.good.turn h.heap.sl t,fun b o x=>⟨(h.sld b o x).1,(t.cell (h.heap.sl b o (h.sld b o x).1) o).1.trans (h.sld b o x).2⟩,fun j v hv=>?_,h.len,fun x=>aSW (h.lt x) t.size,h.out,hd⟩;have hj:j<cs.length:=(aSz.1 hv).1;have:=h.len;exact(t.cell (h.lt pC) _).1.trans (h.rng j v hv)
theorem DL.inner {g1 g2:Gh}{W W2:pN}{H H2:s5}{L':List pW}{np':Nat}(h:DL B A L g0 w0 g w b0 o0 n0 cs E0 tmps ds g1 W H) (k:sX (yB g1 H) L' g1 W g2 W2 H2) (hH:s9 g2 W2 H2) (hpin:L6 np' E0=true) (hnp:np'=L'.length) (hl:L.length<=L'.length)
  (hL: ∀i,i<L.length->∀b,L'[i]? =some b->pZ H i=some b):DL B A L g0 w0 g w b0 o0 n0 cs E0 tmps ds g2 W2 H2:=by
 subst hnp;refine⟨aLq h.env hpin (fun b o x=>(k.shut b o x).1) (fun b o x=>(k.shut b o x).2) (fun i p hi x=>k.J i p hi x) (fun i n v hi x=>k.cur i n v hi x),hH,h.good.inner k (fun b o x=> .inr x) hl hL,fun b o x=>?_,fun j v hv=>?_,h.len,fun x=>aSW (h.lt x) k.fr.size,fun o h1 h2 ⟨i,blk,h3,h4⟩=>?_,h.defs.same fun D hD=>?_⟩
 .obtain⟨h1,h2⟩:=h.sld b o x;exact⟨(k.shut b o h1).1,(k.shut b o h1).2.trans h2⟩
 .have hj:j<cs.length:=(aSz.1 hv).1;have:=h.len;exact(k.fr.cell _ _ (h.lt pC) (h.out _ pC pC)).1.trans (h.rng j v hv)
 .rcases k.perm i blk _ _ h3 h4 with h5|h5
  .have:=h.lt pC;omega
  exact h.out o h1 h2 h5
 rw[k.fr.blk D (aSO.1 hD).1 (fun o ⟨i,blk,h1,h2⟩=>VD (h.heap.blk i blk h1) h2 hD rfl)];exact hD
theorem aCC {g1 g2:Gh}{W W2:pN}{H H2:s5}{L':List pW}(hH:s9 g1 W H) (k:sX (yB g1 H) L' g1 W g2 W2 H2) {D:Nat}{ob:Obj}(hD:W.heap[D]? =some ob) (hm:GA ob=true):W2.heap[D]? =some ob:=by
 rw[k.fr.blk D (aSO.1 hD).1 (fun o ⟨i,blk,h1,h2⟩=>VD (hH.blk i blk h1) h2 hD hm)];exact hD
end
theorem uQ.put {B:Nat}{W:pN}{l:Nat}{o o':Obj}(h:W.heap[l]? =some o) (hB:B<=l) (hN:NG<=l) (hm:GA o=true) (hm':GA o'=true):uQ B W (W.putObj l o'):=by
 have hlt:=(aSO.1 h).1;refine⟨rfl,rfl,rfl,by simp [World.putObj],fun b hb=>?_⟩;by_cases e:b=l
 .subst e;exact .inr ⟨hB,hN,_,_,h,World.putObj_heap_same hlt,hm,hm'⟩
 exact .inl (World.putObj_heap_other e)
theorem uQ.new (B:Nat) (W:pN) (o:Obj):uQ B W (W.alloc o):=by
 refine⟨rfl,rfl,rfl,by simp,fun b hb=> .inl ?_⟩;exact aSU W o b hb
theorem aCD {e:Ex}{x:Exit}(h:EZ x=some e):(x= .normal/\e= .normal)\/(x= .ret/\e= .ret)\/∃id,x= .exit id/\e= .exit id:=by
 cases x<;>simp only[EZ,aSk] at h
 .exact .inl ⟨rfl,h.symm⟩
 .exact .inr (.inr ⟨_,rfl,h.symm⟩)
 .cases h
 .exact .inr (.inl ⟨rfl,h.symm⟩)
 .cases h
 cases h
def aLs:Ex->Option Code
 | .normal=>none
 | .ret=>some .ret
 | .exit id=>some (.exit id)
theorem aLt {once:Bool}{P:Program}{gf:Nat}{u:Ty}{ι:Type}{pre:u.den->Prop}{items:u.den->List ι}{vl:ι->pJ}(hit:VY once P gf u pre items vl) {sl:ι->List pX}(hsl: ∀it g w,vG g w (sl it) (vl it))
  {fo:Operand}{ps:Array Tmp}{assign body:Code}{s:St}{Q:Ex->St->Prop}{c:Nat}{k0:pL}(hf:tU s.env fo=(.val .clo (some (gf,[(c,0)])),k0)) {xc:u.den}{toks:pH}(hc:pZ s.H c=some (.cells u xc toks)) (hpre:pre xc)
  {σ ρ:Type}{f:ι->σ->Option (σ⊕ρ)}{x0:σ}{y:σ⊕ρ}(hy:F1 f (items xc) x0=some y)
  (E0:List (Nat×pX)) (E1:ι->List (Nat×pX)) (encH:σ->List pW) (encA:ι->σ->List pW) (np':Nat) (k:w4) (hk:wV s.np k.ids=true) (h0:s.keep k=⟨E0,qQ 0 (encH x0),qV (encH x0),s.N,s.np⟩)
  (hcase:k.ids.all (fun q=>decide (q.2≠c))=true\/c<s.np/\(∀g w cs g2 w2 cs2,Rd g w u xc cs->Rd g2 w2 u xc cs2->cs=cs2)/\(∃toksK,∀x,pZ (qQ 0 (encH x)) c=some (.cells u xc toksK))\/c<s.np/\once=true) (hpin:L6 np' E0=true) (hnp:s.np<=np') (hlen: ∀x,np'<=qV (encH x)) (hdead: ∀x,((encH x).take np').all (fun b=>match b with| .dead=>false|_=>true)=true)
  (hA: ∀it x,(encA it x).take np'=(encH x).take np') (hlenA: ∀it x,np'<=qV (encA it x))
  (hps: ∀it,ps.toList.length=(sl it).length) (hpN:(ps.toList.all fun p=>decide (p<s.N))=true)
  (hround: ∀it x w,f it x=some w->(∀z,w= .inr z->y= .inr z)->Ev true P assign ⟨NL E0 ps.toList (sl it),qQ 0 (encH x),qV (encH x),s.N,np'⟩ (qA ⟨E1 it,qQ 0 (encA it x),qV (encA it x),s.N,np'⟩)/\
   Ev true P body ⟨E1 it,qQ 0 (encA it x),qV (encA it x),s.N,np'⟩ (qF encH E0 s.N s.np np' w Q))
  (hdone: ∀x,y= .inl x->Q .normal ⟨E0,qQ 0 (encH x),qV (encH x),s.N,s.np⟩):Ev false P (.rangeFunc fo ps assign body) s Q:=by
 intro ro hro A L g0 w0 g a w B hB hr hg hn;have hN:ro=none:=by cases ro<;>first|rfl|cases hro
 subst hN;have hfv:=A2 hr.env fo;rw[hf] at hfv;obtain⟨p,hpJ,hev⟩: ∃p,g.J c=some p/\a.eval fo= .func (.func gf) #[] #[.pointer (some ⟨p.1,p.2,none⟩)]:=by
  rcases hfv.1 with⟨h1,_⟩ |⟨_,vs,⟨p,vs',h4,h5,h6⟩,h3⟩
  .cases h1
  rw[show vs'=[] from h6] at h5;subst h5;simp only[aS4,and_true] at h3;exact⟨p,h4,h3⟩
 obtain⟨p',cs,hp',hRc,hra,hth,hns,htk⟩:=hr.heap.blk c _ hc;rw[hpJ] at hp';obtain rfl:=aSo hp';obtain⟨hr1,hg1,hn1,_⟩:=a0Q hr hg hn k hk;have hpJ1:c<s.np->(u6 g s.np k.ids).J c=some p:=fun hcN=>by
  show (if c<s.np then g.J c else _)=_;rw[aSj hcN];exact hpJ
 obtain⟨b0,o0,n0,cI,inv0,hrng⟩: ∃b0 o0 n0 cI,DL B A L g0 w0 g w b0 o0 n0 cI E0 a.tmps a.defers (u6 g s.np k.ids) w (qQ 0 (encH x0))/\∀{g1:Gh}{W:pN}{x:σ}{dd:List Deferred},DL B A L g0 w0 g w b0 o0 n0 cI E0 a.tmps dd g1 W (qQ 0 (encH x))->(c<s.np->g1.J c=some p)->once=false->W.rangeAt p.1 p.2 cs:=by
  rcases hcase with hcd|⟨hcN,hu,toksK,hcK⟩ |⟨hcN,hon⟩
  .have hout: ∀o,p.2<=o->o<p.2+u.cells->¬yB (u6 g s.np k.ids) (s.keep k).H p.1 o:=by
    rintro o h1 h2 ⟨i,blk,h3,h4⟩;have h3':pZ (PX s k (wV s.np k.ids)).H i=some blk:=h3;rw[hk] at h3';obtain⟨o',h5,rfl⟩:=IA h3';obtain⟨c1,h6,h7⟩:=(KZ hk h5 fun c1 hc1=>hr.heap.blk o' c1 hc1).2 _ _ h4;exact hr.heap.dis o' c c1 _ p.1 o (aS1 (aT3.1 hcd _ h5)) h6 hc h7 ⟨p,hpJ,rfl,h1,h2⟩
   rw[h0] at hr1 hg1 hout;exact⟨p.1,p.2,u.cells,cs,⟨hr1.env,hr1.heap,hg1,fun b o h=>⟨h,rfl⟩,hra,sL hRc,fun hpos=>by
    obtain⟨v,hv⟩:=aSn.1 (hth.1 0 hpos).1;exact UN hv,hout,hr.def_⟩,fun h _ _=>h.rng⟩
  .rw[h0] at hr1 hg1;refine⟨0,0,0,[],⟨hr1.env,hr1.heap,hg1,fun b o h=>⟨h,rfl⟩,fun j v h=>by simp at h,rfl,fun h=>absurd h pC,fun o h1 h2=>by omega,hr1.def_⟩,fun h h2 _=>?_⟩;obtain⟨p2,cs2,h3,h4,h5,_⟩:=h.heap.blk c _ (hcK _);rw[h2 hcN] at h3;obtain rfl:=aSo h3;rw[hu _ _ _ _ _ _ hRc h4];exact h5
  rw[h0] at hr1 hg1;exact⟨0,0,0,[],⟨hr1.env,hr1.heap,hg1,fun b o h=>⟨h,rfl⟩,fun j v h=>by simp at h,rfl,fun h=>absurd h pC,fun o h1 h2=>by omega,hr1.def_⟩,fun _ _ h=>by rw[hon] at h;cases h⟩
 rw[h0] at hr1 hg1;have hNG:NG<=w.heap.size:=hr.heap.tab.1.1;have hBw:w0.heap.size<=w.heap.size:=hg.fr.size;refine wpIn_rangeFunc fun fn _=>?_;obtain⟨rec,hrec⟩: ∃rec:LoopState->Option Code->Loop,rec=fun st pe=>{state:=st,pending:=pe,fn,tmps:=a.tmps,params:=ps,assign,body,defers:=w.heap.size}:=⟨_,rfl⟩;obtain⟨W1,hW1⟩: ∃W1,(w.alloc (.deferred (some []))).alloc (.loop (rec .ready none))=W1:=⟨_,rfl⟩;have hL1:W1.heap[w.heap.size+1]? =some (.loop (rec .ready none)):=by
  rw[<-hW1];have:=World.alloc_heap_new (w.alloc (.deferred (some []))) (.loop (rec .ready none));rwa [World.size_alloc] at this
 have hK1:W1.heap[w.heap.size]? =some (.deferred (some [])):=by
  rw[<-hW1];exact(aSU _ _ _ pE).trans (World.alloc_heap_new w _)
 have t1:uQ w0.heap.size w W1:=by rw[<-hW1];exact(uQ.new _ _ _).trans (uQ.new _ _ _)
 obtain⟨ds,hds⟩: ∃ds:List Deferred,{target:= .collected w.heap.size,args:= #[]}::a.defers=ds:=⟨_,rfl⟩;have hd1:zQ B W1 ds:=by
  rw[<-hds];refine⟨List.nodup_cons.2 ⟨fun hm=>?_,hr.def_.1⟩,fun d hd=>?_⟩
  .obtain⟨D,h1,_,_,h4⟩:=hr.def_.2 _ hm;have h5:w.heap.size=D:=by injection h1 with h1;injection h1
   have:=(aSO.1 h4).1;omega
  rcases aSx.1 hd with rfl|hd
  .exact⟨_,rfl,pC,hNG,hK1⟩
  obtain⟨D,h1,h2,h3,h4⟩:=hr.def_.2 _ hd;have hlt:=(aSO.1 h4).1;refine⟨D,h1,h2,h3,?_⟩;rw[<-hW1];exact(aSU _ _ D pF).trans ((aSU _ _ D hlt).trans h4)
 let l:=w.heap.size+1
 let J:Nat->pN->Prop:=fun i W=> ∃g1 x,F1 f ((items xc).drop i) x=some y/\DL B A L g0 w0 g w b0 o0 n0 cI E0 a.tmps ds g1 W (qQ 0 (encH x))/\
  (∀j,qV (encH x)<=j->g1.J j=none/\∀n,g1.cur j n=none)/\W.heap[l]? =some (.loop (rec .ready none))/\(c<s.np->g1.J c=some p)
 let Jx:pN->Prop:=fun W=> ∃g1 Bl e cd z,aLs e=some cd/\y= .inr z/\Q e ⟨E0,qQ 0 Bl,qV Bl,s.N,s.np⟩/\DL B A L g0 w0 g w b0 o0 n0 cI E0 a.tmps ds g1 W (qQ 0 Bl)/\
  (∀j,qV Bl<=j->g1.J j=none/\∀n,g1.cur j n=none)/\s.np<=qV Bl/\W.heap[l]? =some (.loop (rec .done (some cd)))
 have tbel: ∀{W W':pN},Below W.heap.size W W'->uQ w0.heap.size W W':=fun hb=>⟨hb.os,hb.tape,hb.output,hb.size,fun b h=> .inl (hb.block b h)⟩;have hob: ∀{W W':pN}{D:Nat}{ob:Obj},Below W.heap.size W W'->W.heap[D]? =some ob->W'.heap[D]? =some ob:=fun hb h=>(hb.block _ (aSO.1 h).1).trans h;have hJd: ∀i W W',J i W->Below W.heap.size W W'->J i W':=fun i W W' ⟨g1,x,h1,h2,h3,h4,h5⟩ hb=>⟨g1,x,h1,h2.turn (tbel hb) (h2.defs.same fun _ h=>hob hb h),h3,hob hb h4,h5⟩;have hJxd: ∀W W',Jx W->Below W.heap.size W W'->Jx W':=fun W W' ⟨g1,Bl,e,cd,z,h1,h2,h3,h4,h5,h6,h7⟩ hb=>⟨g1,Bl,e,cd,z,h1,h2,h3,h4.turn (tbel hb) (h4.defs.same fun _ h=>hob hb h),h5,h6,hob hb h7⟩;have hround2: ∀i it V W,(items xc)[i]? =some it->J i V->Below V.heap.size V W->YieldAt Fence.wide 0 P l (vl it).toArray W fun e W'=>((e= .returned (.bool true)/\J (i+1) W')\/(e= .returned (.bool false)/\Jx W'))/\
   ∀D,V.heap.size<=D->D<W.heap.size->W'.heap[D]? =W.heap[D]? :=by
  rintro i it V W hi ⟨g1,x,hfold,invV,nb,hlV,hgc⟩ hbel;have inv:=invV.turn (tbel hbel) (invV.defs.same fun _ h=>hob hbel h);have hl:=hob hbel hlV;have hVl:l<V.heap.size:=(aSO.1 hlV).1;have hnoV: ∀D,V.heap.size<=D->∀o,¬yB g1 (qQ 0 (encH x)) D o:=fun D hD o ⟨i,blk,h1,h2⟩=>by
   have:=KO (invV.heap.blk i blk h1) h2;omega
  have hil:i<(items xc).length:=(aSz.1 hi).1;have hdrop:(items xc).drop i=it::(items xc).drop (i+1):=by
   rw[aSK hil];congr 1;exact(aSz.1 hi).2
  rw[hdrop] at hfold;obtain⟨wv,hw,hinl,hinr⟩:=aLr hfold;obtain⟨evA,evB⟩:=hround it x wv hw hinr;have hvl:(vl it).toArray.size=ps.size:=by
   rw[aTo,(VN (hsl it g1 W)).1,<-hps it,aTd]
  have hyl:=run_yield (P:=P) (args:=(vl it).toArray) hl (by rw[hrec];exact hvl);rw[hrec] at hyl;refine⟨fn,_,assign,body,hyl,roundIn_of_wpIn trivial ?_⟩;have hz:(ps.zip (vl it).toArray).foldl (fun tmps (t,v)=>tmps.setIfInBounds t v) a.tmps=(ps.toList.zip (vl it)).foldl (fun t (q:Nat×pO)=>t.setIfInBounds q.1 q.2) a.tmps:=by
   rw[<-aUh,Array.toList_zip]
  rw[hz];obtain⟨henv,hsz⟩:=aCA inv.env (fun q hq=>by rw[hr.size];exact aS1 (aT3.1 hpN q hq)) (hsl it g1 W) (hps it);have hL'len:((encH x).take np').length=np':=by
   rw[aSX];have:=hlen x;rw[VO] at this;omega
  have hLget: ∀i b,((encH x).take np')[i]? =some b->pZ (qQ 0 (encH x)) i=some b:=fun i b h=>by
   rw[x8];exact(aTe (by have:=(aSz.1 h).1;omega)).symm.trans h
  have hLget2: ∀i b,((encH x).take np')[i]? =some b->pZ (qQ 0 (encH x)) i=some b/\b≠.dead:=fun i b h=>⟨hLget i b h,fun e=>by
   have:=aT3.1 (hdead x) b (List.mem_of_getElem? h);subst e;cases this⟩
  have hLty: ∀i,i<((encH x).take np').length->∀b,pZ (qQ 0 (encH x)) i=some b->((encH x).take np')[i]? =some b:=fun i hi b h=>by
   rw[x8] at h;exact(aTe pC).trans h
  have gs:=sX.start inv.heap hLget2 hLty;have rA:uP W.heap.size g1 W ⟨NL E0 ps.toList (sl it),qQ 0 (encH x),qV (encH x),s.N,np'⟩ {tmps:=(ps.toList.zip (vl it)).foldl (fun t (q:Nat×pO)=>t.setIfInBounds q.1 q.2) a.tmps,defers:=[]}:=⟨henv,inv.heap,hsz.trans hr.size,nb,aBm _ _,hlen x⟩;have hlow:L.length<=((encH x).take np').length:=by rw[hL'len,<-hn];exact hnp
  refine aT2 (evA (some l) rfl _ _ g1 W g1 _ W _ (aSE _) rA gs hL'len.symm) fun e a1 wa hp=>?_;obtain⟨e',g2,s2,e1,e2,e3,e4,e5⟩:=hp;rcases aCD e1 with⟨rfl,rfl⟩ |⟨rfl,rfl⟩ |⟨id,rfl,rfl⟩
  .obtain⟨kA,hkA⟩:=e2;obtain⟨g3,k1,k2,k3,_⟩:=GB e3 e4 e5 kA;rw[hkA] at k1 k2;have inva:=inv.inner k2 k1.heap hpin hL'len.symm hlow (fun i hi b h=>hLget i b h);have hla:=aCC inv.heap k2 hl rfl;refine⟨_,run_beginRound hla (by rw[hrec]),?_⟩;obtain⟨Wb,hWb⟩: ∃Wb,wa.putObj l (.loop {rec .ready none with state:= .busy})=Wb:=⟨_,rfl⟩
   have tb:uQ w0.heap.size wa Wb:=by rw[<-hWb];exact uQ.put hla (by show w0.heap.size<=w.heap.size+1;omega) (by show NG<=w.heap.size+1;omega) rfl rfl
   have hlt:=(aSO.1 hla).1;have other: ∀{W:pN}{o o':Obj}{D:Nat},W.heap[l]? =some (.loop (rec .ready none))\/W.heap[l]? =some (.loop {rec .ready none with state:= .busy})->W.heap[D]? =some (.deferred (some []))->(W.putObj l o').heap[D]? =some (.deferred (some [])):=by
    intro W o o' D h1 h2;rw[World.putObj_heap_other (fun e=>by subst e;rcases h1 with h1|h1<;>(rw[h1] at h2;cases h2))]
    exact h2
   have invb:=inva.turn tb (inva.defs.same fun D hD=>by rw[<-hWb];exact other (o:= .loop (rec .ready none)) (.inl hla) hD);have hlb:Wb.heap[l]? =some (.loop {rec .ready none with state:= .busy}):=by rw[<-hWb];exact World.putObj_heap_same hlt
   have hkA: ∀D,V.heap.size<=D->D<W.heap.size->Wb.heap[D]? =W.heap[D]? :=fun D h1 h2=>by
    rw[<-hWb,World.putObj_heap_other pC];exact k2.fr.blk D h2 (hnoV D h1)
   rw[hWb];have hAg: ∀i,i<np'->pZ (qQ 0 (encA it x)) i=pZ (qQ 0 (encH x)) i:=fun i hi=>by
    rw[x8,x8,<-aTe hi,hA it x,aTe hi]
   have hltL: ∀i b,((encH x).take np')[i]? =some b->i<np':=fun i b h=>by
    have:=(aSz.1 h).1;omega
   have gsb:=sX.start invb.heap (fun i b h=>by rw[hAg i (hltL i b h)];exact hLget2 i b h) (fun i hi b h=>hLty i hi b (by rw[<-hAg i pC];exact h));have rB:uP W.heap.size g3 Wb ⟨E1 it,qQ 0 (encA it x),qV (encA it x),s.N,np'⟩ a1:=⟨fun t=>CX (tb.le k1.heap.sl) (k1.env t),invb.heap,k1.size,k1.nb,k1.def_.same fun D hD=>by rw[<-hWb];exact other (o:= .loop (rec .ready none)) (.inl hla) hD,hlenA it x⟩;have hWW:W.heap.size<=Wb.heap.size:=aTh k2.fr.size tb.size;refine aT2 (evB (some l) rfl _ _ g3 Wb g3 a1 Wb _ hWW rB gsb hL'len.symm) fun e a2 wc hp=>?_;obtain⟨e',g4,s4,e1,e2,e3,e4,e5⟩:=hp;have fin: ∀(kB:w4) (Bl:List pW),s4.keep kB=⟨[],qQ 0 Bl,qV Bl,s.N,np'⟩->∀jump:Option Code,∃g5,DL B A L g0 w0 g w b0 o0 n0 cI E0 a.tmps ds g5 (wc.putObj l (.loop (rec (if jump.isNone then .ready else .done) jump))) (qQ 0 Bl)/\
     (∀j,qV Bl<=j->g5.J j=none/\∀n,g5.cur j n=none)/\np'<=qV Bl/\(wc.putObj l (.loop (rec (if jump.isNone then .ready else .done) jump))).heap[l]? =some (.loop (rec (if jump.isNone then .ready else .done) jump))/\
     (Instr.endRound l jump).run P wc= .ok (.bool jump.isNone) (wc.putObj l (.loop (rec (if jump.isNone then .ready else .done) jump)))/\(c<s.np->g5.J c=some p)/\
     ∀D,V.heap.size<=D->D<W.heap.size->(wc.putObj l (.loop (rec (if jump.isNone then .ready else .done) jump))).heap[D]? =W.heap[D]? :=by
    intro kB Bl hkB jump;obtain⟨g5,j1,j2,j3,_⟩:=GB e3 e4 e5 kB;rw[hkB] at j1 j2;have invc:=invb.inner j2 j1.heap hpin hL'len.symm hlow (fun i hi b h=>by rw[hAg i pC];exact hLget i b h);have hlc:=aCC invb.heap j2 hlb rfl;have hltc:=(aSO.1 hlc).1;have tc:uQ w0.heap.size wc (wc.putObj l (.loop (rec (if jump.isNone then .ready else .done) jump))):=uQ.put hlc (by show w0.heap.size<=w.heap.size+1;omega) (by show NG<=w.heap.size+1;omega) rfl rfl;refine⟨g5,invc.turn tc (invc.defs.same fun D hD=>other (o:= .loop (rec .ready none)) (.inr hlc) hD),j1.nb,j1.np,World.putObj_heap_same hltc,?_,fun hcN=>j2.J c p pC (k2.J c p pC (hgc hcN)),fun D h1 h2=>?_⟩
    .have:=run_endRound (P:=P) jump hlc;rw[this,hrec]
    rw[World.putObj_heap_other pC,j2.fr.blk D pC (fun o ⟨i,blk,h3,h4⟩=>by
     rcases k2.perm i blk D o h3 h4 with h5|h5
     .omega
     exact hnoV D h1 o h5),hkA D h1 h2]
   rcases aCD e1 with⟨rfl,rfl⟩ |⟨rfl,rfl⟩ |⟨id,rfl,rfl⟩
   .obtain⟨kB,x',rfl,hkB⟩:=e2;obtain⟨g5,q1,q2,q3,q4,q5,q6,q7⟩:=fin kB _ hkB none;exact⟨_,_,q5,.inl ⟨rfl,g5,x',hinl x' rfl,q1,q2,q4,q6⟩,q7⟩
   .obtain⟨kB,Bl,hkB,⟨z,rfl⟩,hq⟩:=e2;obtain⟨g5,q1,q2,q3,q4,q5,q6,q7⟩:=fin kB _ hkB (some .ret);exact⟨_,_,q5,.inr ⟨rfl,g5,Bl,.ret,.ret,z,rfl,hinr z rfl,hq,q1,q2,aTh hnp q3,q4⟩,q7⟩
   obtain⟨kB,Bl,hkB,⟨z,rfl⟩,hq⟩:=e2;obtain⟨g5,q1,q2,q3,q4,q5,q6,q7⟩:=fin kB _ hkB (some (.exit id));exact⟨_,_,q5,.inr ⟨rfl,g5,Bl,.exit id,.exit id,z,rfl,hinr z rfl,hq,q1,q2,aTh hnp q3,q4⟩,q7⟩
  .exact e2.elim
  exact e2.elim
 refine⟨l,[{target:= .collected w.heap.size,args:= #[]}],W1,{target:= .fn (.func gf) #[.pointer (some ⟨p.1,p.2,none⟩)],args:= #[.func (.yield l) #[] #[]]},W1,gf,#[.func (.yield l) #[] #[]]++ #[.pointer (some ⟨p.1,p.2,none⟩)],W1,?_,?_,fun _ _=>trivial,?_,fun h=>(by cases h),?_⟩
 .rw[<-hW1,hrec];exact run_enterLoop_outer _ _ _ _ _
 .simp only[resolve,hev];simp [go_sem]
 .simp [invoke,go_sem,hit.1]
 have inv1:=inv0.turn t1 hd1;have hra1:W1.rangeAt p.1 p.2 cs:=fun j v hj=>by
  have h1:=hra j v hj;have h2:p.1<w.heap.size:=UN h1;rw[<-h1,<-hW1];exact aSH (a:=⟨p.1,p.2+j,none⟩) ((aSU _ _ p.1 pF).trans (aSU _ _ p.1 h2))
 refine(aBv (ro:=none) (n:=0-1) (hit.2 l p.1 p.2 xc cs g w J Jx hpre hRc (fun i W ⟨g1,x,_,h2,_,_,h5⟩=>⟨hrng h2 h5,fun b o hb=>(h2.sld b o hb).2⟩) hJd hJxd (fun i W ⟨g1,x,_,h2,_⟩=>h2.heap.tab.1) hround2 W1 ⟨_,x0,hy,inv1,hr1.nb,hL1,hpJ1⟩ hra1)).mono ?_;have hend: ∀{W:pN}{r:Loop},W.heap[l]? =some (.loop r)->∀{ds0:List Deferred},zQ B W ds0->zQ B (W.putObj l (.loop {r with state:= .exhausted})) ds0:=by
  intro W r h1 ds0 h2;refine h2.same fun D hD=>?_;rw[World.putObj_heap_other (fun e=>by subst e;rw[h1] at hD;cases hD)];exact hD
 rintro e W2 ⟨⟨v,rfl⟩,(⟨g1,x,h1,h2,h3,h4,_⟩ |⟨g1,Bl,e,cd,z,h1,h2,h3,h4,h5,h6,h7⟩)⟩
 .rw[aTc] at h1;have hyx:y= .inl x:=(aSo h1).symm;have hin:=h2.turn (uQ.put (o':= .loop {rec .ready none with state:= .exhausted}) h4 (by show w0.heap.size<=w.heap.size+1;omega) (by show NG<=w.heap.size+1;omega) rfl rfl) (hend h4 h2.defs)
  refine⟨none,W2.putObj l (.loop {rec .ready none with state:= .exhausted}),by have:=run_endLoop (P:=P) h4 (by rw[hrec];simp);rw[hrec] at this|-;exact this,?_⟩
  refine⟨.normal,g1,_,rfl,hdone x hyx,⟨hin.env,hin.heap,hr.size,h3,?_,aTh hnp (hlen x)⟩,hin.good,hn⟩;have:=hin.defs;rw[<-hds] at this;exact this
 have hin:=h4.turn (uQ.put (o':= .loop {rec .done (some cd) with state:= .exhausted}) h7 (by show w0.heap.size<=w.heap.size+1;omega) (by show NG<=w.heap.size+1;omega) rfl rfl) (hend h7 h4.defs)
 refine⟨some cd,W2.putObj l (.loop {rec .done (some cd) with state:= .exhausted}),by have:=run_endLoop (P:=P) h7 (by rw[hrec];simp);rw[hrec] at this|-;exact this,?_⟩
 have hdef:=hin.defs;rw[<-hds] at hdef;have hrel:uP B g1 (W2.putObj l (.loop {rec .done (some cd) with state:= .exhausted})) ⟨E0,qQ 0 Bl,qV Bl,s.N,s.np⟩ {a with defers:=[{target:= .collected w.heap.size,args:= #[]}]++a.defers}:=⟨hin.env,hin.heap,hr.size,h5,hdef,h6⟩
 cases e with
 |normal=>cases h1
 |ret=>
  obtain rfl:=aSo h1;exact wpIn_ret ⟨.ret,g1,_,rfl,h3,hrel,hin.good,hn⟩
 |exit id=>
  obtain rfl:=aSo h1;exact wpIn_exit ⟨.exit id,g1,_,rfl,h3,hrel,hin.good,hn⟩
theorem aLu {P:Program}{gf:Nat}{u:Ty}{ι:Type}{pre:u.den->Prop}{items:u.den->List ι}{vl:ι->pJ}(hit:VY true P gf u pre items vl) {sl:ι->List pX}(hsl: ∀it g w,vG g w (sl it) (vl it))
  {fo:Operand}{ps:Array Tmp}{assign body:Code}{s:St}{Q:Ex->St->Prop}{c:Nat}{k0:pL}(hf:tU s.env fo=(.val .clo (some (gf,[(c,0)])),k0)) {xc:u.den}{toks:pH}(hc:pZ s.H c=some (.cells u xc toks)) (hpre:pre xc)
  {σ ρ:Type}{f:ι->σ->Option (σ⊕ρ)}{x0:σ}{y:σ⊕ρ}(hy:F1 f (items xc) x0=some y)
  (E0:List (Nat×pX)) (E1:ι->List (Nat×pX)) (encH:σ->List pW) (encA:ι->σ->List pW) (np':Nat) (k:w4) (hk:wV s.np k.ids=true) (h0:s.keep k=⟨E0,qQ 0 (encH x0),qV (encH x0),s.N,s.np⟩)
  (hcN:c<s.np) (hpin:L6 np' E0=true) (hnp:s.np<=np') (hlen: ∀x,np'<=qV (encH x)) (hdead: ∀x,((encH x).take np').all (fun b=>match b with| .dead=>false|_=>true)=true)
  (hA: ∀it x,(encA it x).take np'=(encH x).take np') (hlenA: ∀it x,np'<=qV (encA it x))
  (hps: ∀it,ps.toList.length=(sl it).length) (hpN:(ps.toList.all fun p=>decide (p<s.N))=true)
  (hround: ∀it x w,f it x=some w->(∀z,w= .inr z->y= .inr z)->Ev true P assign ⟨NL E0 ps.toList (sl it),qQ 0 (encH x),qV (encH x),s.N,np'⟩ (qA ⟨E1 it,qQ 0 (encA it x),qV (encA it x),s.N,np'⟩)/\
   Ev true P body ⟨E1 it,qQ 0 (encA it x),qV (encA it x),s.N,np'⟩ (qF encH E0 s.N s.np np' w Q))
  (hdone: ∀x,y= .inl x->Q .normal ⟨E0,qQ 0 (encH x),qV (encH x),s.N,s.np⟩):Ev false P (.rangeFunc fo ps assign body) s Q:=
 aLt hit hsl hf hc hpre hy E0 E1 encH encA np' k hk h0 (.inr (.inr ⟨hcN,rfl⟩)) hpin hnp hlen hdead hA hlenA hps hpN hround hdone
section
variable {σ ρ:Type}{encH:σ->List pW}{E0:List (Nat×pX)}{N np np':Nat}{w:σ⊕ρ}{Q:Ex->St->Prop}{st s:St}
theorem aLv (k:w4) (h:s.keep k=st):qA st .normal s:=⟨k,h⟩
theorem aLw (k:w4) (x:σ) (hw:w= .inl x) (h:s.keep k=⟨[],qQ 0 (encH x),qV (encH x),N,np'⟩):qF encH E0 N np np' w Q .normal s:=⟨k,x,hw,h⟩
end
end Go.Proofs.YtcpbaddnmpeipaaGreatDoor.Vc
namespace Go.Proofs.YtcpbaddnmpeipaaGreatDoor
open Go.RowKit Go.Shelf Vc
section
attribute [local go_sem] Oper.semAt_some
theorem NM: ∀(s:p8) (c:UInt8),Lib.indexByte s c<s.length/\ -1<=Lib.indexByte s c
 |[],_=>by simp [Lib.indexByte]
 |b::l,c=>by
  have:=NM l c;unfold Lib.indexByte;split
  .simp
  split
  .simp;omega
  simp only[aSq];omega
end
end Go.Proofs.YtcpbaddnmpeipaaGreatDoor
namespace Go.Proofs.YtcpbaddnmpeipaaGreatDoor
open Go.RowKit Go.Shelf Vc
open Tryz
section
attribute [local go_sem] Oper.semAt_some
abbrev w7:Type:=(Ty.pair .str (.pair .str .unit)).den
def QQ (s:(Ty.list (.pair .str (.pair .str .unit))).den):List w7:=s
def a1m (it:w7):pJ:=[.agg #[.string ⟨it.1.toArray⟩,.string ⟨it.2.1.toArray⟩]]
@[go_sem] def aCE (it:w7):List pX:=[(.val (.pair .str (.pair .str .unit)) it,none)]
theorem aLx (it:w7) (g:Gh) (w:pN):vG g w (aCE it) (a1m it):=
 ⟨_,_,rfl,⟨.inl ⟨rfl,[_,_],rfl,[_],[_],rfl,rfl,[_],[],rfl,rfl,rfl⟩,trivial⟩,rfl⟩
theorem aLy:VY true prog 186 (.list (.pair .str (.pair .str .unit))) (fun d=>List.length d<=4611686018427387904) QQ a1m:=by
 refine⟨fun _ _=>rfl,?_⟩;intro l b o (d:List w7) cs g W0 J Jx hpre hR hrd hJd hJxd hJt hY W h0 hra;obtain⟨a,cap,rfl,hcap,hel⟩:=hR;have hpre:d.length<=4611686018427387904:=hpre;have c0:W.cell? ⟨b,o,none⟩=some (.slice a d.length cap):=by simpa using hra 0 _ rfl
 have re: ∀j,j<d.length->∃b' o',a=some ⟨b',o',none⟩/\∀i W,J i W->W.cell? ⟨b',o'+j*2,none⟩=some (.string ⟨(d.getD j ([],[],())).1.toArray⟩)/\W.cell? ⟨b',o'+j*2+1,none⟩=some (.string ⟨(d.getD j ([],[],())).2.1.toArray⟩):=by
  intro j hj;rcases hel with h|⟨b',o',h1,h2⟩
  .rw[h] at hj;cases hj
  refine⟨b',o',h1,fun i W h=>?_⟩;have hg:d[j]? =some (d.getD j ([],[],())):=by rw[aSM,aSu hj];rfl
  obtain⟨cs,k1,k2,k3,k4⟩:=UQ h2 hg;generalize d.getD j ([],[],())=x at k4;obtain⟨c3,c4,rfl,e1,c5,c6,rfl,e2,e3⟩:=k4;rw[show c3=[.string ⟨x.1.toArray⟩] from e1,show c5=[.string ⟨x.2.1.toArray⟩] from e2,show c6=[] from e3] at k2;have k5:=k2 0 _ rfl;have k6:=k2 1 _ rfl;have k7:=k3 0 pD;have k8:=k3 1 pD;rw[aTu] at k5 k7;exact⟨((hrd i W h).2 _ _ k7).trans k5,((hrd i W h).2 _ _ k8).trans k6⟩
 have qm: ∀j,j<d.length->(QQ d)[j]? =some (d.getD j ([],[],())):=fun j hj=>by
  show d[j]? =_;rw[aSM,aSu hj];rfl
 have qn:(QQ d).length=d.length:=rfl;generalize hn:d.length=n at*;refine(callsIn_wide (n:=0)).1 (callsIn_of_wp func186 rfl trivial ?_);simp only[Tryz.ntmps186,aTo,aSq,aSG,Nat.reduceAdd,Nat.reduceSub,Array.replicate_succ,Array.replicate_zero,List.push_toArray,List.append_toArray,List.nil_append,List.cons_append]
 gi_wp2
 gi_loopw [7] (fun p wr=> ∃k:Nat,k<=n/\p= .int .i64 k/\J k wr) (fun p _=>n- (RowKit.intOf p).toNat)
 case atStart=>exact⟨0,aTg _,rfl,h0⟩
 case round=>
  obtain⟨k,hk,rfl,hJs⟩:=hrel;by_cases hlt:k<n
  .obtain⟨b',o',rfl,hce⟩:=re k hlt;obtain⟨hc1,hc2⟩:=hce _ _ hJs;have hq:=qm k hlt;clear re qm hce;generalize d.getD k ([],[],())=x at hc1 hc2 hq;have hb2:Below wr.heap.size wr (wr.alloc (.cells #[.string ⟨x.1.toArray⟩,.string ⟨x.2.1.toArray⟩] 110)):=(Below.refl _ _).alloc (aSE _) _;obtain⟨fn,tmps,assign,body,hy,hQ⟩:=hY _ _ _ _ hq hJs hb2;dsimp only[a1m] at hy
   gi_wp2
   refine⟨rfl,hQ.mono ?_⟩;clear hQ hy;rintro e W2 ⟨h12,-⟩;rcases h12 with⟨rfl,hJ2⟩ |⟨rfl,hJx⟩
   .gi_wp2
    go_roundw
    case rel=>exact⟨k+1,pC,by simp,hJ2⟩
    case measure=>
     show n- (k+1)<n-k;omega
   gi_wp2
   refine bodyPost_ret (results_none rfl _ _ _) rfl ?_;exact⟨⟨_,rfl⟩,.inr hJx⟩
  obtain rfl:k=n:=by omega
  gi_wp2
  go_end0
  exact⟨⟨_,rfl⟩,.inl (by rw[qn];exact hJs)⟩
end
end Go.Proofs.YtcpbaddnmpeipaaGreatDoor
namespace Go.Proofs.YtcpbaddnmpeipaaGreatDoor
open Vc Go.RowKit
def F2 (g:Gh) (k n:Nat) (v:pO):Gh:={g with cur:=fun i m=>if i=k then(if m=n then some v else none) else g.cur i m}
theorem D0 (g:Gh) (k n:Nat) (v:pO):(F2 g k n v).cur k n=some v:=by simp [F2]
theorem a1n (g:Gh) (k n:Nat) (v:pO) {m:Nat}(h:n<m):(F2 g k n v).cur k m=none:=by
 simp only[F2,aTQ];rw[aSl pC]
theorem aLz {g:Gh}{w w':pN}{e:TypeId}{l l':p9}{n m b cap:Nat}{cur':Array pO}{side:List Prop}
  (hH:s9 g w (qQ 0 [.row e .str l n])) (hcur:g.cur 0 n=some (.slice (some ⟨b,0,none⟩) n cap))
  (hcm:cap<=maxLen) (hmc:m<=cap) (hl':l'.length=m)
  (hnew:w'.heap[b]? =some (.cells cur' e (0,0))) (hcs':cur'.size=cap) (htk:cur'.toList.take m=l'.map Go.Proofs.encStr) (hgr:w.grownBy w' (some b)):
  ∃g',EX g w [.row e .str l n] ⟨side,[(.own 1 m,none)],[.dead,.row e .str l' m]⟩ g' w' (.slice (some ⟨b,0,none⟩) m cap):=by
 have hg0:pZ (qQ 0 [pW.row e .str l n]) 0=some (.row e .str l n):=rfl;obtain⟨hl,v,xs,hc2,hown,hF,hnone,hseal⟩:=hH.blk 0 _ hg0;rw[hcur] at hc2;obtain rfl:=aSo hc2;have hb0: ∀o,yB g (qQ 0 [pW.row e .str l n]) b o:=fun o=>⟨0,_,hg0,_,hcur,rfl⟩;have hNG:NG<=b:=hH.tab.2 0 _ b 0 hg0 ⟨_,hcur,rfl⟩;have hS: ∀b' o,g.S b' o->b'≠b:=fun b' o h e1=>hseal b rfl o (e1▸h);have hcell: ∀b' o,g.S b' o->w'.cell? ⟨b',o,none⟩=w.cell? ⟨b',o,none⟩:=fun b' o h=>aSH (a:=⟨b',o,none⟩) (hgr.block b' (hH.sl b' o h) (fun e1=>hS b' o h (aSo e1)));refine⟨F2 g 1 m (.slice (some ⟨b,0,none⟩) m cap),fun b' o h=>⟨h,hcell b' o h⟩,⟨fun i blk h=>?_,fun i j bi bj b' o hij hi hj ho hp=>?_,fun b' o h=>aSW (hH.sl b' o h) hgr.size,HO hH.tab.1 hgr.size fun b' h=>hgr.block b' (aSW h hH.tab.1.1) (fun e1=>by have:=aSo e1;omega),fun i blk b' o h ho=>?_⟩,⟨⟨D0 ..,.inr ⟨b,cap,rfl,hmc⟩⟩,trivial⟩,⟨hgr.os,hgr.tape,hgr.output,hgr.size,fun b' hb hn=>hgr.block b' hb fun e1=>hn 0 (by rw[aSo e1];exact hb0 0),fun b' o hb hn=>?_,fun b' o h=> .inl h,fun b' s h=>?_⟩,fun i blk b' o h ho=>?_,fun _ _ _ _ _=>rfl,fun i t x ts u y us h=>?_,fun i p hi h=>h,fun i q u hi h=>?_⟩
 .match i,h with
  |0,h=>cases h;trivial
  |1,h=>
   cases h;refine⟨hl',_,l'.map Go.Proofs.encStr,D0 ..,⟨by simp [hl',Ty.cells],.inr ⟨b,cap,cur',rfl,aTg _,hnew,hmc,hcm,by simpa[Ty.cells] using hcs',by simpa[Ty.cells] using htk⟩⟩,a1i _,fun q hq=>a1n g 1 m _ hq,fun b' hb o hs=>?_⟩;cases hb;exact hseal b rfl o hs
  |i+2,h=>simp [qQ,pZ] at h
 .match i,j,hi,hj with
  |0,_,hi,_=>cases hi;exact ho
  |_,0,_,hj=>cases hj;exact hp
  |1,1,_,_=>exact hij rfl
  |i+2,_,hi,_=>simp [qQ,pZ] at hi
  |1,j+2,_,hj=>simp [qQ,pZ] at hj
 .match i,h with
  |0,h=>cases h;exact ho.elim
  |1,h=>
   cases h;obtain⟨v,h1,h2⟩:=ho;rw[D0] at h1;obtain rfl:=aSo h1;cases h2;exact hNG
  |i+2,h=>simp [qQ,pZ] at h
 .have hne:b'≠b:=fun e1=>hn (e1▸hb0 o);have:=hgr.block b' hb (fun e1=>hne (aSo e1));exact⟨aSH (a:=⟨b',o,none⟩) this,aS8 (a:=⟨b',o,none⟩) this⟩
 .by_cases e1:b'=b
  .exact .inr fun o=>e1▸hb0 o
  exact .inl ((BN (hgr.block b' (BM h) (fun e2=>e1 (aSo e2)))).trans h)
 .match i,h with
  |0,h=>cases h;exact ho.elim
  |1,h=>
   cases h;obtain⟨v,h1,h2⟩:=ho;rw[D0] at h1;obtain rfl:=aSo h1;cases h2;exact .inr (hb0 o)
  |i+2,h=>simp at h
 .match i,h with
  |0,h=>cases h
  |i+1,h=>simp at h
 match i,hi with
 |0,_=>simpa[F2] using h
theorem aLA {g:Gh}{w:pN}{e:TypeId}{l:p9}{side:List Prop}
  (hH:s9 g w (qQ 0 [.row e .str l 0])) {v:pO}(hcur:g.cur 0 0=some v):
  ∃g',EX g w [.row e .str l 0] ⟨side,[(.own 1 0,none)],[.dead,.row e .str [] 0]⟩ g' w v:=by
 have hg0:pZ (qQ 0 [pW.row e .str l 0]) 0=some (.row e .str l 0):=rfl;obtain⟨hl,v',xs,hc2,hown,hF,hnone,hseal⟩:=hH.blk 0 _ hg0;rw[hcur] at hc2;obtain rfl:=aSo hc2;have hb0: ∀b o,v.ownBlock=some b->yB g (qQ 0 [pW.row e .str l 0]) b o:=fun b o h=>⟨0,_,hg0,_,hcur,h⟩;have hv:(v= .slice none 0 0/\0=0)\/∃b cap,v= .slice (some ⟨b,0,none⟩) 0 cap/\0<=cap:=by
  rcases hown.2 with⟨h1,h2⟩ |⟨b,cap,cur,h1,_,_,h2,_⟩
  .exact .inl ⟨h1,rfl⟩
  exact .inr ⟨b,cap,h1,h2⟩
 refine⟨F2 g 1 0 v,fun b' o h=>⟨h,rfl⟩,⟨fun i blk h=>?_,fun i j bi bj b' o hij hi hj ho hp=>?_,hH.sl,hH.tab.1,fun i blk b' o h ho=>?_⟩,⟨⟨D0 ..,hv⟩,trivial⟩,Fr.refl _ _ _,fun i blk b' o h ho=>?_,fun _ _ _ _ _=>rfl,fun i t x ts u y us h=>?_,fun i p hi h=>h,fun i q u hi h=>?_⟩
 .match i,h with
  |0,h=>cases h;trivial
  |1,h=>
   cases h;have hx:xs=[]:=by
    have:=hown.1;simpa using this
   subst hx;exact⟨rfl,v,[],D0 ..,hown,rfl,fun q hq=>a1n g 1 0 _ hq,hseal⟩
  |i+2,h=>simp [qQ,pZ] at h
 .match i,j,hi,hj with
  |0,_,hi,_=>cases hi;exact ho
  |_,0,_,hj=>cases hj;exact hp
  |1,1,_,_=>exact hij rfl
  |i+2,_,hi,_=>simp [qQ,pZ] at hi
  |1,j+2,_,hj=>simp [qQ,pZ] at hj
 .match i,h with
  |0,h=>cases h;exact ho.elim
  |1,h=>
   cases h;obtain⟨v',h1,h2⟩:=ho;rw[D0] at h1;obtain rfl:=aSo h1;exact hH.tab.2 0 _ b' o hg0 ⟨_,hcur,h2⟩
  |i+2,h=>simp [qQ,pZ] at h
 .match i,h with
  |0,h=>cases h;exact ho.elim
  |1,h=>
   cases h;obtain⟨v',h1,h2⟩:=ho;rw[D0] at h1;obtain rfl:=aSo h1;exact .inr (hb0 b' o h2)
  |i+2,h=>simp at h
 .match i,h with
  |0,h=>cases h
  |i+1,h=>simp at h
 match i,hi with
 |0,_=>simpa[F2] using h
end Go.Proofs.YtcpbaddnmpeipaaGreatDoor
namespace Go.Proofs
open Go.RowKit Go.Lib
open Tryz
def Tryz.lays219_ren:Go.Shelf.Ren:=⟨fun|219=>110|217=>139|225=>140|224=>141|267=>142|266=>174|314=>175|n=>n,fun|9=>9|3=>3|4=>4|5=>5|46=>176|146=>203|51=>202|n=>n,fun|1=>0|n=>n⟩
theorem Tryz.lays219:Go.Proofs.Lays.n219 prog Tryz.lays219_ren:={
 mixed:=by kernel_rfl
 f217:=Tryz.func139.trans (aSL some pQ)
 f219:=Tryz.func110.trans (aSL some pQ)
 f224:=Tryz.func141.trans (aSL some pQ)
 f225:=Tryz.func140.trans (aSL some pQ)
 f266:=Tryz.func174.trans (aSL some pQ)
 f267:=Tryz.func142.trans (aSL some pQ)
 f314:=Tryz.func175.trans (aSL some pQ)
 t3:=Tryz.underlying3
 a3:=Tryz.isAgg3
 z3:=Tryz.sizeOf3
 v3:=Tryz.zeroValue3
 t4:=Tryz.underlying4
 a4:=Tryz.isAgg4
 z4:=Tryz.sizeOf4
 v4:=Tryz.zeroValue4
 t5:=Tryz.underlying5
 a5:=Tryz.isAgg5
 z5:=Tryz.sizeOf5
 v5:=Tryz.zeroValue5
 t9:=Tryz.underlying9
 a9:=Tryz.isAgg9
 z9:=Tryz.sizeOf9
 v9:=Tryz.zeroValue9
 t46:=Tryz.underlying176
 a46:=Tryz.isAgg176
 z46:=Tryz.sizeOf176
 v46:=Tryz.zeroValue176
 t51:=Tryz.underlying202
 a51:=Tryz.isAgg202
 z51:=Tryz.sizeOf202
 v51:=Tryz.zeroValue202
 t146:=Tryz.underlying203
 a146:=Tryz.isAgg203
 z146:=Tryz.sizeOf203
 v146:=Tryz.zeroValue203
 g1:=by kernel_rfl}
def Tryz.lays194_ren:Go.Shelf.Ren:=⟨fun|194=>164|n=>n,fun|31=>23|9=>9|3=>3|4=>4|0=>0|n=>n,fun|n=>n⟩
theorem Tryz.lays194:Go.Proofs.Lays.n194 prog Tryz.lays194_ren:={
 mixed:=by kernel_rfl
 f194:=Tryz.func164.trans (aSL some pQ)
 t0:=Tryz.underlying0
 a0:=Tryz.isAgg0
 z0:=Tryz.sizeOf0
 v0:=Tryz.zeroValue0
 t3:=Tryz.underlying3
 a3:=Tryz.isAgg3
 z3:=Tryz.sizeOf3
 v3:=Tryz.zeroValue3
 t4:=Tryz.underlying4
 a4:=Tryz.isAgg4
 z4:=Tryz.sizeOf4
 v4:=Tryz.zeroValue4
 t9:=Tryz.underlying9
 a9:=Tryz.isAgg9
 z9:=Tryz.sizeOf9
 v9:=Tryz.zeroValue9
 t31:=Tryz.underlying23
 a31:=Tryz.isAgg23
 z31:=Tryz.sizeOf23
 v31:=Tryz.zeroValue23}
def Tryz.lays153_ren:Go.Shelf.Ren:=⟨fun|153=>146|152=>177|226=>178|227=>112|228=>143|137=>133|119=>199|224=>141|225=>140|217=>139|266=>174|n=>n,fun|9=>9|3=>3|4=>4|5=>5|21=>21|117=>152|116=>151|0=>0|46=>176|124=>155|n=>n,fun|n=>n⟩
theorem Tryz.lays153:Go.Proofs.Lays.n153 prog Tryz.lays153_ren:={
 mixed:=by kernel_rfl
 f119:=Tryz.func199.trans (aSL some pQ)
 f137:=Tryz.func133.trans (aSL some pQ)
 f152:=Tryz.func177.trans (aSL some pQ)
 f153:=Tryz.func146.trans (aSL some pQ)
 f217:=Tryz.func139.trans (aSL some pQ)
 f224:=Tryz.func141.trans (aSL some pQ)
 f225:=Tryz.func140.trans (aSL some pQ)
 f226:=Tryz.func178.trans (aSL some pQ)
 f227:=Tryz.func112.trans (aSL some pQ)
 f228:=Tryz.func143.trans (aSL some pQ)
 f266:=Tryz.func174.trans (aSL some pQ)
 t0:=Tryz.underlying0
 a0:=Tryz.isAgg0
 z0:=Tryz.sizeOf0
 v0:=Tryz.zeroValue0
 t3:=Tryz.underlying3
 a3:=Tryz.isAgg3
 z3:=Tryz.sizeOf3
 v3:=Tryz.zeroValue3
 t4:=Tryz.underlying4
 a4:=Tryz.isAgg4
 z4:=Tryz.sizeOf4
 v4:=Tryz.zeroValue4
 t5:=Tryz.underlying5
 a5:=Tryz.isAgg5
 z5:=Tryz.sizeOf5
 v5:=Tryz.zeroValue5
 t9:=Tryz.underlying9
 a9:=Tryz.isAgg9
 z9:=Tryz.sizeOf9
 v9:=Tryz.zeroValue9
 t21:=Tryz.underlying21
 a21:=Tryz.isAgg21
 z21:=Tryz.sizeOf21
 v21:=Tryz.zeroValue21
 t46:=Tryz.underlying176
 a46:=Tryz.isAgg176
 z46:=Tryz.sizeOf176
 v46:=Tryz.zeroValue176
 t116:=Tryz.underlying151
 a116:=Tryz.isAgg151
 z116:=Tryz.sizeOf151
 t117:=Tryz.underlying152
 a117:=Tryz.isAgg152
 z117:=Tryz.sizeOf152
 v117:=Tryz.zeroValue152
 t124:=Tryz.underlying155
 a124:=Tryz.isAgg155
 z124:=Tryz.sizeOf155
 v124:=Tryz.zeroValue155}
def Tryz.lays106_ren:Go.Shelf.Ren:=⟨fun|106=>153|213=>187|265=>205|n=>n,fun|9=>9|3=>3|n=>n,fun|n=>n⟩
theorem Tryz.lays106:Go.Proofs.Lays.n106 prog Tryz.lays106_ren:={
 mixed:=by kernel_rfl
 f106:=Tryz.func153.trans (aSL some pQ)
 f213:=Tryz.func187.trans (aSL some pQ)
 f265:=Tryz.func205.trans (aSL some pQ)
 t3:=Tryz.underlying3
 a3:=Tryz.isAgg3
 z3:=Tryz.sizeOf3
 v3:=Tryz.zeroValue3
 t9:=Tryz.underlying9
 a9:=Tryz.isAgg9
 z9:=Tryz.sizeOf9
 v9:=Tryz.zeroValue9}
end Go.Proofs
namespace Go.Proofs.YtcpbaddnmpeipaaGreatDoor
open Vc Go.RowKit
open Tryz
theorem aLB {g:Gh}{w:pN}{e:TypeId}{l:p9}{n:Nat}{v:pO}(hH:s9 g w (qQ 0 [.row e .str l n])) (hv:rF g w (.own 0 n,none) v):
  l.length=n/\g.cur 0 n=some v/\((v= .slice none 0 0/\n=0)\/∃b cap cur,v= .slice (some ⟨b,0,none⟩) n cap/\w.heap[b]? =some (.cells cur e (0,0))/\n<=cap/\cap<=maxLen/\cur.size=cap/\Go.Sort.Holds Go.Proofs.encStr w b 0 l.toArray/\b<w.heap.size):=by
 have hg0:pZ (qQ 0 [pW.row e .str l n]) 0=some (.row e .str l n):=rfl;obtain⟨hl,v',xs,hcur,hown,hF,hnone,hseal⟩:=hH.blk 0 _ hg0;have hva:v=v':=by
  have:=hv.1.1;rw[hcur] at this;exact(aSo this).symm
 subst hva;subst hl;refine⟨rfl,hcur,?_⟩;obtain⟨hx,⟨rfl,h0⟩ |⟨b,cap,cur,rfl,hb0,hbk,hnc,hcm,hcs,htk⟩⟩:=hown
 .exact .inl ⟨rfl,h0⟩
 have hxs:=a1h hF;subst hxs;have hc1:(Ty.str).cells=1:=rfl;rw[hc1,aUc] at hcs htk;refine .inr ⟨b,cap,cur,rfl,hbk,hnc,hcm,hcs,?_,?_⟩
 .intro j hj;have hj':j<l.length:=by simpa using hj
  refine⟨?_,Lib.frozen_of_heap hbk _⟩;rw[Lib.cell_of_heap hbk,aSS];have h2:(cur.toList.take l.length)[j]? =(l.map Go.Proofs.encStr)[j]? :=by rw[htk]
  rw[aTe hj',aTm] at h2;rw[h2];simp [hj']
 rcases aTl b w.heap.size with h|h
 .exact h
 rw[Array.getElem?_eq_none h] at hbk;cases hbk
theorem aLC {g:Gh}{w:pN}{e:TypeId}{l l':p9}{n q b cap:Nat}{cur:Array pO}{side:List Prop}{pad:p9}
  (hH:s9 g w (qQ 0 [.row e .str l n])) (hcur:g.cur 0 n=some (.slice (some ⟨b,0,none⟩) n cap)) (hbk:w.heap[b]? =some (.cells cur e (0,0))) (hcs:cur.size=cap)
  (hcm:cap<=maxLen) (hp:l'.length+pad.length<=cap):
  ∃g',EX g w [.row e .str l n] ⟨side,[(.own 1 l'.length,none)],[.dead,.row e .str l' l'.length]⟩ g' (Go.Sort.putRow Go.Proofs.encStr (Go.Sort.ahead w q) b 0 (l'++pad).toArray) (.slice (some ⟨b,0,none⟩) l'.length cap):=by
 refine aLz (cur':=Go.Sort.putCells Go.Proofs.encStr 0 (l'++pad).toArray cur) hH hcur hcm pC rfl ?_ (by simpa[Go.Sort.putCells] using hcs) ?_ ⟨rfl,rfl,rfl,by simp,fun k hk hne=>?_⟩
 .simp [Go.Sort.putRow,Go.Sort.mapBlock,aTj,hbk,Go.Sort.onCells]
 .have h1:=aCs (l'++pad) cur (by rw[aSp];omega);have h2:=aSL (List.take l'.length) h1;rw[List.take_take,aSp,Nat.min_eq_left (Nat.le_add_right _ _),List.map_append,List.take_append_of_le_length pE] at h2;exact h2.trans (List.take_of_length_le pE)
 have hkb:b≠k:=fun h=>hne (by rw[h]);simp [Go.Sort.putRow,Go.Sort.mapBlock,aTj,hkb]
@[go_sem] def VZ:List pX->List pW->Option qI
 |[(.own 0 n,none)],[.row 9 .str l n2]=>some ⟨[n=n2,n2<=9223372036854775807],[(.own 1 (List.length (Lib.compact l)),none)],[.dead,.row 9 .str (Lib.compact l) (List.length (Lib.compact l))]⟩
 |_,_=>none
theorem aCF:yN prog 164 VZ:=by
 refine⟨fun _ _=>rfl,fun g w args vals L r hH ha hC hs=>?_⟩;unfold VZ at hC;split at hC
 .rename_i n l n2;cases hC;obtain rfl:n=n2:=hs _ pE;have hn:=hs (n<=9223372036854775807) pE;clear hs;obtain⟨va,_,rfl,ra,hv⟩:=ha;cases hv;obtain⟨hl,hcur,⟨rfl,rfl⟩ |⟨b,cap,cur,rfl,hbk,hnc,hcm,hcs,hho,hb⟩⟩:=aLB hH ra
  .obtain rfl:l=[]:=aTi.1 hl;refine(Any.slices_Compact_string_empty Tryz.lays194 none 0 w).mono ?_;rintro en w' ⟨rfl,rfl⟩;obtain⟨g',hg⟩:=aLA (side:=[]) hH hcur;exact⟨_,g',rfl,hg.shut,hg.heap,hg.ret,hg.fr,hg.perm,hg.J,hg.ty,hg.Jt,hg.cur⟩
  subst hl;refine(Any.slices_Compact_string Tryz.lays194 b 0 cap l w hho hn hnc).mono ?_;rintro en w' ⟨rfl,q,rfl⟩;obtain⟨g',hg⟩:=aLC (side:=[]) (q:=q) (l':=Lib.compact l) (pad:=List.replicate (l.length- (Lib.compact l).length) []) hH hcur hbk hcs hcm (by have:=Lib.compact_length_le l;simp;omega);exact⟨_,g',rfl,hg.shut,hg.heap,hg.ret,hg.fr,hg.perm,hg.J,hg.ty,hg.Jt,hg.cur⟩
 cases hC
@[go_sem] def W3:List pX->List pW->Option qI
 |[(.val .str O,none),(.val .str Z,none)],[]=>some ⟨[List.length O<4294967281],[(.val (.int .i64) (F0 O Z),none)],[]⟩
 |_,_=>none
theorem aCG:yN prog 110 W3:=by
 refine QP (fun _ _=>rfl) fun g w args vals L r hT ha hC hs=>?_;unfold W3 at hC;split at hC
 .rename_i s c;cases hC;have h1:=hs _ aSJ;obtain⟨va,_,rfl,ra,vb,_,rfl,rb,hv⟩:=ha;obtain rfl:=x6 ra.1;obtain rfl:=x6 rb.1;cases hv;obtain⟨m,hm⟩:=hT.2.2.1;exact⟨rfl,rfl,(aCo (Any.stringslite_Index Tryz.lays219 ⟨List.toArray s⟩ ⟨List.toArray c⟩ m w h1 hm)).mono fun e w' ⟨he,hb⟩=>⟨_,he,hb,wB _ _ _ _,trivial⟩⟩
 cases hC
end Go.Proofs.YtcpbaddnmpeipaaGreatDoor
namespace Go.Proofs
open Go.RowKit Go.Lib Go.Shelf
def Tryz.sortFld_ren:Go.Shelf.Ren:=⟨fun|6=>185|15=>192|14=>204|28=>217|29=>218|20=>228|21=>229|22=>230|23=>231|24=>232|25=>233|26=>234|27=>235|46=>249|47=>237|48=>238|49=>250|50=>251|57=>256|n=>n,fun|22=>24|24=>110|25=>188|3=>3|39=>176|0=>0|53=>202|55=>241|4=>4|46=>234|45=>233|50=>54|5=>5|9=>9|66=>255|70=>259|76=>268|77=>140|n=>n,fun|n=>n⟩
theorem Tryz.sortFld:Go.Proofs.SlLaysF0.n6 Tryz.prog Tryz.sortFld_ren:={
 mixed:=by kernel_rfl
 f6:=⟨Tryz.f185.name,pD,Tryz.func185.trans (aSL some pQ)⟩
 f14:=⟨Tryz.f204.name,pD,Tryz.func204.trans (aSL some pQ)⟩
 f15:=Tryz.func192.trans (aSL some pQ)
 f20:=⟨Tryz.f228.name,pD,Tryz.func228.trans (aSL some pQ)⟩
 f21:=⟨Tryz.f229.name,pD,Tryz.func229.trans (aSL some pQ)⟩
 f22:=⟨Tryz.f230.name,pD,Tryz.func230.trans (aSL some pQ)⟩
 f23:=⟨Tryz.f231.name,pD,Tryz.func231.trans (aSL some pQ)⟩
 f24:=⟨Tryz.f232.name,pD,Tryz.func232.trans (aSL some pQ)⟩
 f25:=⟨Tryz.f233.name,pD,Tryz.func233.trans (aSL some pQ)⟩
 f26:=⟨Tryz.f234.name,pD,Tryz.func234.trans (aSL some pQ)⟩
 f27:=⟨Tryz.f235.name,pD,Tryz.func235.trans (aSL some pQ)⟩
 f28:=Tryz.func217.trans (aSL some pQ)
 f29:=Tryz.func218.trans (aSL some pQ)
 f46:=⟨Tryz.f249.name,pD,Tryz.func249.trans (aSL some pQ)⟩
 f47:=Tryz.func237.trans (aSL some pQ)
 f48:=Tryz.func238.trans (aSL some pQ)
 f49:=⟨Tryz.f250.name,pD,Tryz.func250.trans (aSL some pQ)⟩
 f50:=⟨Tryz.f251.name,pD,Tryz.func251.trans (aSL some pQ)⟩
 f57:=⟨Tryz.f256.name,pD,Tryz.func256.trans (aSL some pQ)⟩
 t0:=Tryz.underlying0
 a0:=Tryz.isAgg0
 z0:=Tryz.sizeOf0
 v0:=Tryz.zeroValue0
 t3:=Tryz.underlying3
 a3:=Tryz.isAgg3
 z3:=Tryz.sizeOf3
 v3:=Tryz.zeroValue3
 t4:=Tryz.underlying4
 a4:=Tryz.isAgg4
 z4:=Tryz.sizeOf4
 v4:=Tryz.zeroValue4
 t5:=Tryz.underlying5
 a5:=Tryz.isAgg5
 z5:=Tryz.sizeOf5
 v5:=Tryz.zeroValue5
 t9:=Tryz.underlying9
 a9:=Tryz.isAgg9
 z9:=Tryz.sizeOf9
 v9:=Tryz.zeroValue9
 t22:=Tryz.underlying24
 a22:=Tryz.isAgg24
 z22:=Tryz.sizeOf24
 v22:=Tryz.zeroValue24
 t25:=Tryz.underlying188
 a25:=Tryz.isAgg188
 z25:=Tryz.sizeOf188
 v25:=Tryz.zeroValue188
 t39:=Tryz.underlying176
 a39:=Tryz.isAgg176
 z39:=Tryz.sizeOf176
 v39:=Tryz.zeroValue176
 t45:=Tryz.underlying233
 a45:=Tryz.isAgg233
 z45:=Tryz.sizeOf233
 v45:=Tryz.zeroValue233
 t46:=Tryz.underlying234
 a46:=Tryz.isAgg234
 z46:=Tryz.sizeOf234
 v46:=Tryz.zeroValue234
 t50:=Tryz.underlying54
 a50:=Tryz.isAgg54
 z50:=Tryz.sizeOf54
 v50:=Tryz.zeroValue54
 t53:=Tryz.underlying202
 a53:=Tryz.isAgg202
 z53:=Tryz.sizeOf202
 v53:=Tryz.zeroValue202
 t55:=Tryz.underlying241
 a55:=Tryz.isAgg241
 z55:=Tryz.sizeOf241
 v55:=Tryz.zeroValue241
 t66:=Tryz.underlying255
 a66:=Tryz.isAgg255
 z66:=Tryz.sizeOf255
 v66:=Tryz.zeroValue255
 t70:=Tryz.underlying259
 a70:=Tryz.isAgg259
 z70:=Tryz.sizeOf259
 v70:=Tryz.zeroValue259
 t76:=Tryz.underlying268
 a76:=Tryz.isAgg268
 z76:=Tryz.sizeOf268
 v76:=Tryz.zeroValue268
 t77:=Tryz.underlying140
 a77:=Tryz.isAgg140
 z77:=Tryz.sizeOf140
 v77:=Tryz.zeroValue140}
end Go.Proofs
namespace Go.Proofs.YtcpbaddnmpeipaaGreatDoor
open Vc Go.RowKit Go.Sort
def D1 (x y:w7):Int:=Lib.compareBytes x.1 y.1
theorem a1o: ∀(a b:p8),Lib.compareBytes a b<0↔a<b
 |[],[]=>by simp [Lib.compareBytes]
 |[],_::_=>by simp [Lib.compareBytes]
 |_::_,[]=>by simp [Lib.compareBytes]
 |a::u,b::bs=>by
  rw[List.cons_lt_cons_iff];unfold Lib.compareBytes;by_cases h1:a<b
  .simp [h1]
  by_cases h2:b<a
  .have: ¬a=b:=fun e=>by subst e;exact h1 h2
   simp [h1,h2,this]
  have:a=b:=UInt8.le_antisymm (by simpa using h2) (by simpa using h1);subst this;simp only[h1,aUj,false_or,true_and];exact a1o u bs
theorem a1p (x y:w7):ltOf D1 x y=decide (x.1<y.1):=by
 unfold ltOf D1;rw[decide_eq_decide];exact a1o _ _
theorem aCH:SWO (ltOf D1) where
 irrefl x:=by rw[a1p];simp [List.lt_irrefl]
 trans x y z h1 h2:=by
  rw[a1p,aSs] at*;exact List.lt_trans h1 h2
 ntrans x y z h1 h2:=by
  rw[a1p,aS2,List.not_lt] at*;exact List.le_trans h2 h1
def L7 (x:w7):pJ:=[.string ⟨x.1.toArray⟩,.string ⟨x.2.1.toArray⟩]
def xT:List w7->pJ
 |[]=>[]
 |x::l=> .string ⟨x.1.toArray⟩:: .string ⟨x.2.1.toArray⟩::xT l
theorem ID: ∀l:List w7,(xT l).length=l.length*2
 |[]=>rfl
 |x::l=>by simp only[xT,aSq,ID l];omega
theorem aCI: ∀(l:List w7) (t:Nat),t<l.length*2->(xT l)[t]? =(L7 (l.getD (t/2) default))[t%2]?
 |[],t,h=>by simp at h
 |x::l,0,_=>rfl
 |x::l,1,_=>rfl
 |x::l,t+2,h=>by
  have h':t<l.length*2:=by simp only[aSq] at h;omega
  have e1:(t+2) /2=t/2+1:=by omega
  have e2:(t+2) %2=t%2:=by omega
  rw[e1,e2];simp only[xT,aS7,List.getD_cons_succ];exact aCI l t h'
theorem aCJ (l:List w7):flatK L7 2 l.toArray=(xT l).toArray:=by
 refine ext_get! (by simp [ID]) fun t ht=>?_;have ht':t<l.length*2:=by simpa using ht
 rw[get_flatK _ _ _ t (by simpa using ht')];have hq:t<(xT l).length:=by rw[ID];exact ht'
 have h1:=aCI l t ht';have e1:(xT l).toArray[t]! =(xT l)[t]:=by simp [hq]
 rw[e1];rw[aSu hq] at h1;have e2:l.toArray[t/2]! =l.getD (t/2) default:=by simp [aSM]
 rw[e2];have h2:t%2<(L7 (l.getD (t/2) default)).length:=by show _<2;omega
 rw[aSu h2] at h1;rw[getElem!_pos (L7 (l.getD (t/2) default)) (t%2) h2];exact(aSo h1).symm
theorem W4 {g:Gh}{w:pN}: ∀{l:List w7}{xs:pJ},tV (Rd g w (.pair .str (.pair .str .unit))) 2 l xs->xs=xT l
 |[],_,h=>h
 |x::l,_,⟨c1,c2,e,_,h2,h3⟩=>by
  obtain⟨d1,d2,e1,k1,d3,d4,e2,k2,k3⟩:=h2;rw[e,e1,e2,show d1=_ from k1,show d3=_ from k2,show d4=_ from k3,W4 h3];rfl
theorem W5 {g:Gh}{w:pN}: ∀(l:List w7),tV (Rd g w (.pair .str (.pair .str .unit))) 2 l (xT l)
 |[]=>rfl
 |x::l=>⟨[.string ⟨x.1.toArray⟩,.string ⟨x.2.1.toArray⟩],_,rfl,rfl,⟨[_],[_],rfl,rfl,[_],[],rfl,rfl,rfl⟩,W5 l⟩
theorem aLD (s:pJ) (cur:Array pO) (h:s.length<=cur.size):(Go.Sort.putCells id 0 s.toArray cur).toList.take s.length=s:=by
 apply List.ext_getElem
 .simp [Go.Sort.putCells];omega
 intro i h1 h2;simp only[Go.Sort.putCells,List.getElem_take,Array.getElem_toList,Array.getElem_mapIdx];rw[aSj (by simp;exact h2)];simp [h2]
theorem aLE (x y:w7) (W:pN):Calls Tryz.prog 152 #[.agg #[.string ⟨x.1.toArray⟩,.string ⟨x.2.1.toArray⟩],.agg #[.string ⟨y.1.toArray⟩,.string ⟨y.2.1.toArray⟩]] W fun e w'=>e= .returned (.int .i64 (D1 x y))/\∃q os',w'=grow (W.drewN q) os':=by
 have hcon:=fun W'=>Any.strings_Compare Tryz.lays106 ⟨x.1.toArray⟩ ⟨y.1.toArray⟩ W';change ∀W',Calls Tryz.prog 153 _ _ _ at hcon;have e0:Lib.compareBytes (⟨x.1.toArray⟩:ByteArray).data.toList (⟨y.1.toArray⟩:ByteArray).data.toList=D1 x y:=rfl;rw[e0] at hcon;generalize D1 x y=r at hcon|-
 go_enter Tryz.func152,Tryz.ntmps152
 go_wp2_with (go_at_call 153;refine(hcon _).mono ?_;rintro e w' ⟨rfl,rfl⟩)
 go_ret
 exact⟨rfl,0,_,by rw[alloc_eq_grow,alloc_eq_grow,grow_grow];rfl⟩
def vH (l:List w7):List w7:=(pdq (ltOf D1) l.toArray 0 l.length (Lib.bitLen l.length) true true).toList
theorem aCK (l:List w7):PermIn 0 l.length l.toArray (vH l).toArray/\SortedIn (ltOf D1) 0 l.length (vH l).toArray:=by
 have h:=pdq_sorts (ltOf D1) aCH l.toArray 0 l.length (Lib.bitLen l.length) true true (aTg _) pE (Or.inl rfl);unfold vH;exact⟨h.1,h.2⟩
theorem W6 (l:List w7):(vH l).length=l.length:=by
 have:=(aCK l).1.1;simpa using this
theorem aLF {g:Gh}{w:pN}{e:TypeId}{l:List w7}{v:pO}{xs:pJ}(hown:w.ownsRow 0 e 2 v l.length xs) (hF:tV (Rd g w (.pair .str (.pair .str .unit))) 2 l xs) (hn:l.length<4611686018427387904):
  Calls Tryz.prog 185 #[v,.func (.func 152) #[] #[]] w (fun en w'=>en= .returned (.tuple #[])/\w'.ownsRow 0 e 2 v l.length (xT (vH l))/\w.grownBy w' v.ownBlock):=by
 have hlen:=W6 l;have hxs:=W4 hF;subst hxs;obtain⟨hx,⟨rfl,h0⟩ |⟨b,cap,cur,rfl,hb0,hbk,hnc,hcm,hcs,htk⟩⟩:=hown
 .obtain rfl:l=[]:=aTi.1 h0;have e0:vH []=[]:=aTi.1 hlen;rw[e0];refine(AnyF.slices_SortFunc_none Tryz.sortFld none 0 (.func (.func 152) #[] #[]) w).mono ?_;rintro en w' ⟨rfl,rfl⟩;exact⟨rfl,⟨rfl,.inl ⟨rfl,rfl⟩⟩,rfl,rfl,rfl,aSE _,fun _ _ _=>rfl⟩
 have hbl:b<w.heap.size:=by
  rcases aTl b w.heap.size with h|h
  .exact h
  rw[Array.getElem?_eq_none h] at hbk;cases hbk
 have hfl:=ID l;have hH:HoldsK L7 2 w b 0 l.toArray:=by
  unfold HoldsK;rw[aCJ];intro j hj;have hj':j<(xT l).length:=by simpa using hj
  refine⟨?_,Lib.frozen_of_heap hbk _⟩;rw[Lib.cell_of_heap hbk,aSS];have h2:(cur.toList.take (l.length*2))[j]? =(xT l)[j]? :=by rw[htk]
  rw[aTe pC,aTm] at h2;rw[h2];simp [hj']
 have eg: ∀args w,(callFunc 152 args).run Tryz.prog w= .ok (.enter 152 args) w:=fun _ _=>rfl;refine(AnyQ.slices_SortFunc_eq Tryz.sortFld 2 Tryz.isAgg110 Tryz.sizeOf110 L7 (fun _=>rfl) (fun x v hv=>by simp [L7] at hv;rcases hv with rfl|rfl<;>rfl) D1 aCH 152 #[] b 0 cap l.toArray w eg (fun _ _ _ _ x y=>aLE x y _) hH hbl (by simpa using hn)).mono ?_
 rintro en w' ⟨rfl,m,os,hw⟩;have hd:pdq (ltOf D1) l.toArray 0 l.toArray.size (Lib.bitLen l.toArray.size) true true=(vH l).toArray:=by
  unfold vH;simp
 rw[hd] at hw;unfold sortWorldK putRowK at hw;rw[aCJ] at hw;subst hw;have hsz:(xT (vH l)).length<=cur.size:=by rw[ID,hlen,hcs];exact Nat.mul_le_mul_right 2 hnc
 have hnew:(grow (putRow id (Go.Sort.ahead w m) b 0 (xT (vH l)).toArray) os).heap[b]? =some (.cells (putCells id 0 (xT (vH l)).toArray cur) e (0,0)):=by
  rw[heap_grow_old _ _ (by simpa using hbl)];simp [putRow,mapBlock,aTj,hbk,onCells]
 refine⟨rfl,⟨by rw[ID,hlen],.inr ⟨b,cap,_,rfl,hb0,hnew,hnc,hcm,?_,?_⟩⟩,rfl,rfl,rfl,by simp,fun k hk hne=>?_⟩
 .simpa[putCells] using hcs
 .have:=aLD (xT (vH l)) cur hsz;rwa [ID,hlen] at this
 rw[heap_grow_old _ _ (by simpa using hk)];have hkb:b≠k:=fun h=>hne (by rw[h];rfl);simp [putRow,mapBlock,aTj,hkb]
@[go_sem] def a1q:List pX->List pW->Option qI
 |[(.own 0 n,none),(.val .clo (some (152,[])),none)],[.row e (.pair .str (.pair .str .unit)) l n2]=>some ⟨[n=n2,List.length l<4611686018427387904],[],[.row e (.pair .str (.pair .str .unit)) (vH l) n2]⟩
 |_,_=>none
theorem aLG {g:Gh}{k n:Nat}{v:pO}(h:g.cur k n=some v):g.tok k n v=g:=by
 have:(fun k' n'=>if k'=k/\n'=n then some v else g.cur k' n')=g.cur:=by
  funext k' n';split
  .rename_i e;rw[e.1,e.2,h]
  rfl
 show ({g with cur:=_}:Gh)=g
 cases g;simp only at this;simp only[this]
theorem aLH:yN Tryz.prog 185 a1q:=by
 refine⟨fun _ _=>rfl,fun g w args vals L r hH ha hC hs=>?_⟩;unfold a1q at hC;split at hC
 .rename_i n e l n2;cases hC;obtain rfl:n=n2:=hs _ pE;have hn:=hs (List.length l<4611686018427387904) pE;clear hs;obtain⟨va,_,rfl,ra,vb,_,rfl,rb,hv⟩:=ha;cases hv;obtain rfl:vb= .func (.func 152) #[] #[]:=by
   rcases rb.1 with⟨h1,_⟩ |⟨_,vs,h2,h3⟩
   .cases h1
   rw[show vs=[] from h2] at h3;simpa using h3
  have hg0:pZ (qQ 0 [pW.row e (.pair .str (.pair .str .unit)) l n]) 0=some (.row e (.pair .str (.pair .str .unit)) l n):=rfl;obtain⟨hl,v,xs,hcur,hown,hF,hnone,hseal⟩:=hH.blk 0 _ hg0;subst hl;have hva:va=v:=by
   have:=ra.1.1;rw[hcur] at this;exact(aSo this).symm
  subst hva;have hlen:=W6 l;refine(aLF hown hF hn).mono ?_;rintro en w' ⟨rfl,k1,k3⟩;have hownk: ∀b,va.ownBlock=some b->∀o,sK g (qQ 0 [pW.row e (.pair .str (.pair .str .unit)) l (List.length l)]) [0] b o:=fun b hb o=>⟨0,_,by simp,hg0,va,hcur,hb⟩;have hE:=rE.row (side:=[]) (rds:=[]) (s:=(.tup [],none)) (val:= .tuple #[]) (v:=va) (xs:=xT (vH l)) (l:=vH l) hH hlen k1 (W5 _) hnone (fun u hu=>by rw[hcur] at hu;exact(aSo hu).symm) (.inr ⟨va.ownBlock,k3,hownk⟩) (fun b o hS=>by
   have hne:va.ownBlock≠some b:=fun e=>hseal b e o hS;exact aSH (a:=⟨b,o,none⟩) (k3.block b (hH.sl b o hS) (fun e=>hne e.symm))) hseal (fun b hb=> .inr (hownk b hb)) ⟨⟨[],rfl,rfl⟩,trivial⟩
  rw[aLG hcur] at hE;refine⟨_,g,rfl,aCu hE ?_ ?_ rfl ?_ ?_ ?_⟩
  .intro i;cases i with
   |zero=>rfl
   |succ i=>rfl
  .intro i hi;simp only[qB,aSx,aTK,or_false] at hi;subst hi;exact Nat.zero_lt_one
  .intro i blk b o hi ho;cases i with
   |zero=>
    cases hi;obtain⟨u,hu,hub⟩:=ho;exact .inr ⟨0,_,hg0,u,hu,hub⟩
   |succ i=>cases hi
  .intro i t x ts u y us hi hi2;cases i with
   |zero=>cases hi
   |succ i=>cases hi
  exact⟨[],rfl,rfl⟩
 cases hC
end Go.Proofs.YtcpbaddnmpeipaaGreatDoor
namespace Go.Proofs.YtcpbaddnmpeipaaGreatDoor
open Vc
open Tryz
namespace Bs
noncomputable section
@[go_sem] abbrev uI:Ty:=(.pair .str (.pair .str (.pair .str (.pair (.list .str) (.pair (.list .str) (.pair (.int .i64) (.pair (.list (.pair .str (.pair .str .unit))) .unit)))))))
@[go_sem] abbrev A3:Ty:=(.pair .str (.pair (.list .str) (.pair (.list (.pair .str (.pair .str .unit))) (.pair (.list uI) .unit))))
@[go_sem] abbrev xU:Ty:=(.pair .mref (.pair (.list (.int .u8)) .unit))
abbrev qG:Type:=(p8×(p8×Unit))
abbrev rW:Type:=(p8×(p8×(p8×(p9×(p9×(Int×((List qG)×Unit)))))))
abbrev sE:Type:=(p8×(p9×((List qG)×((List rW)×Unit))))
@[go_sem] abbrev IE:Nat×TI:=(24,⟨(.list (.pair .str (.pair .str .unit))),110,32,true,[]⟩)
theorem W7:sY prog IE.1 IE.2:=⟨pQ,(show _/\_/\_ from⟨pQ,pQ,pQ⟩)⟩
@[go_sem] abbrev CE:Nat×TI:=(110,⟨(.pair .str (.pair .str .unit)),0,1,false,[]⟩)
theorem GH:sY prog CE.1 CE.2:=⟨pQ,(show ((_/\∃_,_/\_)\/_)/\_ from⟨.inl ⟨rfl,_,Tryz.underlying110,(show _/\_/\_/\_ from⟨rfl,pQ,pQ,(show _/\_/\_/\_ from⟨rfl,pQ,pQ,trivial⟩)⟩)⟩,(fun _=>⟨pQ,1,pD,(.struct rfl Tryz.underlying110 pQ (.cons pD rfl pQ pQ (.str Tryz.underlying9) (.cons pD rfl pQ pQ (.str Tryz.underlying9) .nil)))⟩)⟩)⟩
@[go_sem] abbrev yO:Nat×TI:=(24,⟨(.list (.pair .str (.pair .str .unit))),110,32,false,[]⟩)
theorem AT:sY prog yO.1 yO.2:=⟨pQ,(show _/\_/\_ from⟨pQ,pQ,pQ⟩)⟩
theorem r5:Tryz.prog.follows .mixedOrders=true:=by kernel_rfl
@[go_sem] abbrev NN:Nat×r7:=(133,⟨[.v,.v],VS,[],[],none⟩)
theorem W8:rD prog NN:=⟨aCp,fun _ h=>by cases h⟩
@[go_sem] abbrev QR:Nat×r7:=(80,⟨[.v,.v],VT,[],[],none⟩)
theorem a1r:rD prog QR:=⟨aCq,fun _ h=>by cases h⟩
@[go_sem] abbrev W9:Nat×r7:=(168,⟨[.v],VU,[],[],none⟩)
theorem aCL:rD prog W9:=⟨aCr,fun _ h=>by cases h⟩
@[go_sem] abbrev WA:Nat×r7:=(110,⟨[.v,.v],W3,[],[],none⟩)
theorem aCM:rD prog WA:=⟨aCG,fun _ h=>by cases h⟩
@[go_sem] abbrev NO:Nat×r7:=(78,⟨[.p xU [1]],VV,[],[],none⟩)
theorem WB:rD prog NO:=⟨aCv,fun _ h=>by cases h⟩
@[go_sem] abbrev QS:Nat×r7:=(53,⟨[.p xU [1]],VW,[],[],none⟩)
theorem a1s:rD prog QS:=⟨aCy,fun _ h=>by cases h⟩
@[go_sem] abbrev aCN:Nat×r7:=(185,⟨[.r,.v],a1q,[],[],none⟩)
theorem aLI:rD prog aCN:=⟨aLH,fun _ h=>by cases h⟩
@[go_sem] abbrev QT:Nat×r7:=(164,⟨[.r],VZ,[],[],none⟩)
theorem aCO:rD prog QT:=⟨aCF,fun _ h=>by cases h⟩
@[go_sem] abbrev QU:Nat×r7:=(163,⟨[.v],noC,[],[],some a1g⟩)
theorem aCP:rD prog QU:=aCt
end
end Bs
namespace Bs
noncomputable section
def slices_AppendSeq_api_Field_api_Field_F1_step1:w7→(List qG)→Option ((List qG)⊕(List qG)):=fun O Z=>if ((Z.length)+([O]:List qG).length)*32≤140737488355328 then some (.inl (Z++([O]:List qG))) else none
def slices_AppendSeq_api_Field_api_Field_F1 (O:(List qG)):Option (List qG):=if List.length O≤4611686018427387904 then tC (F1 (slices_AppendSeq_api_Field_api_Field_F1_step1) (QQ O) ([]:List qG)) fun Z=>some (Z) else none
section
variable (O:(List qG))
abbrev a1t:List pX:=[(.nilS,none),(.val .clo (some (186,[(0,0)])),none)]
abbrev a1u:List pW:=[.cells (.list (.pair .str (.pair .str .unit))) O []]
@[go_sem] def a1v:qI:=⟨[((slices_AppendSeq_api_Field_api_Field_F1 O)).isSome=true],[(.own 1 ((val (slices_AppendSeq_api_Field_api_Field_F1 O)).length),none)],[.cells (.list (.pair .str (.pair .str .unit))) O [],.row 110 (.pair .str (.pair .str .unit)) (val (slices_AppendSeq_api_Field_api_Field_F1 O)) ((val (slices_AppendSeq_api_Field_api_Field_F1 O)).length)]⟩
def aCQ:List pX→List pW→Option qI:=rR (V:=(List qG)) (fun x=>a1t) (a1u) fun x=>a1v x
@[go_sem] def aP9:aCQ (no_index a1t) (no_index (a1u O))=some (a1v O):=rS (fun a0 b0 h1 h2=>by cases h1;cases h2;rfl) O
end
@[go_sem] abbrev a1w:Nat×r7:=(203,⟨[.v,.f [((.list (.pair .str (.pair .str .unit))),[])]],aCQ,[],[0],none⟩)
def a1x:qW prog [IE] (qY []):=⟨⟨W7,trivial⟩,rM,r5⟩
def WC:qW prog [IE,CE] (qY []):=⟨⟨W7,⟨GH,trivial⟩⟩,a1x.Γ,r5⟩
def aCR:rD prog a1w:=by
 refine rT a1x func203 (c:=_) rfl (N:=13) pQ (ts:=[(4,none)]) rfl (fun _ _=>rfl) ?_;intro O hs hrow;dsimp only[a1t,a1u,a1v,rP,qQ,qV,r8,rQ,Nat.reduceAdd] at hs hrow|-;have hz:=hs;obtain⟨z0,d⟩:=aSn.1 hz
 try rw[rX d]
 clear hz hs;unfold slices_AppendSeq_api_Field_api_Field_F1 at d;refine pV a1x ?_;refine qD (pV WC ?_);refine rN ?_;obtain⟨hgF2,d⟩:=q8 d;obtain⟨y1,hy1,d⟩:=uM d;refine aLu aLy aLx pR pR hgF2 hy1 [(2,.val .ref (some (1,0)),none)] (fun Z=>[(2,.val .ref (some (1,0)),none),(5,.val .ref (some (3,0)),none)]) (fun x=>[.cells (.list (.pair .str (.pair .str .unit))) O [],.cells (.rl 110 (.pair .str (.pair .str .unit))) (some (2,(x.length))) [],.row 110 (.pair .str (.pair .str .unit)) x (x.length)]) (fun Z x=>[.cells (.list (.pair .str (.pair .str .unit))) O [],.cells (.rl 110 (.pair .str (.pair .str .unit))) (some (2,(x.length))) [],.row 110 (.pair .str (.pair .str .unit)) x (x.length),.cells (.pair .str (.pair .str .unit)) Z []]) 2 ⟨[2],[(0,0),(1,1),(2,2)]⟩ pR pR (aTS pR) pR (aTS pR) (fun _=>aTS rfl) (fun _=>by rfl) (fun _ _=>by rfl) (fun _ _=>aTS rfl) (fun _=>rfl) pR ?_ ?_
 .intro Z aA w1 e g;refine⟨?_,?_⟩
  .dsimp only[NL,aCE,uL,qQ,qV,Nat.reduceAdd,List.toList_toArray];refine qZ WC ?_;exact aLv ⟨[2,5],[(0,0),(1,1),(2,2),(3,3)]⟩ pR
  unfold slices_AppendSeq_api_Field_api_Field_F1_step1 at e;dsimp only[qQ,qV,Nat.reduceAdd] at e|-;refine rN ?_;obtain⟨X,e⟩:=q8 e;refine qZ WC ?_ (hp:=by exact⟨pP,X⟩)
  refine rL ?_;cases e;exact aLw ⟨[],[(0,0),(1,1),(2,2)]⟩ _ rfl pR
 rintro aA rfl;dsimp only[qQ,qV,Nat.reduceAdd] at d|-;refine rL (q9 (pV WC ?_));refine qC ?_;cases d;exact pA [(0,0),(1,2)]
def slices_Collect_api_Field_api_Field_F1 (O:(List qG)):Option (List qG):=(slices_AppendSeq_api_Field_api_Field_F1 O).bind fun Z=>some (Z)
section
variable (O:(List qG))
abbrev a1y:List pX:=[(.val .clo (some (186,[(0,0)])),none)]
abbrev a1z:List pW:=[.cells (.list (.pair .str (.pair .str .unit))) O []]
@[go_sem] def a1A:qI:=⟨[((slices_Collect_api_Field_api_Field_F1 O)).isSome=true],[(.own 1 ((val (slices_Collect_api_Field_api_Field_F1 O)).length),none)],[.cells (.list (.pair .str (.pair .str .unit))) O [],.row 110 (.pair .str (.pair .str .unit)) (val (slices_Collect_api_Field_api_Field_F1 O)) ((val (slices_Collect_api_Field_api_Field_F1 O)).length)]⟩
def aCS:List pX→List pW→Option qI:=rR (V:=(List qG)) (fun x=>a1y) (a1z) fun x=>a1A x
@[go_sem] def aQa:aCS (no_index a1y) (no_index (a1z O))=some (a1A O):=rS (fun a0 b0 h1 h2=>by cases h1;cases h2;rfl) O
end
@[go_sem] abbrev aCT:Nat×r7:=(184,⟨[.f [((.list (.pair .str (.pair .str .unit))),[])]],aCS,[],[0],none⟩)
def aCU:qW prog [yO] (qY [a1w]):=⟨⟨AT,trivial⟩,qK aCR rM,r5⟩
def aLJ:qW prog [] (qY [a1w]):=⟨trivial,qK aCR rM,r5⟩
def aLK:rD prog aCT:=by
 refine rT aCU func184 (c:=_) rfl (N:=5) pQ (ts:=[(2,none)]) rfl (fun _ _=>rfl) ?_;intro O hs hrow;dsimp only[a1y,a1z,a1A,rP,qQ,qV,r8,rQ,Nat.reduceAdd] at hs hrow|-;have hz:=hs;obtain⟨z0,d⟩:=aSn.1 hz
 try rw[rX d]
 clear hz hs;unfold slices_Collect_api_Field_api_Field_F1 at d;refine pV aCU ?_;obtain⟨Z,hv1,hw1,d⟩:=rI d
 try simp only[go_sem] at hw1
 refine pV aLJ ?_ (hp:=by exact⟨pP,(rH hv1)⟩) (h:=by simp only[go_sem,hw1];rfl)
 refine qC ?_;cases d;exact pA [(0,0),(1,66)]
def aCV (O:(List qG)):Unit:=()
section
variable (O:(List qG))
abbrev a1B:List pX:=[(.val (.list (.pair .str (.pair .str .unit))) O,none)]
abbrev a1C:List pW:=[]
@[go_sem] def a1D:qI:=⟨[],[(.val .clo (some (186,[(0,0)])),none)],[.cells (.list (.pair .str (.pair .str .unit))) O []]⟩
def aCW:List pX→List pW→Option qI:=rR (V:=(List qG)) (a1B) (fun x=>a1C) fun x=>a1D x
@[go_sem] def aQb:aCW (no_index (a1B O)) (no_index a1C)=some (a1D O):=rS (fun a0 b0 h1 h2=>by cases h1;cases h2;rfl) O
end
@[go_sem] abbrev aCX:Nat×r7:=(151,⟨[.v],aCW,[],[],none⟩)
def a1E:qW prog [yO] (qY []):=⟨⟨AT,trivial⟩,rM,r5⟩
def aLL:rD prog aCX:=by
 refine rT a1E func151 (c:=_) rfl (N:=4) pQ (ts:=[(2,none)]) rfl (fun _ _=>rfl) ?_;intro O hs hrow;dsimp only[a1B,a1C,a1D,rP,qQ,qV,r8,rQ,Nat.reduceAdd] at hs hrow|-;obtain⟨z0,d⟩: ∃z,(aCV O)=z:=⟨_,rfl⟩
 try rw[d]
 unfold aCV at d;refine pV a1E ?_;refine pV a1E ?_;refine qC ?_;cases d;exact pA [(0,0)]
def slices_SortedFunc_api_Field_api_Field_F1_blocks_sortedF1 (O:(List qG)):Option ((List qG)×Nat):=(slices_Collect_api_Field_api_Field_F1 O).bind fun Z=>if List.length Z<4611686018427387904 then some (((vH Z),(Z.length))) else none
section
variable (O:(List qG))
abbrev a1F:List pX:=[(.val .clo (some (186,[(0,0)])),none),(.val .clo (some (152,[])),none)]
abbrev a1G:List pW:=[.cells (.list (.pair .str (.pair .str .unit))) O []]
@[go_sem] def a1H:qI:=⟨[((slices_SortedFunc_api_Field_api_Field_F1_blocks_sortedF1 O)).isSome=true],[(.own 1 ((val (slices_SortedFunc_api_Field_api_Field_F1_blocks_sortedF1 O)).2),none)],[.cells (.list (.pair .str (.pair .str .unit))) O [],.row 110 (.pair .str (.pair .str .unit)) ((val (slices_SortedFunc_api_Field_api_Field_F1_blocks_sortedF1 O)).1) ((val (slices_SortedFunc_api_Field_api_Field_F1_blocks_sortedF1 O)).2)]⟩
def aCY:List pX→List pW→Option qI:=rR (V:=(List qG)) (fun x=>a1F) (a1G) fun x=>a1H x
@[go_sem] def aQc:aCY (no_index a1F) (no_index (a1G O))=some (a1H O):=rS (fun a0 b0 h1 h2=>by cases h1;cases h2;rfl) O
end
@[go_sem] abbrev aCZ:Nat×r7:=(150,⟨[.f [((.list (.pair .str (.pair .str .unit))),[])],.v],aCY,[],[0],none⟩)
def QV:qW prog [yO] (qY [aCT,aCN]):=⟨⟨AT,trivial⟩,qK aLK (qK aLI rM),r5⟩
def aLM:rD prog aCZ:=by
 refine rT QV func150 (c:=_) rfl (N:=12) pQ (ts:=[(4,none)]) rfl (fun _ _=>rfl) ?_;intro O hs hrow;dsimp only[a1F,a1G,a1H,rP,qQ,qV,r8,rQ,Nat.reduceAdd] at hs hrow|-;have hz:=hs;obtain⟨z0,d⟩:=aSn.1 hz
 try rw[rX d]
 clear hz hs;unfold slices_SortedFunc_api_Field_api_Field_F1_blocks_sortedF1 at d;refine pV QV ?_;obtain⟨Z,hv1,hw1,d⟩:=rI d
 try simp only[go_sem] at hw1
 refine pV QV ?_ (hp:=by exact⟨pP,(rH hv1)⟩) (h:=by simp only[go_sem,hw1];rfl)
 obtain⟨X,d⟩:=q8 d;refine pV QV ?_ (hp:=by exact⟨pP,X⟩)
 refine pV QV ?_;refine qC ?_;cases d;exact pA [(0,0),(1,66)]
def blocks_sorted (O:(List qG)):Option ((List qG)×Nat):=(slices_SortedFunc_api_Field_api_Field_F1_blocks_sortedF1 O).bind fun Z=>some ((Z.1,Z.2))
section
variable (O:(List qG))
abbrev a1I:List pX:=[(.val (.list (.pair .str (.pair .str .unit))) O,none)]
abbrev a1J:List pW:=[]
@[go_sem] def a1K:qI:=⟨[((blocks_sorted O)).isSome=true],[(.own 0 ((val (blocks_sorted O)).2),none)],[.row 110 (.pair .str (.pair .str .unit)) ((val (blocks_sorted O)).1) ((val (blocks_sorted O)).2)]⟩
def aC0:List pX→List pW→Option qI:=rR (V:=(List qG)) (a1I) (fun x=>a1J) fun x=>a1K x
@[go_sem] def blocks_sortedC_eq:aC0 (no_index (a1I O)) (no_index a1J)=some (a1K O):=rS (fun a0 b0 h1 h2=>by cases h1;cases h2;rfl) O
end
@[go_sem] abbrev aLN:Nat×r7:=(116,⟨[.v],aC0,[],[],none⟩)
def a1L:qW prog [yO] (qY [aCX,aCZ]):=⟨⟨AT,trivial⟩,qK aLL (qK aLM rM),r5⟩
def blocks_sorted_con:rD prog aLN:=by
 refine rT a1L func116 (c:=_) rfl (N:=6) pQ (ts:=[(2,none)]) rfl (fun _ _=>rfl) ?_;intro O hs hrow;dsimp only[a1I,a1J,a1K,rP,qQ,qV,r8,rQ,Nat.reduceAdd] at hs hrow|-;have hz:=hs;obtain⟨z0,d⟩:=aSn.1 hz
 try rw[rX d]
 clear hz hs;unfold blocks_sorted at d;refine pV a1L ?_;obtain⟨Z,hv1,hw1,d⟩:=rI d
 try simp only[go_sem] at hw1
 refine pV a1L ?_ (hp:=by exact⟨pP,(rH hv1)⟩) (h:=by simp only[go_sem,hw1];rfl)
 refine qC ?_;cases d;exact pA [(0,97)]
attribute [irreducible] slices_AppendSeq_api_Field_api_Field_F1 slices_Collect_api_Field_api_Field_F1 slices_SortedFunc_api_Field_api_Field_F1_blocks_sortedF1 blocks_sorted
end
end Bs
end Go.Proofs.YtcpbaddnmpeipaaGreatDoor
section
end
namespace Go.Proofs.YtcpbaddnmpeipaaGreatDoor
open Vc Go.RowKit
open Tryz
abbrev GI:Ty:= .pair .str (.pair .str .unit)
@[go_sem] def WD (F:List w7->Option (List w7×Nat)):List pX->List pW->Option qI
 |[(.own 0 n,none)],[.row 110 (.pair .str (.pair .str .unit)) l n2]=>some ⟨[n=n2,(F l).isSome=true],[(.own 1 (val (F l)).2,none)],[.dead,.row 110 (.pair .str (.pair .str .unit)) (val (F l)).1 (val (F l)).2]⟩
 |_,_=>none
theorem aLO {g g1:Gh}{w:pN}{b:Nat}{cur:Array pO}{e:TypeId}(hbk:w.heap[b]? =some (.cells cur e (0,0))) (l:List w7) (htk:cur.toList.take (l.length*2)=xT l) (hS: ∀o,o<l.length*2->g1.S b o):
  yJ (Rd g1 w GI) w g1.S 2 b 0 l:=by
 refine I6 (W5 l) (fun j u hu=>?_) (fun j hj=>?_)
 .rw[aSS,Lib.cell_of_heap hbk];have hj:j<(xT l).length:=(aSz.1 hu).1;rw[ID] at hj;rw[<-htk,aTe hj,aTm] at hu;exact hu
 rw[aSS];exact hS j hj
theorem aLP {f:FuncId}{C:List pX->List pW->Option qI}{F:List w7->Option (List w7×Nat)}(h:yN prog f C)
  (hC: ∀l,C [(.val (.list GI) l,none)] []=some ⟨[(F l).isSome=true],[(.own 0 (val (F l)).2,none)],[.row 110 GI (val (F l)).1 (val (F l)).2]⟩):yN prog f (WD F):=by
 refine⟨h.1,fun g w args vals L r hH ha hC' hs=>?_⟩;unfold WD at hC';split at hC'
 .rename_i n l n2;cases hC';obtain rfl:n=n2:=hs _ pE;have hsome:=hs ((F l).isSome=true) pE;clear hs;obtain⟨va,_,rfl,ra,hv⟩:=ha;cases hv;have hg0:pZ (qQ 0 [pW.row 110 GI l n]) 0=some (.row 110 GI l n):=rfl;obtain⟨hl,v,xs,hcur,hown,hF,hnone,hseal⟩:=hH.blk 0 _ hg0;subst hl;have hva:va=v:=by
   have:=ra.1.1;rw[hcur] at this;exact(aSo this).symm
  subst hva;have hxs:=W4 hF;subst hxs
  let g1:Gh:=⟨fun b o=>va.ownBlock=some b/\o<l.length*2,fun _=>none,fun _ _=>none⟩
  have hH1:s9 g1 w (qQ 0 []):=⟨fun _ _ h=>(by cases h),fun _ _ _ _ _ _ _ h=>(by cases h),fun b o h=>KN hown h.1,⟨hH.tab.1,fun _ _ _ _ h=>(by cases h)⟩⟩;have hrd:sW g1 w (.list GI) l va:=by
   refine .inr ⟨rfl,?_⟩;obtain⟨hx,⟨rfl,h0⟩ |⟨b,cap,cur,rfl,hb0,hbk,hnc,hcm,hcs,htk⟩⟩:=hown
   .obtain rfl:l=[]:=aTi.1 h0;exact⟨none,0,rfl,aSE _,.inl rfl⟩
   exact⟨some ⟨b,0,none⟩,cap,rfl,hnc,.inr ⟨b,0,rfl,aLO (g:=g) hbk l htk (fun o ho=>⟨rfl,ho⟩)⟩⟩
  have hcall:=h.2 g1 w [(.val (.list GI) l,none)] [va] [] _ hH1 ⟨_,_,rfl,⟨hrd,trivial⟩,rfl⟩ (hC l) (fun p hp=>by simp only[aSC] at hp;rw[hp];exact hsome);refine hcall.mono ?_;rintro en w' ⟨v',g',rfl,ho⟩;have hbel:Below w.heap.size w w':=⟨ho.fr.os,ho.fr.tape,ho.fr.output,ho.fr.size,fun b hb=>ho.fr.blk b hb fun o ⟨i,blk,h1,_⟩=>(by cases h1)⟩;have hret:rF g' w' (.own 0 (val (F l)).2,none) v':=ho.ret;have hg1:pZ (qQ 0 [pW.row 110 GI (val (F l)).1 (val (F l)).2]) 0=some (.row 110 GI (val (F l)).1 (val (F l)).2):=rfl;obtain⟨kl,v2,xs2,kcur,kown,kF,knone,kseal⟩:=ho.heap.blk 0 _ hg1;have hv2:v2=v':=by
   have:=hret.1.1;rw[kcur] at this;exact aSo this
  subst hv2;have hxs2:=W4 kF;subst hxs2;generalize hfl:(val (F l)).1=l' at*;generalize hfn:(val (F l)).2=n' at*;have hnewb: ∀b,v2.ownBlock=some b->w.heap.size<=b:=fun b hb=>by
   rcases ho.perm 0 _ b 0 rfl ⟨v2,kcur,hb⟩ with h1|⟨i,blk,h1,_⟩
   .exact h1
   cases h1
  have hlt: ∀b o,g.S b o->v2.ownBlock≠some b:=fun b o h e1=>by have:=hH.sl b o h;have:=hnewb b e1;omega
  have hshape:=hret.1.2;refine⟨_,F2 g 1 n' v2,rfl,fun b' o h=>⟨h,aSH (a:=⟨b',o,none⟩) (hbel.block b' (hH.sl b' o h))⟩,⟨fun i blk h=>?_,fun i j bi bj b' o hij hi hj h1 h2=>?_,fun b' o h=>aSW (hH.sl b' o h) hbel.size,HO hH.tab.1 hbel.size fun b' h=>hbel.block b' (aSW h hH.tab.1.1),fun i blk b' o h h1=>?_⟩,
   ⟨⟨D0 ..,hshape⟩,trivial⟩,⟨hbel.os,hbel.tape,hbel.output,hbel.size,fun b hb _=>hbel.block b hb,fun b o hb _=>⟨aSH (a:=⟨b,o,none⟩) (hbel.block b hb),aS8 (a:=⟨b,o,none⟩) (hbel.block b hb)⟩,fun b o hS=> .inl hS,fun b s h=> .inl ((BN (hbel.block b (BM h))).trans h)⟩,fun i blk b' o h h1=>?_,fun _ _ _ _ _=>rfl,fun i t x ts u y us h=>?_,fun i p hi h=>h,fun i q u hi h=>?_⟩
  .match i,h with
   |0,h=>cases h;trivial
   |1,h=>
    cases h;exact⟨kl,v2,_,D0 ..,kown,W5 _,fun q hq=>a1n g 1 n' _ hq,fun b' hb o hs=>hlt b' o hs hb⟩
   |i+2,h=>simp [qQ,pZ] at h
  .match i,j,hi,hj with
   |0,_,hi,_=>cases hi;exact h1
   |_,0,_,hj=>cases hj;exact h2
   |1,1,_,_=>exact hij rfl
   |i+2,_,hi,_=>simp [qQ,pZ] at hi
   |1,j+2,_,hj=>simp [qQ,pZ] at hj
  .match i,h with
   |0,h=>cases h;exact h1.elim
   |1,h=>
    cases h;obtain⟨v,h3,h4⟩:=h1;rw[D0] at h3;obtain rfl:=aSo h3;exact aTh hH.tab.1.1 (hnewb b' h4)
   |i+2,h=>simp [qQ,pZ] at h
  .match i,h with
   |0,h=>cases h;exact h1.elim
   |1,h=>
    cases h;obtain⟨v,h3,h4⟩:=h1;rw[D0] at h3;obtain rfl:=aSo h3;exact .inl (hnewb b' h4)
   |i+2,h=>simp at h
  .match i,h with
   |0,h=>cases h
   |i+1,h=>simp at h
  match i,hi with
  |0,_=>simpa[F2] using h
 cases hC'
theorem aLQ:yN prog 116 (WD Bs.blocks_sorted):=
 aLP Bs.blocks_sorted_con.1 (fun l=>Bs.blocks_sortedC_eq l)
end Go.Proofs.YtcpbaddnmpeipaaGreatDoor
namespace Go.Proofs.YtcpbaddnmpeipaaGreatDoor.Vc
open Go.RowKit
section
variable {P:Program}{R:Bool}
theorem aLR {c:Code}{s:St}{Q:Ex->St->Prop}(env':List (Nat×pX)) (h0: ∀(g:Gh) (w:pN) (i:Nat) (v:pO),rF g w (lk s.env i) v->rF g w (lk env' i) v)
  (h:Ev R P c ⟨env',s.H,s.nb,s.N,s.np⟩ Q):Ev R P c s Q:=by
 intro ro hro A L g0 w0 g a w B hB hr hg hn;exact h ro hro A L g0 w0 g a w B hB ⟨fun i=>h0 _ _ _ _ (hr.env i),hr.heap,hr.size,hr.nb,hr.def_,hr.np⟩ hg hn
@[go_sem] def WE:pX->pX
 |(.val .clo (some (f,[])),_)=>(.val .fn (some f),none)
 |(.val .clo none,_)=>(.val .fn none,none)
 |s=>s
@[go_sem] def QW (i:Nat):List (Nat×pX)->List (Nat×pX)
 |[]=>[]
 |(j,s)::r=>(j,if j=i then WE s else s)::QW i r
theorem aC1 {i:Nat}: ∀{env:List (Nat×pX)}{j:Nat},lk (QW i env) j=if j=i then WE (lk env j) else lk env j
 |[],j=>by simp only[QW,lk];split<;>rfl
 |(k,s)::r,j=>by
  simp only[QW,lk];split
  .rename_i h;subst h;rfl
  exact aC1
theorem aLS {g:Gh}{w:pN}{s:pX}{v:pO}(h:rF g w s v):rF g w (WE s) v:=by
 unfold WE;split
 .rename_i f k;refine⟨?_,trivial⟩;rcases h.1 with⟨h1,_⟩ |⟨_,vs,h2,h3⟩
  .cases h1
  rw[show vs=[] from h2] at h3;exact .inr ⟨rfl,h3⟩
 .rename_i k;refine⟨?_,trivial⟩;rcases h.1 with⟨h1,_⟩ |⟨_,h2⟩
  .cases h1
  exact .inr ⟨rfl,h2⟩
 exact h
theorem aC2 {c:Code}{s:St}{Q:Ex->St->Prop}(i:Nat) (h:Ev R P c ⟨QW i s.env,s.H,s.nb,s.N,s.np⟩ Q):Ev R P c s Q:=by
 refine aLR _ (fun g w j v hv=>?_) h;rw[aC1];split
 .exact aLS hv
 exact hv
@[go_sem] def aC3 (q:Nat×(Nat×Nat)×(Nat×Nat)):Nat×Nat×(Nat×Nat)×(Nat×Nat)->Nat×Nat×(Nat×Nat)×(Nat×Nat)
 |(0,_)=>(0,q)
 |(n+1,x)=>(n+1,x)
@[go_sem] def CF (q:Nat×(Nat×Nat)×(Nat×Nat)):(t:Ty)->t.den->t.den
 | .ap,x=>aC3 q x
 | .pair a b,x=>(CF q a x.1,CF q b x.2)
 | .bool,x=>x
 | .int _,x=>x
 | .str,x=>x
 | .list _,x=>x
 | .unit,x=>x
 | .ref,x=>x
 | .clo,x=>x
 | .mp,x=>x
 | .mref,x=>x
 | .fn,x=>x
 | .rl _ _,x=>x
theorem aLT {g:Gh}{w:pN}{q:Nat×(Nat×Nat)×(Nat×Nat)}: ∀{x:Nat×Nat×(Nat×Nat)×(Nat×Nat)}{cs:pJ},EU g w x cs->EU g w (aC3 q x) cs
 |(0,i,(k3,n3),(k4,n4)),cs,h=>by
  obtain⟨a,⟨b1,b2⟩,d1,d2⟩:=q;rcases h with⟨_,h⟩ |⟨h,_⟩
  .exact .inl ⟨rfl,h⟩
  .exact absurd rfl h
 |(n+1,x),cs,h=>h
theorem a1M {g:Gh}{w:pN}{q:Nat×(Nat×Nat)×(Nat×Nat)}: ∀{t:Ty}{x:t.den}{cs:pJ},Rd g w t x cs->Rd g w t (CF q t x) cs
 | .ap,_,_,h=>aLT h
 | .pair a b,x,cs,⟨c1,c2,e,h1,h2⟩=>⟨c1,c2,e,a1M h1,a1M h2⟩
 | .bool,_,_,h=>h
 | .int _,_,_,h=>h
 | .str,_,_,h=>h
 | .list _,_,_,h=>h
 | .unit,_,_,h=>h
 | .ref,_,_,h=>h
 | .clo,_,_,h=>h
 | .mp,_,_,h=>h
 | .mref,_,_,h=>h
 | .fn,_,_,h=>h
 | .rl _ _,_,_,h=>h
theorem QX (q:Nat×(Nat×Nat)×(Nat×Nat)) (u:Ty): ∀(t:Ty) (x:t.den) (o:Nat),qT (.list u) t (CF q t x) o=qT (.list u) t x o
 | .pair a b,x,0=>by
  have h: ¬(Ty.pair a b= .list u):=fun h=>by cases h
  unfold qT;rw[aTI h,aTI h];show (if 0<a.cells then qT (.list u) a (CF q a x.1) 0 else qT (.list u) b (CF q b x.2) 0)=_;rw[QX q u a x.1 0,QX q u b x.2 0]
 | .pair a b,x,o+1=>by
  show (if o+1<a.cells then qT (.list u) a (CF q a x.1) (o+1) else qT (.list u) b (CF q b x.2) (o+1-a.cells))=_;rw[QX q u a x.1 (o+1),QX q u b x.2 (o+1-a.cells)];rfl
 | .ap,x,0=>by
  have h: ¬(Ty.ap= .list u):=fun h=>by cases h
  unfold qT;rw[aTI h,aTI h]
 | .ap,x,o+1=>rfl
 | .bool,_,_=>rfl
 | .int _,_,_=>rfl
 | .str,_,_=>rfl
 | .list _,_,_=>rfl
 | .unit,_,_=>rfl
 | .ref,_,_=>rfl
 | .clo,_,_=>rfl
 | .mp,_,_=>rfl
 | .mref,_,_=>rfl
 | .fn,_,_=>rfl
 | .rl _ _,_,_=>rfl
@[go_sem] def aC4 (q:Nat×(Nat×Nat)×(Nat×Nat)) (i:Nat):Option pW->List (Nat×pW)->List (Nat×pW)
 |some (.cells t x ts),H=>(i,.cells t (CF q t x) ts)::H
 |_,H=>H
@[go_sem] def NP (i:Nat) (q:Nat×(Nat×Nat)×(Nat×Nat)) (s:St):St:=⟨s.env,aC4 q i (pZ s.H i) s.H,s.nb,s.N,s.np⟩
theorem aC5 {B:Nat}{A:Nat->Nat->Prop}{L:List pW}{g0 g:Gh}{w0 w:pN}{s:St}{a:Act}(hr:uP B g w s a) (hg:sX A L g0 w0 g w s.H) (i:Nat) (q:Nat×(Nat×Nat)×(Nat×Nat)):
  uP B g w (NP i q s) a/\sX A L g0 w0 g w (NP i q s).H:=by
 unfold NP;cases hb:pZ s.H i with
 |none=>exact⟨hr,hg⟩
 |some blk=>
  cases blk with
  |cells t x ts=>
   simp only[aC4];have hget: ∀j b,pZ ((i,pW.cells t (CF q t x) ts)::s.H) j=some b->(j=i/\b= .cells t (CF q t x) ts)\/(j≠i/\pZ s.H j=some b):=by
    intro j b hjb;simp only[pZ] at hjb;split at hjb
    .rename_i e1;exact .inl ⟨e1.symm,(aSo hjb).symm⟩
    rename_i e1;exact .inr ⟨Ne.symm e1,hjb⟩
   have howns: ∀j b bb o,pZ ((i,pW.cells t (CF q t x) ts)::s.H) j=some b->s8 g j b bb o->∃b0,pZ s.H j=some b0/\s8 g j b0 bb o:=by
    intro j b bb o hj ho;rcases hget j b hj with⟨rfl,rfl⟩ |⟨_,h1⟩
    .exact⟨_,hb,ho⟩
    exact⟨b,h1,ho⟩
   refine⟨⟨hr.env,⟨fun j b hj=>?_,fun j k bj bk b o hjk h1 h2 o1 o2=>?_,hr.heap.sl,hr.heap.tab.1,fun j blk b o hj ho=>?_⟩,hr.size,hr.nb,hr.def_,hr.np⟩,⟨hg.shut,hg.fr,fun j b bb o hj ho=>?_,hg.J,hg.live,fun j u y us hj hb'=>?_,hg.cur⟩⟩
   .rcases hget j b hj with⟨rfl,rfl⟩ |⟨_,h1⟩
    .obtain⟨p,cs,h1,h2,h3,h4,h5,h6⟩:=hr.heap.blk j _ hb;refine⟨p,cs,h1,a1M h2,h3,h4,h5,fun o k hk=>?_⟩;obtain⟨u,l,v,k1,k2,k3⟩:=h6 o k hk;exact⟨u,l,v,(QX q u t x o).trans k1,k2,k3⟩
    exact hr.heap.blk j b h1
   .obtain⟨c1,k1,k2⟩:=howns j bj b o h1 o1;obtain⟨c2,k3,k4⟩:=howns k bk b o h2 o2;exact hr.heap.dis j k c1 c2 b o hjk k1 k3 k2 k4
   .obtain⟨c1,k1,k2⟩:=howns j blk b o hj ho;exact hr.heap.tab.2 j c1 b o k1 k2
   .obtain⟨c1,k1,k2⟩:=howns j b bb o hj ho;exact hg.perm j c1 bb o k1 k2
   .rcases hget j _ hb' with⟨rfl,h1⟩ |⟨_,h1⟩
    .cases h1;exact hg.ty j t x ts hj hb
    .exact hg.ty j u y us hj h1
  |_=>exact⟨hr,hg⟩
theorem aLU {c:Code}{s:St}{Q:Ex->St->Prop}(i:Nat) (q:Nat×(Nat×Nat)×(Nat×Nat)) (h:Ev R P c (NP i q s) Q):Ev R P c s Q:=by
 intro ro hro A L g0 w0 g a w B hB hr hg hn;obtain⟨h1,h2⟩:=aC5 hr hg i q;exact h ro hro A L g0 w0 g a w B hB h1 h2 hn
theorem aC6 {c:Code}{s:St}{Q:Ex->St->Prop}(i:Nat) (q:Nat×(Nat×Nat)×(Nat×Nat)) (h:Ev R P c s (fun e s=>Q e (NP i q s))):Ev R P c s Q:=by
 intro ro hro A L g0 w0 g a w B hB hr hg hn;refine aT2 (h ro hro A L g0 w0 g a w B hB hr hg hn) fun x a' w' hp=>?_;obtain⟨e,g',s',h1,h2,h3,h4,h5⟩:=hp;obtain⟨k1,k2⟩:=aC5 h3 h4 i q;exact⟨e,g',_,h1,h2,k1,k2,h5⟩
theorem yY {c:Code}{s:St}{Q:Ex->St->Prop}(i:Nat) (q:Nat×(Nat×Nat)×(Nat×Nat)) {t:Ty}{x x2:t.den}{ts:pH}(hb:pZ s.H i=some (.cells t x ts)) (hx:CF q t x=x2)
  (h:Ev R P c ⟨s.env,(i,.cells t x2 ts)::s.H,s.nb,s.N,s.np⟩ Q):Ev R P c s Q:=by
 refine aLU i q ?_;unfold NP;rw[hb];subst hx;exact h
end
def s7 (e:TypeId) (t:Ty) (o:Option (List t.den)) (n:Nat):pW:=match o with
 |some l=> .row e t l n
 |none=> .grow e t.cells n
@[go_sem high] theorem aQd (e:TypeId) (t:Ty) (l:List t.den) (n:Nat):s7 e t (some l) n= .row e t l n:=rfl
@[go_sem high] theorem aQe (e:TypeId) (t:Ty) (n:Nat):s7 e t none n= .grow e t.cells n:=rfl
theorem A4 {e:TypeId}{t:Ty}{o o2:Option (List t.den)}{n n2:Nat}(h:s7 e t o n=s7 e t o2 n2):o=o2/\n=n2:=by
 cases o<;>cases o2<;>simp only[s7] at h<;>cases h<;>exact⟨rfl,rfl⟩
@[go_sem high] theorem aLV {e:TypeId}{t:Ty}(ht:t.pure=true) (k n:Nat) (a:sQ) (o:Option (List t.den)) (m:Nat):
  xJ k n a (some (s7 e t o m))=if (!zV k (sA a.ws))=true then some ⟨(.own a.n n,none)::a.args,s7 e t o m::a.H,.tok k::a.ws,a.n+1⟩ else none:=by
 cases o<;>simp [s7,xJ,ht]
@[go_sem high] theorem aQf (W:List rK) (e:TypeId) (t:Ty) (o:Option (List t.den)) (n:Nat):JZ W (s7 e t o n)=some (s7 e t o n):=by
 cases o<;>rfl
@[go_sem high] theorem aLW (base m c:Nat) (W:List rK) {e:TypeId}{t:Ty}(ht:t.pure=true) (o:Option (List t.den)) (n:Nat):y8 base m c W (s7 e t o n)=some (base+c,s7 e t o n):=by
 cases o<;>simp [s7,y8,ht]
@[go_sem high] theorem aLX (k:Nat) {e:TypeId}{t:Ty}(ht:t.pure=true) (o:Option (List t.den)) (n:Nat):w8 k (s7 e t o n)=some (k,s7 e t o n):=by
 cases o<;>simp [s7,w8,ht]
@[go_sem high] theorem aLY (m:pH) {e:TypeId}{t:Ty}(ht:t.pure=true) (o:Option (List t.den)) (n:Nat):yV m (some (s7 e t o n))=s7 e t o n:=by
 cases o<;>simp [s7,yV,ht]
theorem A5 {α β:Type}{o:Option α}{f:α->Option β}{y:β}(h:o.bind f=some y): ∃x,o=some x/\f x=some y:=by
 cases o with
 |none=>cases h
 |some x=>exact⟨x,rfl,h⟩
theorem A6 {P:Program}{R:Bool}{c:Code}{s:St}{Q:Ex->St->Prop}(k:Nat) {e:TypeId}{t:Ty}{l:List t.den}{n:Nat}(hk:pZ s.H k=some (.row e t l n)) (h:l.length=n->Ev R P c s Q):Ev R P c s Q:=by
 intro ro hro A L g0 w0 g a w B hB hr hg hn;exact h (hr.heap.blk k _ hk).1 ro hro A L g0 w0 g a w B hB hr hg hn
@[go_sem high] theorem aQg (m:pH) (e:TypeId) (o:Option (List (Ty.str.den))) (n:Nat):yV m (some (s7 e .str o n))=s7 e .str o n:=aLY m rfl o n
@[go_sem high] theorem aQh (e:TypeId) (k n:Nat) (a:sQ) (o:Option (List (Ty.str.den))) (m:Nat):
  xJ k n a (some (s7 e .str o m))=if (!zV k (sA a.ws))=true then some ⟨(.own a.n n,none)::a.args,s7 e .str o m::a.H,.tok k::a.ws,a.n+1⟩ else none:=aLV rfl k n a o m
@[go_sem high] theorem aQi (base m c:Nat) (W:List rK) (e:TypeId) (o:Option (List (Ty.str.den))) (n:Nat):y8 base m c W (s7 e .str o n)=some (base+c,s7 e .str o n):=aLW base m c W rfl o n
@[go_sem high] theorem aQj (k:Nat) (e:TypeId) (o:Option (List (Ty.str.den))) (n:Nat):w8 k (s7 e .str o n)=some (k,s7 e .str o n):=aLX k rfl o n
theorem IF {m:pH}{e:TypeId}{t:Ty}{o:Option (List t.den)}{n:Nat}{r:List pW}(ht:t.pure=true) (h:L2 m r):L2 m (s7 e t o n::r):=by
 cases o with
 |none=>exact⟨rfl,h⟩
 |some l=>exact⟨by simp [s7,yV,ht],h⟩
attribute [go_sem] XT
end Go.Proofs.YtcpbaddnmpeipaaGreatDoor.Vc
namespace Go.Proofs.YtcpbaddnmpeipaaGreatDoor
open Vc Go.RowKit
open Tryz
theorem aLZ (w:pN) (p:Option Addr):Calls prog HM #[.pointer p] w fun e w'=> ∃b,e= .returned (.func (.func HL) #[] #[.pointer (some ⟨b,0,none⟩)])/\w.heap.size<=b/\b<w'.heap.size/\w'.cell? ⟨b,0,none⟩=some (.pointer p)/\Below w.heap.size w w':=by
 show Calls prog 155 #[.pointer p] w _
 go_enter func155,Tryz.ntmps155
 go_wp2
 go_ret
 refine⟨w.heap.size,rfl,aSE _,by simp,?_,(Below.refl _ _).alloc (aSE _) _⟩;exact Lib.cell_of_heap (World.alloc_heap_new w _) 0
theorem aL0 (w:pN) (b:Nat) (α:Addr) (y s:p8) (ok:Bool) (hb:w.cell? ⟨b,0,none⟩=some (.pointer (some α))) (hy:w.cell? α=some (.string ⟨y.toArray⟩)) (hf:w.frozen? α=false) (hsp:α.spot=none)
  (hl:((y++s).length:Int)<=9223372036854775807) (hV: ∀w1,Below w.heap.size w w1->Calls prog FS #[.string ⟨(y++s).toArray⟩] w1 fun e w'=>e= .returned (.bool ok)/\Below w1.heap.size w1 w'):
  Calls prog HL #[.string ⟨s.toArray⟩,.pointer (some ⟨b,0,none⟩)] w fun e w'=>e= .returned (.bool ok)/\∃w1,Below w.heap.size w w1/\w'=if ok=true then w1.setCells α.block α.off [.string ⟨(y++s).toArray⟩] else w1:=by
 show Calls prog 188 #[.string ⟨s.toArray⟩,.pointer (some ⟨b,0,none⟩)] w _;obtain⟨ab,ao,asp⟩:=α;obtain rfl:asp=none:=hsp;have hext:((⟨y.toArray⟩:ByteArray)++⟨s.toArray⟩)=⟨(y++s).toArray⟩:=by
  apply ByteArray.ext;simp
 have hVw:=hV w (Below.refl _ _);have hbb:b<w.heap.size:=World.block_lt_of_cell? _ _ hb;have hab:ab<w.heap.size:=World.block_lt_of_cell? _ _ hy;clear hV;cases ok
 .go_enter func188,Tryz.ntmps188
  go_wp2_with (go_at_call 98;refine hVw.mono ?_;rintro e w' ⟨rfl,hbl⟩)
  all_goals first
   |(exfalso;simp at hl;omega)
   |(go_ret;exact⟨rfl,hbl⟩)
 go_enter func188,Tryz.ntmps188
 go_wp2_with (go_at_call 98;refine hVw.mono ?_;rintro e w' ⟨rfl,hbl⟩;have hb':=(aSH (a:=⟨b,0,none⟩) (hbl.block b hbb)).trans hb;have hy':=(aSH (a:=⟨ab,ao,none⟩) (hbl.block ab hab)).trans hy;have hf':=(hbl.frozen (p:=⟨ab,ao,none⟩) hab).trans hf)
 all_goals first
  |(exfalso;simp at hl;omega)
  |(go_ret;exact⟨rfl,_,hbl,rfl⟩)
theorem aL1:a95 prog:=⟨aLZ,fun _ _=>rfl,fun _ _=>rfl,aL0⟩
end Go.Proofs.YtcpbaddnmpeipaaGreatDoor
namespace Go.Proofs.YtcpbaddnmpeipaaGreatDoor
open Tryz
section
open Go.Shelf Go.RowKit Go.Lib
variable {P:Program}{ρ:Ren}
def xV:ByteArray:=⟨#[32,9,34]⟩
theorem aL2 {r:Int}(h0:128<=r) (h1:r<=1114111) (hv:r<55296\/57343<r): ∃n,1<=n/\n<=3/\(Utf8.encode r).size=n+1/\∃b:UInt8,(Utf8.encode r).data.toList[n]? =some b/\128<=b.toNat:=by
 have hval:Utf8.valid r=true:=by
  unfold Utf8.valid;simp;omega
 have hb: ∀k:Nat,k<64->128<=(UInt8.ofNat (0x80+k)).toNat:=fun k hk=>by
  rw[UInt8.toNat_ofNat'];omega
 unfold Utf8.encode;simp only[hval,aTQ];have ha: ¬r.toNat<0x80:=by omega
 rw[aSl ha];by_cases h2:r.toNat<0x800
 .rw[aSj h2];exact⟨1,pC,pC,rfl,_,rfl,hb _ pC⟩
 rw[aSl h2];by_cases h3:r.toNat<0x10000
 .rw[aSj h3];exact⟨2,pC,pC,rfl,_,rfl,hb _ pC⟩
 rw[aSl h3];exact⟨3,pC,pC,rfl,_,rfl,hb _ pC⟩
set_option maxRecDepth 1000000 in
theorem AnyL.IndexRune_err (L:Lays.n152 P ρ) (w:pN):
  Calls P (ρ.f 152) #[.string xV,.int .i32 65533] w fun e w'=>e= .returned (.int .i64 (-1))/\Below w.heap.size w w':=by
 have t3:=L.t3;have a3:=L.a3;have z3:=L.z3;have v3:=L.v3;have t4:=L.t4;have a4:=L.a4;have z4:=L.z4;have v4:=L.v4;have t5:=L.t5;have a5:=L.a5;have z5:=L.z5;have v5:=L.v5;have t9:=L.t9;have a9:=L.a9;have z9:=L.z9;have v9:=L.v9;have t21:=L.t21;have a21:=L.a21;have z21:=L.z21;have v21:=L.v21
 go_enter L.f152,Body.n152_ntmps ρ
 go_wp2
 go_loopg [5,6] 3 (fun g _ _ wx=> ∃i:Nat,i+g=3/\wx=w.iter xV i)
 case atStart=>exact⟨0,pC,rfl⟩
 case round=>
  obtain⟨i,hig,rfl⟩:=hrel;cases gk with
  |zero=>
   obtain rfl:i=3:=by omega
   have hnx:=fun ty=>run_next_end (P:=P) w xV 3 ty pD
   go_wp2
   go_ret
   exact⟨rfl,(Below.refl _ _).alloc (aSE _) _⟩
  |succ g=>
   have hi:i<xV.size:=by show i<3;omega
   obtain⟨x,hx⟩: ∃x:UInt8,xV[i]'hi=x:=⟨_,rfl⟩;have hx128:x.toNat<128:=by
    have:i=0\/i=1\/i=2:=by omega
    rcases this with rfl|rfl|rfl<;>rw[<-hx]
    .exact(by decide:(32:UInt8).toNat<128)
    .exact(by decide:(9:UInt8).toNat<128)
    exact(by decide:(34:UInt8).toNat<128)
   have hxe:(((x.toNat:Nat):Int)==65533)=false:=beq_eq_false_iff_ne.2 pC;have hnx:=fun ty=>run_next_ascii (P:=P) w xV i ty hi (by rw[hx];exact hx128);rw[hx] at hnx;clear hx
   go_wp2
   go_roundg g
   case measure=>omega
   case rel=>exact⟨i+1,pC,rfl⟩
set_option maxRecDepth 1000000 in
theorem AnyL.IndexRune_big (L:Lays.n152 P ρ) (w:pN) (r:Int) (h0:128<=r) (h1:r<=1114111) (hv:r<55296\/57343<r) (hne:r≠65533):
  Calls P (ρ.f 152) #[.string xV,.int .i32 r] w fun e w'=>e= .returned (.int .i64 (-1))/\Below w.heap.size w w':=by
 have t3:=L.t3;have a3:=L.a3;have z3:=L.z3;have v3:=L.v3;have t4:=L.t4;have a4:=L.a4;have z4:=L.z4;have v4:=L.v4;have t5:=L.t5;have a5:=L.a5;have z5:=L.z5;have v5:=L.v5;have t9:=L.t9;have a9:=L.a9;have z9:=L.z9;have v9:=L.v9;have t21:=L.t21;have a21:=L.a21;have z21:=L.z21;have v21:=L.v21;have e137: ∀args w,(callFunc (ρ.f 137) args).run P w= .ok (.enter (ρ.f 137) args) w:=enters_of L.f137 pQ rfl;have e119: ∀args w,(callFunc (ρ.f 119) args).run P w= .ok (.enter (ρ.f 119) args) w:=enters_of L.f119 pQ rfl;have hval:Lib.validRune r=true:=by unfold Lib.validRune;simp;omega
 obtain⟨n,hn1,hn3,hsz,b,hb,hb128⟩:=aL2 h0 h1 hv;have hcv: ∀w,(convert (ρ.t 21) (ρ.t 9) (.int .i32 r)).run P w= .ok (.string (Utf8.encode r)) w:=fun w=>run_convert_int_string w _ _ .i32 r (by rw[t21];rfl) t9;generalize Utf8.encode r=rs at hsz hb hcv;have hsz':(rs.size:Int)=n+1:=by omega
 have hbn: ∀h,rs[n]'h=b:=fun h=>by
  have:=Lib.data_getElem? rs n h;rw[hb] at this;exact(aSo this).symm
 have hne9:((9:Int)==(b.toNat:Int))=false:=beq_eq_false_iff_ne.2 pC;have hne34:((34:Int)==(b.toNat:Int))=false:=beq_eq_false_iff_ne.2 pC;have hix: ∀w,(Instr.index (ρ.t 9) (.string rs) (.int .i64 (n:Int))).run P w= .ok (.int .u8 (b.toNat:Int)) w:=fun w=>by
  rw[run_index_string _ _ _ _ _ t9];rw[aUe pC];simp [hbn]
 have hl1: ∀w,(Instr.index (ρ.t 9) (.string xV) (.int .i64 1)).run P w= .ok (.int .u8 9) w:=fun w=>by
  rw[run_index_string _ _ _ _ _ t9];rfl
 have hl2: ∀w,(Instr.index (ρ.t 9) (.string xV) (.int .i64 2)).run P w= .ok (.int .u8 34) w:=fun w=>by
  rw[run_index_string _ _ _ _ _ t9];rfl
 have hls:(xV.size:Int)=3:=rfl;clear hb
 go_enter L.f152,Body.n152_ntmps ρ
 go_wp2_with (go_at_fn (ρ.f 119);refine(Any.utf8_ValidRune {L with} _ _).mono ?_;rintro e w' ⟨rfl,hw⟩;rw[hw,hval])
 have mixed:=L.mixed;obtain rfl|rfl|rfl:n=1\/n=2\/n=3:=by omega
 .have hq:((9:Int) != ((rs[1]'pC).toNat:Int))=true:=by rw[hbn];exact bne_iff_ne.2 pC
  have hneg:Lib.indexByte (List.take (xV.size-2) (List.drop 2 xV.data.toList)) b= -1:=by
   have hz: ∀x:UInt8,x.toNat<128->(x==b)=false:=fun x hx=>beq_eq_false_iff_ne.2 fun e=>by rw[e] at hx;omega
   first|rfl|(show Lib.indexByte [34] b= -1;simp [Lib.indexByte,hz 34 pD])
  go_step3
  go_wp2
  refine wp_loop_rounds 1 ?_;rw[rounds_succ]
  go_wp2
  go_step3
  go_wp2
  go_region_o
  all_goals
   go_wp2
   go_region_with_o (go_at_fn (ρ.f 137);refine(Any.strings_IndexByte {L with} _ _ _).mono ?_;rintro e w' ⟨rfl,hw⟩;rw[hw])
   all_goals
    go_wp2
    simp only[Exit.noGoto_ret,go_sem]
    go_ret
    exact⟨rfl,by go_grown⟩
 .have hq:((34:Int) != ((rs[2]'pC).toNat:Int))=true:=by rw[hbn];exact bne_iff_ne.2 pC
  have hneg:Lib.indexByte (List.take (xV.size-3) (List.drop 3 xV.data.toList)) b= -1:=by
   have hz: ∀x:UInt8,x.toNat<128->(x==b)=false:=fun x hx=>beq_eq_false_iff_ne.2 fun e=>by rw[e] at hx;omega
   first|rfl|(show Lib.indexByte [34] b= -1;simp [Lib.indexByte,hz 34 pD])
  go_step3
  go_wp2
  refine wp_loop_rounds 1 ?_;rw[rounds_succ]
  go_wp2
  go_step3
  go_wp2
  go_region_o
  all_goals
   go_wp2
   go_region_with_o (go_at_fn (ρ.f 137);refine(Any.strings_IndexByte {L with} _ _ _).mono ?_;rintro e w' ⟨rfl,hw⟩;rw[hw])
   all_goals
    go_wp2
    simp only[Exit.noGoto_ret,go_sem]
    go_ret
    exact⟨rfl,by go_grown⟩
 go_step3
 go_wp2
 refine wp_loop_rounds 1 ?_;rw[rounds_succ]
 go_wp2
 simp only[Exit.noGoto_ret]
 go_ret
 exact⟨rfl,Below.refl _ _⟩
theorem aC7 {s:ByteArray}{j:Nat}{b:UInt8}(h:s.data.toList[j]? =some b):s.get! j=b:=by
 rw[aTm] at h;show s.data[j]! =b;rw[getElem!_def,h]
theorem aL3 (s:ByteArray) (i:Nat) (hi:i<s.size) (hb:128<=(s.get! i).toNat): ∃c k:Nat,Utf8.decode s i=(c,k)/\1<=k/\i+k<=s.size/\128<=c/\c<=1114111/\(c<55296\/57343<c)/\
  ∀j,i<=j->j<i+k->128<=(s.get! j).toNat:=by
 have one: ∀j,i<=j->j<i+1->128<=(s.get! j).toNat:=fun j h1 h2=>by
  obtain rfl:j=i:=by omega
  exact hb
 have e65: ∀r,r=(Utf8.runeError,1)->∃c k:Nat,r=(c,k)/\1<=k/\i+k<=s.size/\128<=c/\c<=1114111/\(c<55296\/57343<c)/\∀j,i<=j->j<i+k->128<=(s.get! j).toNat:=
  fun r hr=>⟨65533,1,hr,pC,pC,pC,pC,pC,one⟩
 have hval: ∀c:Nat,Utf8.valid (c:Int)=true->c<=1114111/\(c<55296\/57343<c):=fun c h=>by
  unfold Utf8.valid at h;simp only[aTP,aSB,aSs] at h;omega
 unfold Utf8.decode;simp only[aTu,aSB,aSs,aTB];rw[aSl pC];by_cases h2:(s.get! i).toNat/32=6/\i+1<s.size/\(s.get! (i+1)).toNat/64=2
 .rw[aSj h2];obtain⟨h2,h3,h4⟩:=h2;split
  .refine⟨_,2,rfl,pC,pC,pC,pC,pC,fun j h5 h6=>?_⟩;obtain rfl|rfl:j=i\/j=i+1:=by omega
   .exact hb
   omega
  exact e65 _ rfl
 rw[aSl h2];by_cases h3:((s.get! i).toNat/16=14/\i+1<s.size/\(s.get! (i+1)).toNat/64=2)/\i+2<s.size/\(s.get! (i+2)).toNat/64=2
 .rw[aSj h3];obtain⟨⟨h3,h4,h5⟩,h6,h7⟩:=h3;split
  .rename_i hc;have hv:=hval _ hc.2;refine⟨_,3,rfl,pC,pC,pC,hv.1,hv.2,fun j h8 h9=>?_⟩;obtain rfl|rfl|rfl:j=i\/j=i+1\/j=i+2:=by omega
   .exact hb
   .omega
   omega
  exact e65 _ rfl
 rw[aSl h3];by_cases h4:(((s.get! i).toNat/8=30/\i+1<s.size/\(s.get! (i+1)).toNat/64=2)/\i+2<s.size/\(s.get! (i+2)).toNat/64=2)/\i+3<s.size/\(s.get! (i+3)).toNat/64=2
 .rw[aSj h4];obtain⟨⟨⟨h4,h5,h6⟩,h7,h8⟩,h9,h10⟩:=h4;split
  .rename_i hc;have hv:=hval _ hc.2;refine⟨_,4,rfl,pC,pC,pC,hv.1,hv.2,fun j h11 h12=>?_⟩;obtain rfl|rfl|rfl|rfl:j=i\/j=i+1\/j=i+2\/j=i+3:=by omega
   .exact hb
   .omega
   .omega
   omega
  exact e65 _ rfl
 rw[aSl h4];exact e65 _ rfl
theorem aL4 {P:Program}(w:pN) (r:Nat) (s:ByteArray) (i:Nat) (ty:TypeId) (hh:w.heap[r]? =some (.stringIter s i)) (hi:i<s.size) {c k:Nat}(hd:Utf8.decode s i=(c,k)):
  (Instr.next (.pointer (some ⟨r,0,none⟩)) true ty).run P w= .ok (.tuple #[.bool true,.int .i64 i,.int .i32 c]) {w with heap:=w.heap.setIfInBounds r (.stringIter s (i+k))}:=by
 simp [Instr.next,getObj,setObj,Sem.run,hh,hi,hd,goInt]
theorem aL5 {P:Program}(w:pN) (r:Nat) (s:ByteArray) (i:Nat) (ty:TypeId) (hh:w.heap[r]? =some (.stringIter s i)) (hi: ¬i<s.size):
  (Instr.next (.pointer (some ⟨r,0,none⟩)) true ty).run P w= .ok (.tuple #[.bool false]) w:=by
 simp [Instr.next,getObj,Sem.run,hh,hi]
theorem aL6 {l:p8}{i k:Nat}(h:Lib.NoAny l [32,9,34] i) (hb: ∀j,i<=j->j<i+k->∀b,l[j]? =some b->128<=b.toNat):Lib.NoAny l [32,9,34] (i+k):=fun j b hj hs=>by
 by_cases hji:j<i
 .exact h j b hji hs
 have hx:=hb j pC hj b hs;cases hc:([32,9,34]:p8).contains b with
 |false=>rfl
 |true=>
  simp only[List.contains_cons,List.contains_nil,Bool.or_false,aTP,aTB] at hc;rcases hc with rfl|rfl|rfl<;>exact absurd hx pD
theorem aL7 {B r:Nat}{a w:pN}{o:Obj}(h:Below B a w) (hr:B<=r):Below B a {w with heap:=w.heap.setIfInBounds r o}:=
 ⟨h.os,h.tape,h.output,by simpa using h.size,fun k hk=>by
  show (w.heap.setIfInBounds r o)[k]? =_;rw[aTs pC];exact h.block k hk⟩
theorem AnyL.IndexRune_lit (L:Lays.n152 P ρ) (w:pN) (r:Int) (h0:128<=r) (h1:r<=1114111) (hv:r<55296\/57343<r):
  Calls P (ρ.f 152) #[.string xV,.int .i32 r] w fun e w'=>e= .returned (.int .i64 (-1))/\Below w.heap.size w w':=by
 by_cases he:r=65533
 .rw[he];exact AnyL.IndexRune_err L w
 exact AnyL.IndexRune_big L w r h0 h1 hv he
set_option maxRecDepth 1000000 in
theorem AnyL.IndexAny_lit8 (L:Lays.n153 P ρ) (s:ByteArray) (w:pN) (h8:s.size<=8):
  Calls P (ρ.f 153) #[.string s,.string xV] w fun e w'=>e= .returned (.int .i64 (Lib.indexAny s.data.toList [32,9,34]))/\Below w.heap.size w w':=by
 have hemp:xV.toList.isEmpty=false:=by rw[Lib.toList_data];rfl
 have hn1:((xV.size:Int)==1)=false:=rfl;have h8z:decide ((8:Int)<(s.size:Int))=false:=decide_eq_false pC;have t3:=L.t3;have a3:=L.a3;have z3:=L.z3;have v3:=L.v3;have t4:=L.t4;have a4:=L.a4;have z4:=L.z4;have v4:=L.v4;have t5:=L.t5;have a5:=L.a5;have z5:=L.z5;have v5:=L.v5;have t9:=L.t9;have a9:=L.a9;have z9:=L.z9;have v9:=L.v9;have t21:=L.t21;have a21:=L.a21;have z21:=L.z21;have v21:=L.v21;have e152: ∀args w,(callFunc (ρ.f 152) args).run P w= .ok (.enter (ρ.f 152) args) w:=enters_of L.f152 pQ rfl;have e226: ∀args w,(callFunc (ρ.f 226) args).run P w= .ok (.enter (ρ.f 226) args) w:=enters_of L.f226 pQ rfl
 go_enter L.f153,Body.n153_ntmps ρ
 go_wp2_with (go_at_fn (ρ.f 226);refine(Any.strings_shouldUseASCIISet {L with} _ _).mono ?_;rintro e w' ⟨rfl,hw⟩;rw[hw,h8z])
 go_loopg [9,10] s.size (fun g _ _ wx=> ∃i:Nat,i+g=s.size/\Below w.heap.size w wx/\wx.heap[w.heap.size]? =some (.stringIter s i)/\Lib.NoAny s.data.toList [32,9,34] i)
 case atStart=>exact⟨0,pC,(Below.refl _ _).alloc (aSE _) _,World.iter_heap w s 0,Lib.NoAny.zero _ _⟩
 case round=>
  obtain⟨i,hig,hbel,hheap,hno⟩:=hrel;have HN:Aside (Lib.NoAny s.data.toList [32,9,34] i):=hno;have HB:Aside (Below w.heap.size w _):=hbel;clear hno;have hlt:w.heap.size<wr.heap.size:=by
   rcases aTl w.heap.size wr.heap.size with h|h
   .exact h
   rw[Array.getElem?_eq_none h] at hheap;cases hheap
  by_cases hi:i<s.size
  .obtain⟨x,hx⟩: ∃x:UInt8,s[i]'hi=x:=⟨_,rfl⟩;have hxl:s.data.toList[i]? =some x:=by rw[<-hx];exact Lib.data_getElem? s i hi
   have hgx:s.get! i=x:=aC7 hxl;have key: ∀k c,Utf8.decode s i=(c,k)->∃w1:pN,(∀ty,(Instr.next (.pointer (some ⟨w.heap.size,0,none⟩)) true ty).run P wr= .ok (.tuple #[.bool true,.int .i64 i,.int .i32 c]) w1)/\
     Below w.heap.size w w1/\w1.heap[w.heap.size]? =some (.stringIter s (i+k))/\w.heap.size<w1.heap.size:=fun k c hd=>
    ⟨{wr with heap:=wr.heap.setIfInBounds w.heap.size (.stringIter s (i+k))},fun ty=>aL4 wr _ s i ty hheap hi hd,aL7 hbel (aSE _),by simp [hlt],by simpa using hlt⟩
   clear hbel hheap hlt;by_cases h128:x.toNat<128
   .obtain⟨w1,hnx,hb1,hh1,hl1⟩:=key 1 x.toNat (by have:=decode_ascii s i hi (by rw[hx];exact h128);rw[this,hx]);clear key;have HX:Aside (s.data.toList[i]? =some x):=hxl;have H1:Aside (Below w.heap.size w w1/\w1.heap[w.heap.size]? =some (.stringIter s (i+1))):=⟨hb1,hh1⟩;have hcon:=Lib.contains_iff_indexByte [32,9,34] x;have hback:((x.toNat:Int)).toNat.toUInt8=x:=by simp
    have hll:xV.data.toList=[32,9,34]:=rfl;clear hxl hgx hx hb1 hh1 hl1;cases hin:([32,9,34]:p8).contains x
    .rw[hin] at hcon;have hlt: ¬((0:Int)<=Lib.indexByte [32,9,34] x):=of_decide_eq_false hcon.symm;clear hcon
     go_wp2_with (go_at_fn (ρ.f 152);refine(Any.strings_IndexRune_ascii {L with} _ _ _ pC pC).mono ?_;rintro e w' ⟨rfl,hw⟩;rw[hw,hback,hll])
     go_roundg (gk-1)
     case measure=>omega
     case rel=>exact⟨i+1,pC,H1.out.1,H1.out.2,HN.out.succ HX.out hin⟩
    rw[hin] at hcon;have hge:(0:Int)<=Lib.indexByte [32,9,34] x:=aS1 hcon.symm;clear hcon
    go_wp2_with (go_at_fn (ρ.f 152);refine(Any.strings_IndexRune_ascii {L with} _ _ _ pC pC).mono ?_;rintro e w' ⟨rfl,hw⟩;rw[hw,hback,hll])
    go_ret
    exact⟨by rw[Lib.indexAny_hit HN.out HX.out hin];rfl,H1.out.1⟩
   obtain⟨c,k,hd,hk1,hk2,hc1,hc2,hc3,hall⟩:=aL3 s i hi (by rw[hgx];omega);obtain⟨w1,hnx,hb1,hh1,hl1⟩:=key k c hd;clear key;have H1:Aside (Below w.heap.size w w1/\w1.heap[w.heap.size]? =some (.stringIter s (i+k))/\w.heap.size<w1.heap.size):=⟨hb1,hh1,hl1⟩;have HA:Aside (∀j,i<=j->j<i+k->128<=(s.get! j).toNat):=hall;clear hall hxl hgx hx hb1 hh1 hl1 hd
   go_wp2_with (go_at_fn (ρ.f 152);refine(AnyL.IndexRune_lit {L with} _ _ pC pC pC).mono ?_;rintro e w' ⟨rfl,hw⟩)
   go_roundg (gk-k)
   case measure=>omega
   case rel=>exact⟨i+k,pC,H1.out.1.trans (hw.mono (by have:=H1.out.2.2;omega)),by rw[hw.block _ H1.out.2.2];exact H1.out.2.1,aL6 HN.out fun j h1 h2 b hb=>by rw[<-aC7 hb];exact HA.out j h1 h2⟩
  have hnx:=fun ty=>aL5 (P:=P) wr w.heap.size s i ty hheap hi;clear hbel hheap
  go_wp2
  go_ret
  obtain rfl:i=s.size:=by omega
  exact⟨by rw[Lib.indexAny_none (by rw[<-Lib.size_eq];exact HN.out)];rfl,HB.out⟩
theorem AnyL.IndexAny_lit (L:Lays.n153 P ρ) (h116:(P.info? (ρ.t 116)).map (fun i=>(i.zero,i.size))=some (some (.agg (Array.replicate 256 (.bool false))),256)) (s:ByteArray) (w:pN) (hs:s.size<4294967281):
  Calls P (ρ.f 153) #[.string s,.string xV] w fun e w'=>e= .returned (.int .i64 (Lib.indexAny s.data.toList [32,9,34]))/\Below w.heap.size w w':=by
 by_cases h8:s.size<=8
 .exact AnyL.IndexAny_lit8 L s w h8
 refine(Any.strings_IndexAny_long L (zero_of_info h116).1 (zero_of_info h116).2 s xV w pD pC hs pD (fun j b h=>?_)).mono fun e w' ⟨h1,h2⟩=>⟨h1,?_⟩
 .have hb:b∈([32,9,34]:p8):=List.mem_of_getElem? (show ([32,9,34]:p8)[j]? =some b from h);simp only[aSx,aTK,or_false] at hb;rcases hb with rfl|rfl|rfl<;>decide
 rw[h2];exact((Below.refl _ _).alloc (aSE _) _).alloc pE _
end
open Vc Go.RowKit
def NQ (s c:p8):Int:=Lib.indexAny s c
@[go_sem] def a1N:List pX->List pW->Option qI
 |[(.val .str O,none),(.val .str Z,none)],[]=>if Z=[32,9,34] then some ⟨[List.length O<4294967281],[(.val (.int .i64) (NQ O Z),none)],[]⟩ else none
 |_,_=>none
theorem aL8:yN prog 146 a1N:=by
 refine QP (fun _ _=>rfl) fun g w args vals L r hT ha hC hs=>?_;unfold a1N at hC;split at hC
 .rename_i s c;split at hC
  .rename_i hc;subst hc;cases hC;have h1:=hs _ aSJ;obtain⟨va,_,rfl,ra,vb,_,rfl,rb,hv⟩:=ha;obtain rfl:=x6 ra.1;obtain rfl:=x6 rb.1;cases hv;exact⟨rfl,rfl,(AnyL.IndexAny_lit Tryz.lays153 pQ ⟨List.toArray s⟩ w h1).mono fun e w' ⟨he,hb⟩=>⟨_,he,hb,wB _ _ _ _,trivial⟩⟩
  cases hC
 cases hC
end Go.Proofs.YtcpbaddnmpeipaaGreatDoor
namespace Go.Proofs.YtcpbaddnmpeipaaGreatDoor
open Vc
open Tryz
noncomputable section
@[go_sem] abbrev uI:Ty:=(.pair .str (.pair .str (.pair .str (.pair (.list .str) (.pair (.list .str) (.pair (.int .i64) (.pair (.list rV) .unit)))))))
@[go_sem] abbrev A3:Ty:=(.pair .str (.pair (.list .str) (.pair (.list rV) (.pair (.list uI) .unit))))
@[go_sem] abbrev xU:Ty:=(.pair .mref (.pair (.list (.int .u8)) .unit))
abbrev qG:Type:=(p8×(p8×Unit))
abbrev rW:Type:=(p8×(p8×(p8×(p9×(p9×(Int×((List qG)×Unit)))))))
abbrev sE:Type:=(p8×(p9×((List qG)×((List rW)×Unit))))
@[go_sem] abbrev wL:Ty:=(.pair A3 (.pair (.list (.int .i64)) (.pair uI (.pair .bool (.pair .bool (.pair .bool (.pair .bool (.pair .bool rV))))))))
abbrev A7:Type:=(sE×(pI×(rW×(Bool×(Bool×(Bool×(Bool×(Bool×(p8×(p8×Unit))))))))))
@[go_sem] abbrev aC8:Ty:=(.pair .str (.pair .str (.pair .str (.pair (.rl 9 .str) (.pair (.list .str) (.pair (.int .i64) (.pair (.rl 110 rV) .unit)))))))
@[go_sem] abbrev sG:Ty:=(.pair A3 (.pair (.int .i64) (.pair aC8 (.pair .mp (.pair .mp (.pair .ap (.pair (.list (.int .i64)) .unit)))))))
@[go_sem] abbrev aL9:Ty:=(.pair A3 (.pair (.int .i64) (.pair uI (.pair .mp (.pair .mp (.pair .ap (.pair (.list (.int .i64)) .unit)))))))
@[go_sem] abbrev sB:Nat×TI:=(9,⟨.str,0,0,false,[]⟩)
def sC:sY prog sB.1 sB.2:=⟨pQ,(show Tryz.prog.underlying _=_ from by kernel_rfl)⟩
@[go_sem] abbrev A8:Nat×TI:=(23,⟨(.list .str),9,16,false,[]⟩)
def BQ:sY prog A8.1 A8.2:=⟨pQ,(show _/\_/\_ from⟨pQ,pQ,pQ⟩)⟩
@[go_sem] abbrev D2:Nat×TI:=(25,⟨(.list uI),45,128,false,[]⟩)
def F3:sY prog D2.1 D2.2:=⟨pQ,(show _/\_/\_ from⟨pQ,pQ,pQ⟩)⟩
@[go_sem] abbrev yZ:Nat×TI:=(27,⟨A3,0,0,false,[(1,9,1),(2,110,2),(3,45,7)]⟩)
def A9:sY prog yZ.1 yZ.2:=⟨pQ,(show ((_/\∃_,_/\_)\/_)/\_ from⟨.inl ⟨rfl,_,Tryz.underlying27,(show _/\_/\_/\_ from⟨rfl,pQ,pQ,(show _/\_/\_/\_ from⟨rfl,pQ,pQ,(show _/\_/\_/\_ from⟨rfl,pQ,pQ,(show _/\_/\_/\_ from⟨rfl,pQ,pQ,trivial⟩)⟩)⟩)⟩)⟩,(fun h=>absurd h pD)⟩)⟩
@[go_sem] abbrev F4:Nat×TI:=(45,⟨uI,0,0,false,[(3,9,1),(4,9,1),(6,110,2)]⟩)
def IG:sY prog F4.1 F4.2:=⟨pQ,(show ((_/\∃_,_/\_)\/_)/\_ from⟨.inl ⟨rfl,_,Tryz.underlying45,(show _/\_/\_/\_ from⟨rfl,pQ,pQ,(show _/\_/\_/\_ from⟨rfl,pQ,pQ,(show _/\_/\_/\_ from⟨rfl,pQ,pQ,(show _/\_/\_/\_ from⟨rfl,pQ,pQ,(show _/\_/\_/\_ from⟨rfl,pQ,pQ,(show _/\_/\_/\_ from⟨rfl,pQ,pQ,(show _/\_/\_/\_ from⟨rfl,pQ,pQ,trivial⟩)⟩)⟩)⟩)⟩)⟩)⟩)⟩,(fun h=>absurd h pD)⟩)⟩
@[go_sem] abbrev DM:Nat×TI:=(80,⟨(.list (.int .u8)),5,1,false,[]⟩)
def GJ:sY prog DM.1 DM.2:=⟨pQ,(show _/\_/\_ from⟨pQ,pQ,pQ⟩)⟩
@[go_sem] abbrev L8:Nat×TI:=(82,⟨xU,0,0,false,[(1,5,1)]⟩)
def QY:sY prog L8.1 L8.2:=⟨pQ,(show ((_/\∃_,_/\_)\/_)/\_ from⟨.inl ⟨rfl,_,Tryz.underlying82,(show _/\_/\_/\_ from⟨rfl,pQ,pQ,(show _/\_/\_/\_ from⟨rfl,pQ,pQ,trivial⟩)⟩)⟩,(fun h=>absurd h pD)⟩)⟩
@[go_sem] abbrev yO:Nat×TI:=(24,⟨(.list rV),110,32,false,[]⟩)
def AT:sY prog yO.1 yO.2:=⟨pQ,(show _/\_/\_ from⟨pQ,pQ,pQ⟩)⟩
@[go_sem] abbrev CE:Nat×TI:=(110,⟨rV,0,1,false,[]⟩)
def GH:sY prog CE.1 CE.2:=⟨pQ,(show ((_/\∃_,_/\_)\/_)/\_ from⟨.inl ⟨rfl,_,Tryz.underlying110,(show _/\_/\_/\_ from⟨rfl,pQ,pQ,(show _/\_/\_/\_ from⟨rfl,pQ,pQ,trivial⟩)⟩)⟩,(fun _=>⟨pQ,1,pD,(.struct rfl Tryz.underlying110 pQ (.cons pD rfl pQ pQ (.str Tryz.underlying9) (.cons pD rfl pQ pQ (.str Tryz.underlying9) .nil)))⟩)⟩)⟩
@[go_sem] abbrev v8:Nat×TI:=(3,⟨(.int .i64),0,0,false,[]⟩)
def vM:sY prog v8.1 v8.2:=⟨pQ,(show Tryz.prog.underlying _=_ from by kernel_rfl)⟩
@[go_sem] abbrev uY:Nat×TI:=(4,⟨.bool,0,0,false,[]⟩)
def vI:sY prog uY.1 uY.2:=⟨pQ,(show Tryz.prog.underlying _=_ from by kernel_rfl)⟩
@[go_sem] abbrev DN:Nat×TI:=(61,⟨(.list (.int .i64)),3,8,false,[]⟩)
def GK:sY prog DN.1 DN.2:=⟨pQ,(show _/\_/\_ from⟨pQ,pQ,pQ⟩)⟩
@[go_sem] abbrev IH:Nat×TI:=(95,⟨wL,0,0,false,[(1,9,1),(2,110,2),(3,45,7),(4,3,1),(8,9,1),(9,9,1),(11,110,2)]⟩)
def NR:sY prog IH.1 IH.2:=⟨pQ,(show ((_/\∃_,_/\_)\/_)/\_ from⟨.inl ⟨rfl,_,Tryz.underlying95,(show _/\_/\_/\_ from⟨rfl,pQ,pQ,(show _/\_/\_/\_ from⟨rfl,pQ,pQ,(show _/\_/\_/\_ from⟨rfl,pQ,pQ,(show _/\_/\_/\_ from⟨rfl,pQ,pQ,(show _/\_/\_/\_ from⟨rfl,pQ,pQ,(show _/\_/\_/\_ from⟨rfl,pQ,pQ,(show _/\_/\_/\_ from⟨rfl,pQ,pQ,(show _/\_/\_/\_ from⟨rfl,pQ,pQ,(show _/\_/\_/\_ from⟨rfl,pQ,pQ,(show _/\_/\_/\_ from⟨rfl,pQ,pQ,trivial⟩)⟩)⟩)⟩)⟩)⟩)⟩)⟩)⟩)⟩)⟩,(fun h=>absurd h pD)⟩)⟩
@[go_sem] abbrev DO:Nat×TI:=(5,⟨(.int .u8),0,0,false,[]⟩)
def GL:sY prog DO.1 DO.2:=⟨pQ,(show Tryz.prog.underlying _=_ from by kernel_rfl)⟩
@[go_sem] abbrev IE:Nat×TI:=(24,⟨(.list rV),110,32,true,[]⟩)
def W7:sY prog IE.1 IE.2:=⟨pQ,(show _/\_/\_ from⟨pQ,pQ,pQ⟩)⟩
@[go_sem] abbrev II:Nat×TI:=(128,⟨(.list qO),136,24,false,[]⟩)
def NS:sY prog II.1 II.2:=⟨pQ,(show _/\_/\_ from⟨pQ,pQ,pQ⟩)⟩
@[go_sem] abbrev IJ:Nat×TI:=(136,⟨qO,0,1,false,[]⟩)
def NT:sY prog IJ.1 IJ.2:=⟨pQ,(show ((_/\∃_,_/\_)\/_)/\_ from⟨.inl ⟨rfl,_,Tryz.underlying136,(show _/\_/\_/\_ from⟨rfl,pQ,pQ,(show _/\_/\_/\_ from⟨rfl,pQ,pQ,trivial⟩)⟩)⟩,(fun _=>⟨pQ,1,pD,(.struct rfl Tryz.underlying136 pQ (.cons pD rfl pQ pQ (.bool Tryz.underlying4) (.cons pD rfl pQ pQ (.str Tryz.underlying9) .nil)))⟩)⟩)⟩
@[go_sem] abbrev wG:Nat×TI:=(117,⟨(.list qO),121,24,false,[]⟩)
def x9:sY prog wG.1 wG.2:=⟨pQ,(show _/\_/\_ from⟨pQ,pQ,pQ⟩)⟩
@[go_sem] abbrev wC:Nat×TI:=(121,⟨qO,0,1,false,[]⟩)
def wM:sY prog wC.1 wC.2:=⟨pQ,(show ((_/\∃_,_/\_)\/_)/\_ from⟨.inl ⟨rfl,_,Tryz.underlying121,(show _/\_/\_/\_ from⟨rfl,pQ,pQ,(show _/\_/\_/\_ from⟨rfl,pQ,pQ,trivial⟩)⟩)⟩,(fun _=>⟨pQ,1,pD,(.struct rfl Tryz.underlying121 pQ (.cons pD rfl pQ pQ (.bool Tryz.underlying4) (.cons pD rfl pQ pQ (.str Tryz.underlying9) .nil)))⟩)⟩)⟩
@[go_sem] abbrev QZ:Nat×TI:=(21,⟨(.int .i32),0,0,false,[]⟩)
def a1O:sY prog QZ.1 QZ.2:=⟨pQ,(show Tryz.prog.underlying _=_ from by kernel_rfl)⟩
@[go_sem] abbrev WF:Nat×TI:=(202,⟨(.int .u32),0,0,false,[]⟩)
def aC9:sY prog WF.1 WF.2:=⟨pQ,(show Tryz.prog.underlying _=_ from by kernel_rfl)⟩
@[go_sem] abbrev WG:Nat×TI:=(23,⟨(.list .str),9,16,true,[]⟩)
def aDa:sY prog WG.1 WG.2:=⟨pQ,(show _/\_/\_ from⟨pQ,pQ,pQ⟩)⟩
@[go_sem] abbrev a1P:Nat×TI:=(124,⟨.fn,0,0,false,[]⟩)
def aMa:sY prog a1P.1 a1P.2:=⟨pQ,(show∃_ _ _,_ from⟨_,_,_,Tryz.underlying124⟩)⟩
@[go_sem] abbrev a1Q:Nat×TI:=(162,⟨.mp,9,124,false,[]⟩)
def aMb:sY prog a1Q.1 a1Q.2:=⟨pQ,(show Tryz.prog.underlying _=_ from by kernel_rfl)⟩
@[go_sem] abbrev AU:Nat×TI:=(32,⟨.ap,0,0,false,[]⟩)
def CG:sY prog AU.1 AU.2:=⟨pQ,(show (∃_ _ _,_)/\_ from⟨⟨_,_,_,Tryz.underlying32⟩,aL1⟩)⟩
@[go_sem] abbrev DP:Nat×TI:=(45,⟨aC8,0,0,false,[(4,9,1)]⟩)
def GM:sY prog DP.1 DP.2:=⟨pQ,(show ((_/\∃_,_/\_)\/_)/\_ from⟨.inl ⟨rfl,_,Tryz.underlying45,(show _/\_/\_/\_ from⟨rfl,pQ,pQ,(show _/\_/\_/\_ from⟨rfl,pQ,pQ,(show _/\_/\_/\_ from⟨rfl,pQ,pQ,(show _/\_/\_/\_ from⟨rfl,pQ,pQ,(show _/\_/\_/\_ from⟨rfl,pQ,pQ,(show _/\_/\_/\_ from⟨rfl,pQ,pQ,(show _/\_/\_/\_ from⟨rfl,pQ,pQ,trivial⟩)⟩)⟩)⟩)⟩)⟩)⟩)⟩,(fun h=>absurd h pD)⟩)⟩
@[go_sem] abbrev vA:Nat×TI:=(63,⟨sG,0,0,false,[(1,9,1),(2,110,2),(3,45,7),(9,9,1),(15,3,1)]⟩)
def vN:sY prog vA.1 vA.2:=⟨pQ,(show ((_/\∃_,_/\_)\/_)/\_ from⟨.inl ⟨rfl,_,Tryz.underlying63,(show _/\_/\_/\_ from⟨rfl,pQ,pQ,(show _/\_/\_/\_ from⟨rfl,pQ,pQ,(show _/\_/\_/\_ from⟨rfl,pQ,pQ,(show _/\_/\_/\_ from⟨rfl,pQ,pQ,(show _/\_/\_/\_ from⟨rfl,pQ,pQ,(show _/\_/\_/\_ from⟨rfl,pQ,pQ,(show _/\_/\_/\_ from⟨rfl,pQ,pQ,trivial⟩)⟩)⟩)⟩)⟩)⟩)⟩)⟩,(fun h=>absurd h pD)⟩)⟩
@[go_sem] abbrev D3:Nat×TI:=(60,⟨.mp,9,4,false,[]⟩)
def F5:sY prog D3.1 D3.2:=⟨pQ,(show Tryz.prog.underlying _=_ from by kernel_rfl)⟩
@[go_sem] abbrev a1R:Nat×TI:=(23,⟨(.list .str),9,16,false,[(0,0,0)]⟩)
def aMc:sY prog a1R.1 a1R.2:=⟨pQ,(show _/\_/\_ from⟨pQ,pQ,pQ⟩)⟩
@[go_sem] abbrev a1S:Nat×TI:=(24,⟨(.list rV),110,32,false,[(0,0,0)]⟩)
def aMd:sY prog a1S.1 a1S.2:=⟨pQ,(show _/\_/\_ from⟨pQ,pQ,pQ⟩)⟩
@[go_sem] abbrev a1T:Nat×TI:=(45,⟨uI,XT,0,false,[(3,9,1),(4,9,1),(6,110,2)]⟩)
def aMe:sY prog a1T.1 a1T.2:=⟨pQ,(show ((_/\∃_,_/\_)\/_)/\_ from⟨.inl ⟨rfl,_,Tryz.underlying45,(show _/\_/\_/\_ from⟨rfl,pQ,pQ,(show _/\_/\_/\_ from⟨rfl,pQ,pQ,(show _/\_/\_/\_ from⟨rfl,pQ,pQ,(show _/\_/\_/\_ from⟨rfl,pQ,pQ,(show _/\_/\_/\_ from⟨rfl,pQ,pQ,(show _/\_/\_/\_ from⟨rfl,pQ,pQ,(show _/\_/\_/\_ from⟨rfl,pQ,pQ,trivial⟩)⟩)⟩)⟩)⟩)⟩)⟩)⟩,(fun h=>absurd h pD)⟩)⟩
@[go_sem] abbrev a1U:Nat×TI:=(63,⟨aL9,0,0,false,[(1,9,1),(2,110,2),(3,45,7),(8,9,1),(9,9,1),(11,110,2),(15,3,1)]⟩)
def aMf:sY prog a1U.1 a1U.2:=⟨pQ,(show ((_/\∃_,_/\_)\/_)/\_ from⟨.inl ⟨rfl,_,Tryz.underlying63,(show _/\_/\_/\_ from⟨rfl,pQ,pQ,(show _/\_/\_/\_ from⟨rfl,pQ,pQ,(show _/\_/\_/\_ from⟨rfl,pQ,pQ,(show _/\_/\_/\_ from⟨rfl,pQ,pQ,(show _/\_/\_/\_ from⟨rfl,pQ,pQ,(show _/\_/\_/\_ from⟨rfl,pQ,pQ,(show _/\_/\_/\_ from⟨rfl,pQ,pQ,trivial⟩)⟩)⟩)⟩)⟩)⟩)⟩)⟩,(fun h=>absurd h pD)⟩)⟩
@[go_sem] abbrev WH:Nat×TI:=(158,⟨(.pair .str (.pair .bool .unit)),0,1,false,[]⟩)
def aDb:sY prog WH.1 WH.2:=⟨pQ,(show ((_/\∃_,_/\_)\/_)/\_ from⟨.inl ⟨rfl,_,Tryz.underlying158,(show _/\_/\_/\_ from⟨rfl,pQ,pQ,(show _/\_/\_/\_ from⟨rfl,pQ,pQ,trivial⟩)⟩)⟩,(fun _=>⟨pQ,1,pD,(.struct rfl Tryz.underlying158 pQ (.cons pD rfl pQ pQ (.str Tryz.underlying9) (.cons pD rfl pQ pQ (.bool Tryz.underlying4) .nil)))⟩)⟩)⟩
@[go_sem] abbrev GN:Nat×TI:=(124,⟨.clo,0,0,false,[]⟩)
def L9:sY prog GN.1 GN.2:=⟨pQ,(show∃_ _ _,_ from⟨_,_,_,Tryz.underlying124⟩)⟩
def r5:Tryz.prog.follows .mixedOrders=true:=by kernel_rfl
@[go_sem] abbrev NN:Nat×r7:=(133,⟨[.v,.v],VS,[],[],none⟩)
def W8:rD prog NN:=⟨aCp,fun _ h=>by cases h⟩
@[go_sem] abbrev QR:Nat×r7:=(80,⟨[.v,.v],VT,[],[],none⟩)
def a1r:rD prog QR:=⟨aCq,fun _ h=>by cases h⟩
@[go_sem] abbrev W9:Nat×r7:=(168,⟨[.v],VU,[],[],none⟩)
def aCL:rD prog W9:=⟨aCr,fun _ h=>by cases h⟩
@[go_sem] abbrev WA:Nat×r7:=(110,⟨[.v,.v],W3,[],[],none⟩)
def aCM:rD prog WA:=⟨aCG,fun _ h=>by cases h⟩
@[go_sem] abbrev aDc:Nat×r7:=(146,⟨[.v,.v],a1N,[],[],none⟩)
def aMg:rD prog aDc:=⟨aL8,fun _ h=>by cases h⟩
@[go_sem] abbrev NO:Nat×r7:=(78,⟨[.p xU [1]],VV,[],[],none⟩)
def WB:rD prog NO:=⟨aCv,fun _ h=>by cases h⟩
@[go_sem] abbrev QS:Nat×r7:=(53,⟨[.p xU [1]],VW,[],[],none⟩)
def a1s:rD prog QS:=⟨aCy,fun _ h=>by cases h⟩
@[go_sem] abbrev QT:Nat×r7:=(164,⟨[.r],VZ,[],[],none⟩)
def aCO:rD prog QT:=⟨aCF,fun _ h=>by cases h⟩
@[go_sem] abbrev aDd:Nat×r7:=(116,⟨[.r],(WD Bs.blocks_sorted),[],[],none⟩)
def aMh:rD prog aDd:=⟨aLQ,fun _ h=>by cases h⟩
@[go_sem] abbrev QU:Nat×r7:=(163,⟨[.v],noC,[],[],some a1g⟩)
def aCP:rD prog QU:=aCt
end
end Go.Proofs.YtcpbaddnmpeipaaGreatDoor
