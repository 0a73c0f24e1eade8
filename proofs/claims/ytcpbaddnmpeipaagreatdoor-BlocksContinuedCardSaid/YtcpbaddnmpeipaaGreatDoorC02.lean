/- Packed by a program of mine (wip/tools/pack.py): the same texts with short names and few blanks. -/
import Derived.BigCall
import Derived.BigGuard
import Derived.Handy
import Derived.KernelRfl
import Derived.Laws.Runes
import Derived.Lib.ItoaMem
import Derived.Lib.RowBridge
import Derived.LoopIn
import Derived.LoopN
import Derived.LoopNIn
import Derived.OrdersIn
import Derived.OwnWalkIn
import Derived.RangeFuncBox
import Derived.RangeFuncLeaves
import Derived.Scope
import Derived.Shelf.Abstract
import Derived.Shelf.SlSortCmp.NoneTotal
import Derived.Shelf.Slices.Clone
import Derived.Shelf.Slices.CompactS
import Derived.Shelf.Slices.In.SortNone
import Derived.Shelf.Small.Strs
import Derived.Shelf.Small.Utf8
import Derived.Shelf.Sort.Plain
import Derived.Shelf.Strings.Builder1
import Derived.Shelf.Strings.IndexAny
import Derived.Shelf.Strings.IndexAnyAll
import Derived.Shelf.Strings.OnBuilder
import Derived.Shelf.Strings.Runes
import Derived.Shelf.Strings.Search1
import Derived.Shelf.Strings.Search2
import Derived.Shelf.Strings.Search3
import Derived.Shelf.Strings.SlTrimAscii
import Derived.Shelf.Strings.Trim
import Derived.Shelf.Unicode.DecodeAny
import Derived.Shelf.Unicode.ValidAny
import Derived.TacticsInMore
import Derived.Test.YtcpbaddnmpeipaaGreatDoorChecked
import Derived.Test.YtcpbaddnmpeipaaGreatDoorProg
import Derived.WalkKit
import Derived.WalkMore
import Derived.Test.YtcpbaddnmpeipaaGreatDoorC01
set_option linter.defProp false
set_option linter.unusedVariables false
set_option linter.unusedSimpArgs false
set_option linter.unusedSectionVars false
set_option maxRecDepth 100000
set_option maxHeartbeats 4000000
namespace Go.Proofs.YtcpbaddnmpeipaaGreatDoor.Vc
open Go.RowKit
theorem a1h {g g':Gh}{w w':q9}{env:List (Nat×qM)}{a:Act}{o:Oper}{sl:qM}{v:qB}(h:AQ g w env a.tmps) (le:Le g w g' w') (hs:rO g' w' sl v) {N:Nat}(hN:a.tmps.size=N) (hd:ID N o.dst=true):AQ g' w' (u7 o.dst sl env) (a.put o.dst v).tmps:=by
  intro t;cases ho:o.dst with
  |none=>exact DA le (h t)
  | some d=>
    rw[ho] at hd;simp only[ID,aSx] at hd;simp only[u7,lk,Act.put];by_cases hdt:d=t
    · subst hdt
      rw[aSn rfl];have hlt:d<a.tmps.size:=by rw[hN];exact hd
      have:(a.tmps.setIfInBounds d v).getD d undef=v:=by
        rw[aSV,Array.getElem?_setIfInBounds_self_of_lt hlt];rfl
      rw[this];exact hs
    rw[aSo hdt]
    have:(a.tmps.setIfInBounds d v).getD t undef=a.tmps.getD t undef:=by
      rw[aSV,aTD hdt,←aSV]
    rw[this];exact DA le (h t)
theorem QO {n:Nat}: ∀{u:List (Nat×qJ)},IE n u=true→∀{i:Nat},i∈qQ u→i<n
  | (k,b)::u,h,i,hi=>by
    simp only[IE,aSA,aSx] at h;simp only[qQ,aSC] at hi;rcases hi with rfl|hi
    .exact h.1
    exact QO h.2 hi
theorem aA1 (a:Act) (d:Option Tmp) (v:qB):(a.put d v).tmps.size=a.tmps.size:=by
  cases d<;>simp [Act.put]
theorem aA2 (a:Act) (d:Option Tmp) (v:qB):(a.put d v).defers=a.defers:=by
  cases d<;>simp [Act.put]
theorem uK.step {B:Nat}{g g':Gh}{w w':q9}{s:St}{a:Act}{o:Oper}{e:qS}{v:qB}(h:uK B g w s a) (k:zQ g w s.H e g' w' v) (hd:ID s.N o.dst=true) (hi:IE (s.nb+32) e.upd=true):
    uK B g' w' ⟨u7 o.dst e.slot s.env,r6 e.upd s.H,s.nb+32,s.N,s.np⟩ (a.put o.dst v):=by
  refine⟨a1h h.env k.le k.slot h.size hd,k.heap,(aA1 _ _ _).trans h.size,fun i hn=>?_,by rw[aA2];exact h.def_.eff h.heap k,aTn h.np (Nat.le_add_right _ _)⟩;have:i∉qQ e.upd:=fun hm=>by have:=QO hi hm;simp only at hn;omega
  have hk:=k.gho i this;have hb:=h.nb i (by simp only at hn;omega);exact⟨hk.1.trans hb.1,fun n=>by rw[hk.2];exact hb.2 n⟩
theorem aA3 {T:sS}{Γ:tC}{ops:List Oper}: ∀(l:List Oper),uJ T Γ ops l none=none
  |[]=>rfl
  |_::_=>rfl
theorem a1i {T:sS}{Γ:tC}{ops:List Oper}{o:Oper}{l:List Oper}{x y:vV}(h:uJ T Γ ops (o::l) (some x)=some y):
    ∃ e,zP T Γ ops o x.s=some e∧ID x.s.N o.dst=true∧IE (x.s.nb+32) e.upd=true∧
      uJ T Γ ops l (some ⟨⟨u7 o.dst e.slot x.s.env,r6 e.upd x.s.H,x.s.nb+32,x.s.N,x.s.np⟩,r6 x.side (r6 (KQ x.s.H e.upd e.rds e.upd) e.side),e::x.es⟩)=some y:=by
  simp only[uJ] at h;cases he:zP T Γ ops o x.s with
  |none=>rw[he] at h;simp only[UH] at h;rw[aA3] at h;cases h
  | some e=>
    rw[he] at h;simp only[UH] at h;by_cases hc:(ID x.s.N o.dst&&IE (x.s.nb+32) e.upd)=true
    · rw[aSn hc] at h
      simp only[aSA] at hc;exact⟨e,rfl,hc.1,hc.2,h⟩
    rw[aSo hc,aA3] at h;cases h
theorem GR {T:sS}{Γ:tC}{ops:List Oper}: ∀{l:List Oper}{x y:vV},uJ T Γ ops l (some x)=some y→(∀p∈x.side,p∈y.side)∧y.s.N=x.s.N∧y.s.np=x.s.np
  | [],x,y,h=>by
    simp only[uJ,aSm] at h;subst h;exact⟨fun _ h=>h,rfl,rfl⟩
  | o::l,x,y,h=>by
    obtain⟨e,_,_,_,h4⟩:=a1i h;obtain⟨h5,h6,h7⟩:=GR h4;exact⟨fun p hp=>h5 p (wQ.2 (.inl hp)),h6,h7⟩
def F9 (ro:pZ):Fence:={Fence.wide with round:=ro}
theorem aA4 {ro:pZ}{n:Nat}{P:Program}{f:FuncId}{args:Array qB}{w:q9}{R:Ending→q9→Prop}(h:Calls P f args w R):CallsIn (F9 ro) n P f args w R:=callsIn_wide.2 h
section
variable {B:Nat}{P:Program}{T:sS}{Γ:tC}(hT:xA P T) (hΓ:DW P Γ) {A:Nat→Nat→Prop}{L:List qJ}{g0:Gh}{w0:q9}{Q:Exit→Act→q9→Prop}
include hT hΓ
theorem aJ2 {g:Gh}{w:q9}{s:St}{a:Act}(h:uK B g w s a) (e:qS):xV g s.nb e:=fun i _ hb=>h.nb i hb
omit hT hΓ in
theorem aA5 {ops:List Oper}{o:Oper}{s:St}{e:qS}(h:zP T Γ ops o s=some e): ∀c,o.op≠.defer c:=by
  intro c hc;replace h:=(QM h).1;unfold NB at h;cases hg:o.guard with
  |none=>rw[hg,hc] at h;simp [NA,u6,N8] at h
  | some jb=>
    rw[hg,hc] at h;simp only at h;cases hk:Γ (UG jb.1 jb.2) with
    |some _=>rw[hk] at h;cases h
    | none=>
      rw[hk] at h;simp only[PY] at h;cases hG:GH s.env jb.2 (zZ ops jb.1)<;>rw[hG] at h<;>simp [N9,u6,IB] at h
omit hT hΓ in
theorem aA6 {ro:pZ}{o:Oper}{a:Act}{w:q9}{K:Act→q9→Prop}(hd: ∀c,o.op≠.defer c) (h:o.wp P a w K Q):o.wpIn (F9 ro) 0 P a w K Q:=by
  refine⟨fun _ _=>trivial,?_⟩;rw[Oper.semAt_eq _ _ _ hd];unfold Oper.wp at h;generalize (execOp a.eval o).run P w=r at h|-;unfold Oper.upon at h;unfold Oper.uponIn;split at h
  .exact h
  .exact h
  .exact h
  .exact⟨fun h0=>(by cases h0),aA4 h⟩
  .exact⟨fun h0=>(by cases h0),fun c cs _=>let ⟨v,w',r,s⟩:=h c cs;⟨v,w',r,stepsIn_wide.2 s⟩⟩
  .exact h
  exact h.elim
theorem aA7 {ro:pZ}{ops:Array Oper}: ∀{l:List Oper}{x y:vV}{a:Act}{w:q9}{g:Gh},uJ T Γ ops.toList l (some x)=some y→(∀p∈y.side,p)→uK B g w x.s a→tE A L g0 w0 g w x.s.H→L.length=x.s.np→
    (∀g' a' w',uK B g' w' y.s a'→tE A L g0 w0 g' w' y.s.H→Q .normal a' w')→wpListIn (F9 ro) 0 P ops Q l a w
  | [],x,y,a,w,g,h,hs,hr,hg,hn,hQ=>by
    simp only[uJ,aSm] at h;subst h;exact hQ g a w hr hg
  | o::l,x,y,a,w,g,h,hs,hr,hg,hn,hQ=>by
    obtain⟨e,h1,h2,h3,h4⟩:=a1i h;have hside: ∀p∈e.side,p:=fun p hp=>hs p ((GR h4).1 p (wQ.2 (.inr (wQ.2 (.inr hp)))));have key:=aAX hT hΓ (ops:=ops.toList) (o:=o) (a:=a) (K:=wpListIn (F9 ro) 0 P ops Q l) (Q:=Q) hr.env hr.heap h1 hside (aJ2 hT hΓ hr e) (fun g' w' v k=>aA7 h4 hs (hr.step k h2 h3) (hg.eff k (hn▸(QM h1).2)) hn hQ);simp only[aTR] at key;unfold wpListIn;split at key
    .rename_i hw;rw[aSn hw];exact aA6 (aA5 h1) key
    rename_i hw;rw[aSo hw];exact⟨fun _ _=>trivial,key⟩
theorem aJ3 {ro:pZ}{id:Nat}{ops:Array Oper}{s:St}{y:vV}{a:Act}{w:q9}{g:Gh}(h:uJ T Γ ops.toList ops.toList (some ⟨s,[],[]⟩)=some y) (hs: ∀p∈y.side,p) (hr:uK B g w s a) (hg:tE A L g0 w0 g w s.H) (hn:L.length=s.np)
    (hQ: ∀g' a' w',uK B g' w' y.s a'→tE A L g0 w0 g' w' y.s.H→Q .normal a' w'):(Code.region id ops false).wpIn (F9 ro) 0 P Q a w:=
  wpIn_region_list (aA7 hT hΓ h hs hr hg hn hQ)
end
theorem aJ4 {H H':List (Nat×qJ)}{t:Ty}{i off:Nat}{e:qS}(h:I8 H t i off (qO H i)=some e) (hl: ∀id∈e.rds,qO H' id=qO H id):i∈e.rds∧I8 H' t i off (qO H' i)=some e:=by
  have key: ∃k n v x ts,qO H i=some (.cells v x ts)∧BN v x=some (k,n)∧TH t i off k n v x (qO H k)=some e∧e.rds=[1000000000,i,k]:=by
    unfold I8 at h;split at h
    case h_2=>cases h
    rename_i v x ts hb;cases hf:BN v x with
    |none=>rw[hf] at h;cases h
    | some q=>
      obtain⟨k,n⟩:=q;rw[hf] at h;refine⟨k,n,v,x,ts,hb,hf,h,?_⟩;simp only[TJ] at h;unfold TH at h;split at h
      case h_2=>cases h
      generalize zN _ _ _ _=z at h;cases z with
      |none=>cases h
      | some z=>
        obtain⟨v',x'⟩:=z;simp only[ZD] at h;unfold ZC at h;split at h
        .simp only[aSm] at h;rw[←h]
        cases h
  obtain⟨k,n,v,x,ts,h1,h2,h3,h4⟩:=key;refine⟨by rw[h4];simp,?_⟩;rw[hl i (by rw[h4];simp),h1];simp only[I8,h2,TJ];rw[hl k (by rw[h4];simp)];exact h3
theorem a1j {ρ ρ':Operand→qM}: ∀{xs:List Operand},(∀x∈xs,ρ' x=ρ x)→vN ρ' xs=vN ρ xs
  |[],_=>rfl
  |x::xs,h=>by simp only[vN,h x pS,a1j (fun y hy=>h y (aSy _ hy))]
theorem a1k {ρ ρ':Operand→qM}: ∀{xs:List (Nat×Operand)},(∀x∈xs,ρ' x.2=ρ x.2)→u1 ρ' xs=u1 ρ xs
  |[],_=>rfl
  |(i,x)::xs,h=>by simp only[u1,h (i,x) pS,a1k (fun y hy=>h y (aSy _ hy))]
theorem aA8 {T:sS}{ρ ρ':Operand→qM}: ∀{xs:List Operand}{ts:List TypeId},(∀x∈xs,ρ' x=ρ x)→BP T ρ' xs ts=BP T ρ xs ts
  |[],_,_=>by simp [BP]
  |_::_,[],_=>by simp [BP]
  |x::xs,t::ts,h=>by simp only[BP,h x pS,aA8 (fun y hy=>h y (aSy _ hy))]
theorem aJ5 {T:sS}{Γ:tC}{ty:TypeId}{ρ ρ':Operand→qM}{base:Nat}{H:List (Nat×qJ)}(op:Op) (h: ∀x∈op.operands,ρ' x=ρ x):u6 T Γ ty ρ' base H op=u6 T Γ ty ρ base H op:=by
  cases op
  case slice t x lo hi mx=>
    cases mx with
    |some m=>rfl
    | none=>
      have h1:=h x (by simp [Op.operands])
      have h2:zO ρ' lo=zO ρ lo:=by
        cases lo with
        |none=>rfl
        |some l=>simp only[zO,h l (by simp [Op.operands])]
      have h3:zO ρ' hi=zO ρ hi:=by
        cases hi with
        |none=>rfl
        |some l=>simp only[zO,h l (by simp [Op.operands])]
      simp only[u6,h1,h2,h3]
  case call c=>
    obtain⟨callee,args,tys⟩:=c
    have ha: ∀x∈args.toList,ρ' x=ρ x:=fun x hx=>h x (by
      have:x∈args:=by simpa using hx
      simp only[Op.operands,Call.operands];split<;>simp [this])
    cases callee with
    |builtin b=>cases b<;>simp only[u6,KO,a1j ha]
    | value f=>
      have hf:=h f (by simp [Op.operands,Call.operands]);simp only[u6,KO,hf];cases KK args.toList tys.toList with
      |false=>rfl
      |true=>simp only[a0e,aA8 ha]
    |_=>rfl
  case build t ps=>simp only[u6,a1k (fun x hx=>h x.2 (by simp only[Op.operands,aUk];exact List.mem_map_of_mem hx))]
  case buildSlice t n ps=>simp only[u6,a1k (fun x hx=>h x.2 (by simp only[Op.operands,aUk];exact List.mem_map_of_mem hx))]
  case makeFunc f first caps=>
    cases f with
    | func f=>
      have hc: ∀x∈caps.toList,ρ' x=ρ x:=fun x hx=>h x (by
        have:x∈caps:=by simpa using hx
        simp [Op.operands,this])
      simp only[u6,a1j hc]
    |_=>rfl
  all_goals first
    |rfl
    |(simp only[Op.operands,aUk,aSC,aTQ,or_false,forall_eq,forall_eq_or_imp] at h;simp only[u6,h])
    |(simp [Op.operands] at h;simp only[u6,h])
theorem a1l: ∀{l acc:List rP}{i:Nat},i∈sF (yX l acc)↔i∈sF l∨i∈sF acc
  |[],_,_=>by simp [yX,sF]
  | w::l,acc,i=>by
    simp only[yX,a1l,sF,aSC];constructor
    · rintro(h|h|h)
      .exact .inl (.inr h)
      .exact .inl (.inl h)
      exact .inr h
    rintro((h|h) |h)
    .exact .inr (.inl h)
    .exact .inl h
    exact .inr (.inr h)
section
variable {H H':List (Nat×qJ)}
theorem aJ6 {k:pZ}{a b:t6}(h:zK H k (some a)=some b):(∀i,i∈sF a.ws→i∈sF b.ws)∧((∀i,i∈sF b.ws→qO H' i=qO H i)→zK H' k (some a)=some b):=by
  cases k with
  | none=>
    have h:none=some b:=h;cases h
  | some k=>
    simp only[zK] at h|-
    have:(∃e c m,qO H k=some (.grow e c m)):=by
      cases hg:qO H k with
      |none=>rw[hg] at h;cases h
      | some bl=>cases bl with
        |grow e c m=>exact⟨_,_,_,rfl⟩
        |_=>rw[hg] at h;cases h
    obtain⟨e,c,m,hg⟩:=this;rw[hg] at h;simp only[C7] at h;split at h
    .cases h
    rename_i hm
    simp only[aSm] at h;subst h;refine⟨fun i hi=>by simp only[sF,aSC];exact .inr hi,fun hl=>?_⟩;rw[hl k (by simp [sF,rP.id]),hg];simp only[C7];rw[aSo hm]
theorem aJ7 (H:List (Nat×qJ)) (k:pZ):zK H k none=none:=by
  cases k with
  |none=>rfl
  | some k=>
    simp only[zK];cases qO H k with
    |none=>rfl
    |some bl=>cases bl<;>rfl
theorem aA9 (H:List (Nat×qJ)) (toks:pV) (o:Nat): ∀(qs:q8),yN H toks o qs none=none
  |[]=>rfl
  |q::qs=>by simp only[yN,aJ7,aA9 H toks o qs]
theorem aBa {H H':List (Nat×qJ)}{toks:pV}{o:Nat}: ∀{qs:q8}{a b:t6},yN H toks o qs (some a)=some b→(∀i,i∈sF a.ws→i∈sF b.ws)∧((∀i,i∈sF b.ws→qO H' i=qO H i)→yN H' toks o qs (some a)=some b)
  |[],a,b,h=>by simp only[yN,aSm] at h;subst h;exact⟨fun _ h=>h,fun _=>rfl⟩
  | q::qs,a,b,h=>by
    simp only[yN] at h|-;cases hm:zK H (wZ toks (o+q)) (some a) with
    |none=>rw[hm,aA9] at h;cases h
    | some m=>
      rw[hm] at h;obtain⟨h1,h2⟩:=aJ6 (H':=H') hm;obtain⟨h3,h4⟩:=aBa (H':=H') h;exact⟨fun i hi=>h3 i (h1 i hi),fun hl=>by rw[h2 (fun i hi=>hl i (h3 i hi))];exact h4 hl⟩
theorem aJ8 (H H':List (Nat×qJ)) (a:t6) (s:qM):xO H' a .v s=xO H a .v s:=by
  obtain⟨d,k⟩:=s;cases d with
  | val t x=>
    cases t with
    | clo=>
      cases x with
      |none=>rfl
      |some q=>obtain⟨f,l⟩:=q;cases l<;>rfl
    |_=>rfl
  |_=>rfl
theorem aBb {H H':List (Nat×qJ)}{t:Ty}{os:q8}{i o:Nat}{a b:t6}(h:vT H t os i o a (qO H i)=some b):(∀i,i∈sF a.ws→i∈sF b.ws)∧((∀i,i∈sF b.ws→qO H' i=qO H i)→vT H' t os i o a (qO H' i)=some b):=by
  cases hg:qO H i with
  |none=>rw[hg] at h;simp [vT] at h
  | some bl=>
    rw[hg] at h;cases bl with
    | cells u x toks=>
      simp only[vT] at h;cases hy:r9 t u x o with
      |none=>rw[hy] at h;simp [EX] at h
      | some y=>
        rw[hy] at h;simp only[EX] at h;split at h
        · rename_i hc
          obtain⟨h3,h4⟩:=aBa (H':=H') h;refine⟨fun j hj=>h3 j (by simp only[sF,aSC];exact .inr hj),fun hl=>?_⟩;rw[hl i (h3 i (by simp [sF,rP.id])),hg];simp only[vT,hy,EX];rw[aSn hc];exact h4 hl
        .cases h
    |_=>simp [vT] at h
theorem aJ9 (H:List (Nat×qJ)) (f:FuncId) (args:List qM) (ks:List (Ty×q8)) (cs ids:pV):xN H f args ks cs ids none=none:=by cases ks<;>cases cs<;>rfl
theorem aBc {H H':List (Nat×qJ)}{f:FuncId}{args:List qM}: ∀{ks:List (Ty×q8)}{cs ids:pV}{a b:t6},xN H f args ks cs ids (some a)=some b→(∀i,i∈sF a.ws→i∈sF b.ws)∧((∀i,i∈sF b.ws→qO H' i=qO H i)→xN H' f args ks cs ids (some a)=some b)
  | [],[],ids,a,b,h=>by
    simp only[xN,aSm] at h|-;subst h;exact⟨fun _ h=>h,fun _=>rfl⟩
  |[],_::_,_,_,_,h=>by simp [xN] at h
  |_::_,[],_,_,_,h=>by simp [xN] at h
  | (t,os)::ks,(i,o)::cs,ids,a,b,h=>by
    simp only[xN] at h|-;cases hb:vT H t os i o a (qO H i) with
    |none=>rw[hb,aJ9] at h;cases h
    | some m=>
      rw[hb] at h;obtain⟨h1,h2⟩:=aBb (H':=H') hb;obtain⟨h3,h4⟩:=aBc (H':=H') h;exact⟨fun i hi=>h3 i (h1 i hi),fun hl=>by rw[h2 (fun i hi=>hl i (h3 i hi))];exact h4 hl⟩
theorem aBd {p:PK}{s:qM}{a b:t6}(h:xO H a p s=some b):(∀i,i∈sF a.ws→i∈sF b.ws)∧((∀i,i∈sF b.ws→qO H' i=qO H i)→xO H' a p s=some b):=by
  by_cases hpv:p= .v
  · subst hpv
    refine⟨?_,fun _=>by rw[aJ8 H H'];exact h⟩;unfold xO at h;split at h
    .simp only[SX,aSm] at h;subst h;exact fun _ h=>h
    · simp only[SW] at h
      split at h
      .simp only[aSm] at h;subst h;exact fun _ h=>h
      cases h
    .simp only[SY,aSm] at h;subst h;exact fun _ h=>h
    .rename_i h1;cases h1
    .rename_i h1;cases h1
    .rename_i h1;cases h1
    .rename_i h1;cases h1
    .rename_i h1;cases h1
    .rename_i h1;cases h1
    cases h
  unfold xO at h;split at h
  .exact absurd rfl hpv
  .exact absurd rfl hpv
  .exact absurd rfl hpv
  · rename_i t x k
    simp only[xO];cases hg:qO H k with
    |none=>rw[hg] at h;simp [C8] at h
    | some bl=>
      rw[hg] at h;cases bl with
      | grow e c m=>
        simp only[C8] at h;split at h
        · rename_i hc
          simp only[aSm] at h;subst h;refine⟨fun i hi=>by simp only[sF,aSC];exact .inr hi,fun hl=>?_⟩;rw[hl k (by simp [sF,rP.id]),hg];simp only[C8];rw[aSn hc]
        .cases h
      |_=>simp [C8] at h
  · rename_i t os i o k
    simp only[xO];exact aBb h
  · rename_i i k
    simp only[xO];cases hg:qO H i with
    |none=>rw[hg] at h;simp [C9] at h
    | some bl=>
      rw[hg] at h;cases bl with
      | map s t l=>
        simp only[C9] at h;split at h
        · rename_i hc
          simp only[aSm] at h;subst h;refine⟨fun j hj=>by simp only[sF,aSC];exact .inr hj,fun hl=>?_⟩;rw[hl i (by simp [sF,rP.id]),hg];simp only[C9];rw[aSn hc]
        .cases h
      |_=>simp [C9] at h
  · rename_i k n k'
    simp only[xO];cases hg:qO H k with
    |none=>rw[hg] at h;simp [xM] at h
    | some bl=>
      rw[hg] at h;cases bl with
      | row e t l m=>
        simp only[xM] at h;split at h
        · rename_i hc
          simp only[aSm] at h;subst h;refine⟨fun j hj=>by simp only[sF,aSC];exact .inr hj,fun hl=>?_⟩;rw[hl k (by simp [sF,rP.id]),hg];simp only[xM];rw[aSn hc]
        .cases h
      | grow e c m=>
        simp only[xM] at h;split at h
        · rename_i hc
          simp only[aSm] at h;subst h;refine⟨fun j hj=>by simp only[sF,aSC];exact .inr hj,fun hl=>?_⟩;rw[hl k (by simp [sF,rP.id]),hg];simp only[xM];rw[aSn hc]
        .cases h
      |_=>simp [xM] at h
  · simp only[xO]
    exact aBc h
  · have hb:=h
    unfold PD at hb;split at hb
    · rename_i hc
      simp only[aSm] at hb;subst hb;exact⟨fun _ h=>h,fun _=>by simp only[xO,hc,PD]⟩
    cases hb
  cases h
theorem aBe (H:List (Nat×qJ)) (gs:List (Nat×Nat×PK)):BJ H gs none=none:=by cases gs<;>rfl
theorem aBf {H H':List (Nat×qJ)}: ∀{gs:List (Nat×Nat×PK)}{a b:t6},BJ H gs (some a)=some b→(∀i,i∈sF a.ws→i∈sF b.ws)∧((∀i,i∈sF b.ws→qO H' i=qO H i)→BJ H' gs (some a)=some b)
  |[],a,b,h=>by simp only[BJ,aSm] at h;subst h;exact⟨fun _ h=>h,fun _=>rfl⟩
  | (c,q,pk)::gs,a,b,h=>by
    simp only[BJ] at h|-;cases hm:xO H a pk (K8 q pk (I5 a.H (a.n-1-c))) with
    |none=>rw[hm] at h;simp only[MW,aBe] at h;cases h
    | some m=>
      rw[hm] at h;simp only[MW] at h;obtain⟨h1,h2⟩:=aBd (H':=H') hm;obtain⟨h3,h4⟩:=aBf (H':=H') h;exact⟨fun i hi=>h3 i (h1 i hi),fun hl=>by rw[h2 (fun i hi=>hl i (h3 i hi))];simp only[MW];exact h4 hl⟩
theorem aKa (H:List (Nat×qJ)): ∀(ps:List PK) (ss:List qM),xP H ps ss none=none
  |[],[]=>rfl
  |[],_::_=>rfl
  |_::_,[]=>rfl
  |_::_,_::_=>rfl
theorem aBg {H H':List (Nat×qJ)}: ∀{ps:List PK}{ss:List qM}{a b:t6},xP H ps ss (some a)=some b→(∀i,i∈sF a.ws→i∈sF b.ws)∧((∀i,i∈sF b.ws→qO H' i=qO H i)→xP H' ps ss (some a)=some b)
  |[],[],a,b,h=>by simp only[xP,aSm] at h;subst h;exact⟨fun _ h=>h,fun _=>rfl⟩
  |[],_::_,a,b,h=>by simp [xP] at h
  |_::_,[],a,b,h=>by simp [xP] at h
  | p::ps,s::ss,a,b,h=>by
    simp only[xP] at h|-;cases hm:xO H a p s with
    |none=>rw[hm,aKa] at h;cases h
    | some m=>
      rw[hm] at h;obtain⟨h1,h2⟩:=aBd (H':=H') hm;obtain⟨h3,h4⟩:=aBg (H':=H') h;exact⟨fun i hi=>h3 i (h1 i hi),fun hl=>by rw[h2 (fun i hi=>hl i (h3 i hi))];exact h4 hl⟩
theorem aBh {H H':List (Nat×qJ)}{base:Nat}{args:List qM}{s:rK}{e:qS}(h:GA H base args (some s)=some e) (hl: ∀i∈e.rds,qO H' i=qO H i):GA H' base args (some s)=some e:=by
  simp only[GA] at h|-;cases hp0:xP H s.ps args (some ⟨[],[],[],0⟩) with
  |none=>rw[hp0,aBe] at h;cases h
  |some a0=>
   rw[hp0] at h;cases hp:BJ H s.gs (some a0) with
   |none=>rw[hp] at h;cases h
   |some a=>
    rw[hp] at h
    have hrd: ∀i,i∈sF (yX a.ws [])→i∈e.rds:=by
      simp only[PJ] at h;cases hcl:I6 (yX a.ws []) (yX a.H []) with
      |none=>rw[hcl] at h;cases h
      |some L=>
      rw[hcl] at h;simp only[T8] at h;cases hc:s.C (yX a.args []) L with
      |none=>rw[hc] at h;cases h
      | some r=>
        rw[hc] at h;simp only[T7] at h;unfold PH at h;split at h
        · simp only[aSm] at h
          rw[←h];exact fun i hi=>wQ.2 (.inl hi)
        cases h
    obtain⟨g1,g2⟩:=aBf (H':=H') hp;rw[(aBg (H':=H') hp0).2 (fun i hi=>hl i (hrd i (a1l.2 (.inl (g1 i hi))))),g2 (fun i hi=>hl i (hrd i (a1l.2 (.inl hi))))];exact h
theorem aBi {H H':List (Nat×qJ)}{base:Nat}{args:List qM}{s:Option rK}{e:qS}(h:KI H base args s=some e) (hl: ∀i∈e.rds,qO H' i=qO H i):KI H' base args s=some e:=by
  cases s with
  |none=>cases h
  | some s=>
    simp only[KI] at h|-;cases hr:s.row with
    | some F=>
      rw[hr] at h;simp only[U6] at h|-;unfold TB at h|-;split at h
      · rename_i k n x
        cases hg:qO H k with
        |none=>rw[hg] at h;cases h
        | some b=>
          have hk:k∈e.rds:=by
            rw[hg] at h;cases b with
            | row e0 t l m=>
              simp only[YY] at h;unfold a8Z at h;split at h
              .simp only[aSm] at h;rw[←h];simp
              .cases h
            |_=>cases h
          rw[hl k hk];exact h
      .cases h
    | none=>
      rw[hr] at h;simp only[U6] at h|-;cases hn:PL s.ps args with
      |none=>rw[hn] at h;exact aBh h hl
      | some k=>
        rw[hn] at h;simp only[a8Y] at h|-;cases hg:qO H k with
        |none=>rw[hg] at h;cases h
        | some b=>
          rw[hg] at h;cases b with
          | row e0 t l m=>
            simp only[PN] at h;cases hi:GA ((k,.dead)::H) base (PM k t l args) (some s) with
            |none=>rw[hi] at h;cases h
            | some e1=>
              rw[hi] at h
              have hk:k∈e.rds∧∀i∈e1.rds,i∈e.rds:=by
                unfold YX at h;split at h
                · rename_i heq
                  simp only[aSm] at heq;subst heq;unfold YW at h;split at h
                  · split at h
                    · simp only[aSm] at h
                      rw[←h];exact⟨by simp,fun i hi=>aSy _ hi⟩
                    cases h
                  cases h
                cases h
              rw[hl k hk.1,hg];simp only[PN]
              rw[aBh hi (fun i hi'=>by
                simp only[qO];split
                .rfl
                exact hl i (hk.2 i hi'))]
              exact h
          |_=>cases h
theorem aBj {Γ:tC}{base:Nat}{args:List qM}{f:qM}{e:qS}(h:KJ Γ H base args f=some e) (hl: ∀i∈e.rds,qO H' i=qO H i):KJ Γ H' base args f=some e:=by
  unfold KJ at h|-;split at h
  .exact aBi h hl
  .exact aBi h hl
  cases h
theorem aBk {H H':List (Nat×qJ)}: ∀{ks:pV}{ps:List Prop}{bs:List (Nat×qJ)},BO H ks=some (ps,bs)→(∀p∈ks,p.1∈qQ bs)∧((∀p∈ks,qO H' p.1=qO H p.1)→BO H' ks=some (ps,bs))
  |[],ps,bs,h=>⟨fun p hp=>(by cases hp),fun _=>h⟩
  | (k,n)::r,ps,bs,h=>by
    simp only[BO] at h;split at h
    .cases h
    rename_i hk
    cases h1:TK k n (qO H k) with
    |none=>rw[h1] at h;simp [KF] at h
    | some q=>
      obtain⟨pp,b⟩:=q;cases h2:BO H r with
      |none=>rw[h1,h2] at h;simp [KF] at h
      | some q2=>
        obtain⟨ps2,bs2⟩:=q2;rw[h1,h2] at h;simp only[KF,aSm,aSQ] at h;obtain⟨rfl,rfl⟩:=h;obtain⟨k1,k2⟩:=aBk (H':=H') h2;refine⟨fun p hp=>?_,fun hg=>?_⟩
        · rcases aSC.1 hp with rfl|hp
          .simp [qQ]
          simp only[qQ,aSC];exact .inr (k1 p hp)
        simp only[BO]
        rw[aSo hk,hg _ aSH,h1,k2 (fun p hp=>hg p (aSy _ hp))];rfl
theorem aKb {H H':List (Nat×qJ)}: ∀{t:Ty}{x:t.den},(∀p∈AO t x,qO H' p.1=qO H p.1)→AN H' t x=AN H t x:=by
  intro t
  induction t with
  | rl e u=>
    intro x h;cases x with
    |none=>rfl
    | some p=>
      simp only[AN,ZE];rw[h p (by simp [AO,ZF])]
  | pair a b iha ihb=>
    intro x h;simp only[AN];rw[iha (fun p hp=>h p (by simp only[AO];exact GK.2 (.inl hp))),ihb (fun p hp=>h p (by simp only[AO];exact GK.2 (.inr hp)))]
  |_=>intro x h;rfl
theorem aKc {H H':List (Nat×qJ)}{t:Ty}{i off:Nat}{e:qS}(h:KG H t i off (qO H i)=some e) (hl: ∀id∈e.rds,qO H' id=qO H id):KG H' t i off (qO H' i)=some e:=by
  have key: ∃v x ts z ps bs,qO H i=some (.cells v x ts)∧AN H v x=some z∧BO H (AO v x)=some (ps,bs)∧TL t i (some (ps,bs)) (r9 t (GD v) z off)=some e∧e.rds=i::qQ bs:=by
    unfold KG at h;split at h
    case h_2=>cases h
    rename_i v x ts hb;cases hz:AN H v x with
    |none=>rw[hz] at h;cases h
    | some z=>
      rw[hz] at h;simp only[TM] at h;cases hsa:BO H (AO v x) with
      |none=>rw[hsa] at h;cases h
      | some q=>
        obtain⟨ps,bs⟩:=q;rw[hsa] at h;refine⟨v,x,ts,z,ps,bs,hb,hz,hsa,h,?_⟩;unfold TL at h;split at h
        · rename_i e1 e2
          cases e1;simp only[aSm] at h;rw[←h]
        cases h
  obtain⟨v,x,ts,z,ps,bs,h1,h2,h3,h4,h5⟩:=key;obtain⟨k1,k2⟩:=aBk (H':=H') h3;have hk: ∀p∈AO v x,qO H' p.1=qO H p.1:=fun p hp=>hl _ (by rw[h5];exact aSy _ (k1 p hp));rw[hl i (by rw[h5];exact aSH),h1];simp only[KG];rw[aKb hk,h2];simp only[TM];rw[k2 hk];exact h4
theorem aKd {H H':List (Nat×qJ)}{i off k n:Nat}{ti:TI}{e:qS}(h:N3 H i off k n ti (qO H i)=some e) (hl: ∀id∈e.rds,qO H' id=qO H id):N3 H' i off k n ti (qO H' i)=some e:=by
  obtain⟨ty,el,by',ar,ls⟩:=ti;cases ty with
  | list u=>
    cases hb:qO H i with
    |none=>rw[hb] at h;cases h
    | some b=>
      cases b with
      | cells v x ts=>
        rw[hb] at h;simp only[N3] at h
        have hi:i∈e.rds:=by
          rcases a99 h with h|h|h
          · unfold N1 at h;split at h
            .simp only[aSm] at h;rw[←h];simp
            cases h
          · unfold ZM at h;split at h
            .simp only[aSm] at h;rw[←h];simp
            cases h
          unfold PV at h;split at h
          · split at h
            · unfold TS at h;split at h
              .simp only[aSm] at h;rw[←h];simp
              cases h
            cases h
          cases h
        rw[hl i hi,hb];simp only[N3];unfold ZN at h|-;cases hz:N1 v i (tH ts off 1) (sL (.rl el u) (some (k,n)) v x off) with
        |some r=>rw[hz] at h;exact h
        | none=>
          rw[hz] at h;cases ls with
          |nil=>exact h
          | cons q r=>
            simp only[a9c] at h|-
            have hk:k∈e.rds:=by
              unfold PV at h;split at h
              · split at h
                · unfold TS at h;split at h
                  .simp only[aSm] at h;rw[←h];simp
                  cases h
                cases h
              cases h
            rw[hl k hk];exact h
      |_=>rw[hb] at h;cases h
  |_=>cases h
theorem aKe {Γ:tC}{H H':List (Nat×qJ)}{x:Nat×Nat×(Nat×Nat)×(Nat×Nat)}{args:List qM}{ti:Option TI}{e:qS}(h:KN Γ H x args ti=some e) (hl: ∀id∈e.rds,qO H' id=qO H id):KN Γ H' x args ti=some e:=by
  unfold KN at h;split at h
  case h_2=>cases h
  rename_i c i k3 n3 k4 n4 s kk el by' ar ls;simp only[KN]
  have key:e.rds=[i,k3,k4]:=by
    unfold UA at h;split at h
    case h_2=>cases h
    unfold a0b at h;split at h
    case h_2=>cases h
    unfold a0a at h;split at h
    case h_2=>cases h
    unfold ZZ at h;split at h
    case h_2=>cases h
    unfold ZY at h;split at h
    .simp only[aSm] at h;rw[←h]
    cases h
  rw[hl i (by rw[key];simp)];unfold UA at h|-;split at h
  case h_2=>cases h
  rw[hl k3 (by rw[key];simp),hl k4 (by rw[key];simp)];exact h
theorem aKf {T:sS}{Γ:tC}{H H':List (Nat×qJ)}{base:Nat}{args:List qM}{f:qM}{e:qS}(h:N5 T Γ base H args f=some e) (hl: ∀i∈e.rds,qO H' i=qO H i):N5 T Γ base H' args f=some e:=by
  unfold N5 at h|-;split at h
  .exact aKe h hl
  · unfold a0d at h|-
    split at h
    · rename_i hf
      rw[aSn hf];exact h
    rename_i hf
    rw[aSo hf];exact aBj h hl
  exact aBj h hl
theorem aKg {T:sS}{Γ:tC}{ty:TypeId}{ρ:Operand→qM}{base:Nat}{op:Op}{e:qS}(h:u6 T Γ ty ρ base H op=some e) (hl: ∀i∈e.rds,qO H' i=qO H i):u6 T Γ ty ρ base H' op=some e:=by
  cases op
  case load t x=>
    simp only[u6] at h|-;unfold TN at h|-;split at h
    · rename_i ti k n c i o' _ e1 e2
      unfold PS at h;split at h
      · rename_i e' t' l m hg
        split at h
        · rename_i hc
          have:e.rds=[k]:=by
            unfold a85 at h;split at h
            .simp only[aSm] at h;rw[←h]
            cases h
          rw[hl k (by rw[this];simp),hg];simp only[PS];rw[aSn hc];exact h
        cases h
      cases h
    .exact h
    · rename_i ti i off k e1 e2
      split at h
      · rename_i hq
        rw[aSn hq];exact aKc h hl
      rename_i hq;rw[aSo hq];rcases a9X h with h1|⟨h0,h1⟩
      · have hi:i∈e.rds:=by
          rcases a9W h1 with h|h
          · unfold PR at h
            split at h
            · unfold a84 at h;split at h
              .simp only[aSm] at h;rw[←h];simp
              cases h
            cases h
          unfold TG at h
          split at h
          · unfold Z9 at h;split at h
            .simp only[aSm] at h;rw[←h];simp
            cases h
          cases h
        rw[hl i hi,h1];rfl
      obtain⟨hi,h2⟩:=aJ4 h1 hl
      rw[hl i hi,h0];rw[hl i hi] at h2;exact h2
    cases h
  case store t x y=>
    simp only[u6] at h|-;unfold TW at h|-;split at h
    · rename_i ti i off k kk n k' e1 e2 e3
      exact aKd h hl
    · rename_i ti i off _ d _ e1 e2 e3
      have hi:i∈e.rds:=by
        unfold ZJ at h;split at h
        · unfold ZI at h
          split at h
          · unfold ZH at h
            split at h
            .simp only[aSm] at h;rw[←h];simp
            cases h
          cases h
        cases h
      rw[hl i hi];exact h
    · rename_i ti k n c i o' _ t y k' e1 e2 e3
      split at h
      · rename_i ht
        rw[aSn ht];unfold TV at h;split at h
        · rename_i e' t' l m hg
          split at h
          · rename_i hc
            have:e.rds=[k]:=by
              unfold a9b at h;split at h
              .simp only[aSm] at h;rw[←h]
              cases h
            rw[hl k (by rw[this];simp),hg];simp only[TV];rw[aSn hc];exact h
          cases h
        cases h
      cases h
    · rename_i ti i off k t y k' e1 e2 e3
      split at h
      · rename_i ht
        have hi:e.rds=[i]:=by
          have main: ∀e0,GE base i off (qO H i) ti.ls t y k'=some e0→e0.rds=[i]∧∃b r,e0.upd=(i,b)::r:=by
            intro e0 h;unfold GE at h;split at h
            · unfold TP at h
              split at h
              · unfold a88 at h;split at h
                .simp only[aSm] at h;rw[←h];exact⟨rfl,_,_,rfl⟩
                cases h
              cases h
            unfold TO at h
            split at h
            · unfold N1 at h;split at h
              .simp only[aSm] at h;rw[←h];exact⟨rfl,_,_,rfl⟩
              cases h
            cases h
          cases hb':KH t with
          |false=>rw[hb'] at h;exact(main e h).1
          | true=>
            rw[hb'] at h;simp only[ZG] at h;cases h0:GE base i off (qO H i) ti.ls t y k' with
            |none=>rw[h0] at h;cases h
            | some e0=>
              rw[h0] at h;obtain⟨m1,b,r,m2⟩:=main e0 h0;obtain⟨sd,s,up,rd⟩:=e0;simp only at m1 m2;subst m1 m2;unfold PU at h;split at h
              · rename_i heq
                cases heq;split at h
                · unfold TQ at h
                  split at h
                  .simp only[aSm] at h;rw[←h]
                  cases h
                cases h
              cases h
        rw[hl i (by rw[hi];simp)];simp only[aSn ht];exact h
      cases h
    cases h
  case call c=>
    obtain⟨callee,args,tys⟩:=c;cases callee with
    | builtin b=>
      cases b
      case append=>
        simp only[u6,KO] at h|-;unfold U9 at h|-;split at h
        · split at h
          · rename_i hu
            rw[aSn hu];unfold U4 at h|-;split at h
            · split at h
              · rename_i hbu
                rw[aSn hbu];unfold U3 at h;split at h
                · rename_i hg
                  split at h
                  · rename_i hbt
                    split at h
                    · rename_i hc
                      simp only[aSm] at h;subst h;rw[hl _ (aSH),hg];simp only[U3];rw[aUm hbt,aSn hc]
                    cases h
                  cases h
                cases h
              cases h
            · split at h
              · rename_i hba
                rw[aUm hba];unfold U1 at h;split at h
                · rename_i hg
                  split at h
                  · rename_i hc
                    simp only[aSm] at h;subst h;rw[hl _ (aSH),hg];simp only[U1];rw[aSn hc]
                  cases h
                cases h
              cases h
            cases h
          rename_i hu
          rw[aSo hu];unfold ZW at h|-;split at h
          · unfold U8 at h
            split at h
            · rename_i hg
              split at h
              · rename_i hc
                simp only[aSm] at h;subst h;rw[hl _ (aSH),hg];simp only[U8];rw[aSn hc]
              cases h
            cases h
          cases h
        cases h
      case len=>
        simp only[u6,KO] at h|-;unfold U7 at h|-;split at h
        · unfold ZU at h|-
          split at h
          · unfold U0 at h
            split at h
            · rename_i hg
              simp only[aSm] at h;subst h;rw[hl _ (aSH),hg];simp only[U0]
            cases h
          all_goals exact h
        cases h
      all_goals exact h
    | value f=>
      simp only[u6,KO] at h|-;cases hsl:KK args.toList tys.toList with
      |false=>rw[hsl] at h;cases h
      |true=>rw[hsl] at h;exact aKf h hl
    |_=>exact h
  case makeFunc f first caps=>
    cases f with
    |func f=>exact h
    |_=>exact h
  case slice t x lo hi mx=>
    cases mx with
    |none=>exact h
    |some m=>exact h
  case next x b=>
    simp only[u6] at h|-;unfold UF at h|-;split at h
    · rename_i i k e1
      unfold a0j at h;split at h
      · rename_i hg
        have:e.rds=[i]:=by
          simp only[aSm] at h;rw[←h]
        rw[hl i (by rw[this];simp),hg];exact h
      cases h
    cases h
  case lookup xt x ix ok=>
    simp only[u6] at h|-;unfold UC at h|-;split at h
    · rename_i el fl ar ls_ i kk e1 e2
      unfold a0g at h|-;split at h
      · rename_i kt vt k a _
        split at h
        · rename_i hk
          rw[aSn hk];unfold UB at h;split at h
          · rename_i hg
            split at h
            · rename_i hkv
              split at h
              · rename_i hkey
                have:e.rds=[i]:=by
                  cases ok<;>(simp only[aSm] at h;rw[←h])
                rw[hl i (by rw[this];simp),hg];simp only[UB];rw[aUm hkv,aSn hkey];exact h
              cases h
            cases h
          cases h
        cases h
      cases h
    .exact h
    cases h
  case mapUpdate mt m x y=>
    simp only[u6] at h|-;unfold N7 at h|-;split at h
    · rename_i el fl ar ls_ i kk e1 e2
      unfold UD at h|-;split at h
      · rename_i kt k a _ u b _
        split at h
        · rename_i hk
          rw[aSn hk];unfold N6 at h;split at h
          · rename_i hg
            split at h
            · rename_i hkv
              split at h
              · rename_i hkey
                have:e.rds=[i]:=by
                  simp only[aSm] at h;rw[←h]
                rw[hl i (by rw[this];simp),hg];simp only[N6];rw[aUm hkv,aSn hkey];exact h
              cases h
            cases h
          cases h
        cases h
      cases h
    cases h
  case insert mt m x y=>
    simp only[u6] at h|-;unfold N7 at h|-;split at h
    · rename_i el fl ar ls_ i kk e1 e2
      unfold UD at h|-;split at h
      · rename_i kt k a _ u b _
        split at h
        · rename_i hk
          rw[aSn hk];unfold N6 at h;split at h
          · rename_i hg
            split at h
            · rename_i hkv
              split at h
              · rename_i hkey
                have:e.rds=[i]:=by
                  simp only[aSm] at h;rw[←h]
                rw[hl i (by rw[this];simp),hg];simp only[N6];rw[aUm hkv,aSn hkey];exact h
              cases h
            cases h
          cases h
        cases h
      cases h
    cases h
  all_goals exact h
end
def aKh {T:sS}{Γ:tC}{ops:Array Oper}{o:Oper}{s s':St}{e:qS}(h:NB T Γ ops.toList o s=some e) (ht: ∀t∈o.looksAt ops,lk s'.env t=lk s.env t) (hH: ∀i∈e.rds,qO s'.H i=qO s.H i) (hn:s'.nb=s.nb):NB T Γ ops.toList o s'=some e:=by
 have hop: ∀x∈o.op.operands,tQ s'.env x=tQ s.env x:=fun x hx=>by
  cases x with
  |tmp t=>exact ht t (by simp only[Oper.looksAt,aTc,List.mem_filterMap];exact .inl ⟨.tmp t,by simpa using hx,rfl⟩)
  |_=>rfl
 have hops:CE s'.env (sR o.op)=CE s.env (sR o.op):=by
  have hsub: ∀x∈sR o.op,x∈o.op.operands:=by
   have hp: ∀(l:List (Nat×Operand)) x,x∈sR.parts l->x∈l.map (·.2):=by
    intro l
    induction l with
    |nil=>intro x h;exact h
    |cons q l ih=>
     intro x h;obtain⟨i,y⟩:=q;simp only[sR.parts,aSC] at h;rcases h with rfl|h
     .simp
     simp only[aTw,aSC];exact .inr (ih x h)
   have ho: ∀(y:Option Operand) x,x∈sR.opt y->y=some x:=by
    intro y x h;cases y with
    |none=>cases h
    |some y=>simp only[sR.opt,aSI] at h;rw[h]
   intro x hx;cases hop:o.op
   case call c=>
    rw[hop] at hx;obtain⟨callee,args,tys⟩:=c;cases callee<;>simp_all [sR,Op.operands,Call.operands]
   case slice t y lo hi mx=>
    rw[hop] at hx;simp only[sR,aSC,wQ] at hx;simp only[Op.operands,Array.mem_append];rcases hx with rfl|hx|hx
    .simp
    .have:=ho _ _ hx;subst this;simp
    have:=ho _ _ hx;subst this;simp
   case build t ps=>rw[hop] at hx;simp only[Op.operands,aUk];exact hp _ _ hx
   case buildSlice t n ps=>rw[hop] at hx;simp only[Op.operands,aUk];exact hp _ _ hx
   all_goals (rw[hop] at hx;simp_all [sR,Op.operands])
  have: ∀(l:List Operand),(∀x∈l,x∈o.op.operands)->CE s'.env l=CE s.env l:=by
   intro l
   induction l with
   |nil=>intro _;rfl
   |cons x l ih=>intro h;simp only[CE,hop x (h x pS),ih (fun y hy=>h y (aSy _ hy))]
  exact this _ hsub
 have hpl: ∀{e0:qS},u6 T Γ o.type (fun x=>tS (tQ s.env x)) s.nb s.H o.op=some e0->e0.rds=e.rds->u6 T Γ o.type (fun x=>tS (tQ s'.env x)) s'.nb s'.H o.op=some e0:=by
  intro e0 h1 h2;rw[aJ5 (ρ:=fun x=>tS (tQ s.env x)) (ρ':=fun x=>tS (tQ s'.env x)) o.op (fun x hx=>by simp only[hop x hx]),hn];exact aKg h1 (by rw[h2];exact hH)
 unfold NB at h|-;cases hg:o.guard with
 |none=>
  rw[hg] at h;simp only at h|-;by_cases hpk: ∃c x y,o.op= .pick c x y
  .obtain⟨c,x,y,hp⟩:=hpk;rw[hp] at h|-;simp only[NA] at h|-;rw[hop c (by rw[hp];simp [Op.operands]),hop x (by rw[hp];simp [Op.operands]),hop y (by rw[hp];simp [Op.operands])];exact h
  .have e1: ∀s,NA T Γ o s o.op=N8 (yZ true (CE s.env (sR o.op))) (u6 T Γ o.type (fun x=>tS (tQ s.env x)) s.nb s.H o.op):=by
    intro s;cases ho:o.op<;>first|rfl|(exact absurd ⟨_,_,_,ho⟩ hpk)
   rw[e1] at h|-;rw[hops];cases hp0:u6 T Γ o.type (fun x=>tS (tQ s.env x)) s.nb s.H o.op with
   |none=>rw[hp0] at h;cases h
   |some e0=>
    rw[hp0] at h;simp only[N8,aSm] at h;rw[hpl hp0 (by rw[<-h])];simp only[N8,h]
 |some jb=>
  obtain⟨j,b⟩:=jb;rw[hg] at h;simp only at h|-;have hgu:GH s'.env b (zZ ops.toList j)=GH s.env b (zZ ops.toList j):=by
   rw[QK];cases hd:(ops.toList[j]?).bind (·.dst) with
   |none=>rfl
   |some t=>
    simp only[GH];rw[ht t (by
     simp only[Oper.looksAt,hg,aTc];right;have:(ops[j]?).bind (·.dst)=some t:=by simpa using hd
     rw[this];simp)]
  have hup:KP s'.env b (zZ ops.toList j)=KP s.env b (zZ ops.toList j):=by
   rw[QK];cases hd:(ops.toList[j]?).bind (·.dst) with
   |none=>rfl
   |some t=>
    simp only[KP];rw[ht t (by
     simp only[Oper.looksAt,hg,aTc];right;have:(ops[j]?).bind (·.dst)=some t:=by simpa using hd
     rw[this];simp)]
  rw[hgu,hup];cases hsk:Γ (UG j b) with
  |some sg=>rw[hsk] at h;exact h
  |none=>
  rw[hsk] at h;simp only[PY] at h|-;cases hG:GH s.env b (zZ ops.toList j) with
  |none=>rw[hG] at h;cases h
  |some G=>
   rw[hG] at h;by_cases hpk: ∃c x y,o.op= .pick c x y
   .obtain⟨c,x,y,hp⟩:=hpk;rw[hp] at h|-;simp only[N9] at h|-;rw[hop c (by rw[hp];simp [Op.operands]),hop x (by rw[hp];simp [Op.operands]),hop y (by rw[hp];simp [Op.operands])];exact h
   have e1: ∀s,N9 T Γ o s (some G) o.op=IB G (yZ G (CE s.env (sR o.op))) (u6 T Γ o.type (fun x=>tS (tQ s.env x)) s.nb s.H o.op):=by
    intro s;cases ho:o.op<;>first|rfl|(exact absurd ⟨_,_,_,ho⟩ hpk)
   rw[e1] at h|-;rw[hops];cases hp0:u6 T Γ o.type (fun x=>tS (tQ s.env x)) s.nb s.H o.op with
   |none=>rw[hp0] at h;cases h
   |some e0=>
    rw[hp0] at h;have hrd:e0.rds=e.rds:=by
     unfold IB at h;split at h
     .rename_i heq;simp only[aSm] at h heq;subst heq;rw[<-h]
     .rename_i heq;simp only[aSm] at h heq;subst heq;rw[<-h]
     cases h
    rw[hpl hp0 hrd];exact h
def a1m {T:sS}{Γ:tC}{ops:Array Oper}{o:Oper}{s s':St}{e:qS}(h:zP T Γ ops.toList o s=some e) (ht: ∀t∈o.looksAt ops,lk s'.env t=lk s.env t) (hH: ∀i∈e.rds,qO s'.H i=qO s.H i) (hn:s'.nb=s.nb) (hp:s'.np=s.np):zP T Γ ops.toList o s'=some e:=by
 obtain⟨h1,h2⟩:=QM h;unfold zP at h|-;rw[h1] at h;rw[aKh h1 ht hH hn,hp];exact h
def uE {α:Type}(p:Nat->Bool) (wr:Nat->Option α) (b:α):Nat->α
 |0=>b
 |k+1=>if p k=true then(wr k).getD (uE p wr b k) else uE p wr b k
def LA {α:Type}{p q:Nat->Bool}{wr:Nat->Option α}{b:α}: ∀{n:Nat},(∀j,j<n->wr j≠none->p j=q j)->uE p wr b n=uE q wr b n
 |0,_=>rfl
 |n+1,h=>by
  simp only[uE];have ih:=LA (p:=p) (q:=q) (wr:=wr) (b:=b) (n:=n) (fun j hj=>h j pQ);cases hw:wr n with
  |none=>simp [ih]
  |some v=>rw[h n pQ (by rw[hw];simp),ih]
def a1n {α:Type}{wr:Nat->Option α}{b:α}{i:Nat}: ∀{n:Nat},i<=n->uE (fun j=>decide (j<i)) wr b n=uE (fun _=>true) wr b i
 |0,h=>by
  have:i=0:=by omega
  subst this;rfl
 |n+1,h=>by
  by_cases hi:i=n+1
  .subst hi;exact LA (fun j hj _=>by simp [hj])
  have: ¬n<i:=by omega
  simp only[uE];rw[aSo (by simp [this])];exact a1n pQ
def VL {α:Type}{p q:Nat->Bool}{wr:Nat->Option α}{b:α}{i:Nat}(hi:p i=false) (hq: ∀j,q j=if j=i then true else p j): ∀{n:Nat},i<n->(∀j,i<j->j<n->p j=true->wr j=none\/wr i=none)->uE q wr b n=(wr i).getD (uE p wr b n)
 |0,h,_=>by omega
 |n+1,h,hd=>by
  simp only[uE];by_cases hn:n=i
  .subst hn;rw[aSn (by rw[hq];simp),aSo (by simp [hi])];rw[LA (p:=q) (q:=p) (fun j hj _=>by rw[hq,aSo pQ])]
  have ih:=VL (b:=b) hi hq (n:=n) pQ (fun j h1 h2=>hd j h1 pQ);rw[hq,aSo hn,ih];by_cases hp:p n=true
  .rw[aSn hp,aSn hp];rcases hd n pQ pQ hp with h1|h1
   .rw[h1];rfl
   rw[h1];rfl
  rw[aSo hp,aSo hp]
def a1o {α:Type}{p:Nat->Bool}{wr:Nat->Option α}{b:α}: ∀(k:Nat),uE p wr b (k+1)=uE (fun j=>p (j+1)) (fun j=>wr (j+1)) (if p 0=true then(wr 0).getD b else b) k
 |0=>rfl
 |k+1=>by
  rw[uE,a1o k];rfl
def a1p {rds:q8}{i:Nat}: ∀{u:List (Nat×qJ)},i∈qQ (IF rds u)↔i∈qQ u/\CF i rds=false
 |[]=>by simp [IF,qQ]
 |(j,b)::u=>by
  simp only[IF];cases h:CF j rds with
  |true=>
   rw[aSn rfl,a1p (u:=u)];simp only[qQ,aSC];constructor
   .rintro⟨h1,h2⟩;exact⟨.inr h1,h2⟩
   .rintro⟨rfl|h1,h2⟩
    .rw[h] at h2;cases h2
    .exact⟨h1,h2⟩
  |false=>
   rw[aSo pS];simp only[qQ,aSC,a1p (u:=u)];constructor
   .rintro(rfl|⟨h1,h2⟩)
    .exact⟨.inl rfl,h⟩
    exact⟨.inr h1,h2⟩
   rintro⟨rfl|h1,h2⟩
   .exact .inl rfl
   exact .inr ⟨h1,h2⟩
def NL {e:qS}{i:Nat}:i∈qQ (xR e)↔i∈qQ e.upd/\CF i e.rds=false:=a1p
def aBl {i:Nat}: ∀{l:q8},CF i l=true->i∈l
 |[],h=>by cases h
 |j::l,h=>by
  simp only[CF] at h;split at h
  .rename_i e;subst e;exact aSH
  exact aSy _ (aBl h)
def aBm {H U:List (Nat×qJ)}{rds:q8}{i:Nat}(h:CF i rds=true): ∀{u:List (Nat×qJ)},i∈qQ u->(qO U i=qO H i)∈KQ H U rds u
 |[],hi=>by cases hi
 |(j,b)::u,hi=>by
  simp only[KQ];simp only[qQ,aSC] at hi;rcases hi with rfl|hi
  .rw[aSn h];exact aSH
  have:=aBm (H:=H) (U:=U) h hi;split
  .exact aSy _ this
  exact this
def aKi {H:List (Nat×qJ)}{e:qS}(hs: ∀p∈KQ H e.upd e.rds e.upd,p) {i:Nat}(h1:i∈qQ e.upd) (h2:i∉qQ (xR e)):qO e.upd i=qO H i/\i∈e.rds:=by
 have h:CF i e.rds=true:=by
  cases h3:CF i e.rds with
  |true=>rfl
  |false=>exact absurd (NL.2 ⟨h1,h3⟩) h2
 exact⟨hs _ (aBm h h1),aBl h⟩
def AS (os:List Oper) (es:List qS) (t j:Nat):Option qM:=
 match os[j]?,es[j]? with
 |some o,some e=>if o.dst=some t then some e.slot else none
 |_,_=>none
def xW (es:List qS) (id j:Nat):Option (Option qJ):=
 match es[j]? with
 |some e=>if id∈qQ (xR e) then some (qO e.upd id) else none
 |none=>none
def NM {id:Nat}{H:s7}: ∀{u:List (Nat×qJ)},qO (r6 u H) id=if id∈qQ u then qO u id else qO H id
 |[]=>by simp [r6,qQ]
 |(k,b)::u=>by
  simp only[r6,qO,qQ,aSC];by_cases h:k=id
  .subst h;simp
  rw[aSo h,aSo h,NM (u:=u)];have:(id=k\/id∈qQ u)↔id∈qQ u:=⟨fun h'=>h'.resolve_left (Ne.symm h),.inr⟩;simp only[this]
def aBn {d:Option Tmp}{s:qM}{env:List (Nat×qM)}{t:Nat}:lk (u7 d s env) t=if d=some t then s else lk env t:=by
 cases d with
 |none=>simp [u7]
 |some d=>simp only[u7,lk,aSm]
structure a1q (T:sS) (Γ:tC) (ops:List Oper) (os:List Oper) (es:List qS) (s:St) (y:vV) (k:Nat) (o:Oper) (e:qS) (sk:St):Prop where
 ev:zP T Γ ops o sk=some e
 nb:sk.nb=s.nb+32*k
 dst:ID s.N o.dst=true
 ids:IE (s.nb+32*k+32) e.upd=true
 np:sk.np=s.np
 side: ∀p∈e.side,p∈y.side
 env: ∀t,lk sk.env t=uE (fun _=>true) (AS os es t) (lk s.env t) k
 heap: ∀id,qO sk.H id=uE (fun _=>true) (xW es id) (qO s.H id) k
 same: ∀id,id∈qQ e.upd->id∉qQ (xR e)->qO e.upd id=qO sk.H id/\id∈e.rds
structure a1r (T:sS) (Γ:tC) (ops:List Oper) (os:List Oper) (es:List qS) (s:St) (y:vV):Prop where
 len:es.length=os.length
 nb:y.s.nb=s.nb+32*os.length
 step: ∀k o e,os[k]? =some o->es[k]? =some e->∃sk,a1q T Γ ops os es s y k o e sk
 env: ∀t,lk y.s.env t=uE (fun _=>true) (AS os es t) (lk s.env t) os.length
 heap: ∀id,qO y.s.H id=uE (fun _=>true) (xW es id) (qO s.H id) os.length
def VM {T:sS}{Γ:tC}{ops:List Oper}: ∀{l:List Oper}{x y:vV},uJ T Γ ops l (some x)=some y->(∀p∈y.side,p)->∃es:List qS,y.es=es.reverse++x.es/\a1r T Γ ops l es x.s y
 |[],x,y,h,_=>by
  simp only[uJ,aSm] at h;subst h;exact⟨[],rfl,rfl,rfl,fun k o e h=>by simp at h,fun _=>rfl,fun _=>rfl⟩
 |o::l,x,y,h,hsy=>by
  obtain⟨e,h1,h2,h3,h4⟩:=a1i h;obtain⟨es,h5,h6⟩:=VM h4 hsy;have hsame: ∀{i:Nat},i∈qQ e.upd->i∉qQ (xR e)->qO e.upd i=qO x.s.H i/\i∈e.rds:=fun h1 h2=>aKi (fun p hp=>hsy p ((GR h4).1 p (wQ.2 (.inr (wQ.2 (.inl hp)))))) h1 h2;have envs: ∀t k,uE (fun _=>true) (AS (o::l) (e::es) t) (lk x.s.env t) (k+1)=uE (fun _=>true) (AS l es t) (lk (u7 o.dst e.slot x.s.env) t) k:=fun t k=>by
   rw[a1o,aSn rfl,aBn];have:(AS (o::l) (e::es) t 0).getD (lk x.s.env t)=if o.dst=some t then e.slot else lk x.s.env t:=by
    simp only[AS,aSX];split<;>rfl
   rw[this];rfl
  have heaps: ∀id k,uE (fun _=>true) (xW (e::es) id) (qO x.s.H id) (k+1)=uE (fun _=>true) (xW es id) (qO (r6 e.upd x.s.H) id) k:=fun id k=>by
   rw[a1o,aSn rfl,NM];have:(xW (e::es) id 0).getD (qO x.s.H id)=if id∈qQ e.upd then qO e.upd id else qO x.s.H id:=by
    simp only[xW,aSX];by_cases h7:id∈qQ (xR e)
    .rw[aSn h7,aSn (NL.1 h7).1];rfl
    rw[aSo h7];by_cases h8:id∈qQ e.upd
    .rw[aSn h8,(hsame h8 h7).1];rfl
    rw[aSo h8];rfl
   rw[this];rfl
  refine⟨e::es,by rw[h5];simp,by simp [h6.len],?_,?_,fun t=>?_,fun id=>?_⟩
  .have:=h6.nb;simp only at this;rw[this];simp only[aSt];omega
  .intro k o' e' ho he;cases k with
   |zero=>
    simp only[aSX,aSm] at ho he;subst ho;subst he;exact⟨x.s,h1,rfl,h2,h3,rfl,fun p hp=>(GR h4).1 p (wQ.2 (.inr (wQ.2 (.inr hp)))),fun _=>rfl,fun _=>rfl,fun id=>hsame⟩
   |succ k=>
    simp only[aS6] at ho he;obtain⟨sk,q⟩:=h6.step k o' e' ho he;refine⟨sk,q.ev,by rw[q.nb];simp only;omega,q.dst,?_,q.np,q.side,fun t=>by rw[q.env t,envs],fun id=>by rw[q.heap id,heaps],q.same⟩;have:=q.ids;simp only at this;rw[show x.s.nb+32*(k+1)+32=x.s.nb+32+32*k+32 by omega];exact this
  .rw[aSt,envs];exact h6.env t
  rw[aSt,heaps];exact h6.heap id
def aBo {i0 j0:Nat}{ops:Array Oper}{bs:q8}{nb i:Nat}{o:Oper}{e:qS}: ∀{ps:List Oper}{fs:List qS}{j:Nat},UI i0 j0 ops bs nb i o e ps fs j=true->∀k p f,ps[k]? =some p->fs[k]? =some f->
  (bs.getD (j+k) 0).testBit i=true\/(o.apart ops p=true/\(GI e f=true\/(i=i0/\j+k=j0))/\KR (nb+32*i) f.upd=true)
 |p::ps,f::fs,j,h,k,p',f',hp,hf=>by
  simp only[UI,aSA,aTN,aSx] at h;cases k with
  |zero=>
   simp only[aSX,aSm] at hp hf;subst hp;subst hf;exact h.1.imp id (fun h=>⟨h.1.1,h.1.2,h.2⟩)
  |succ k=>
   simp only[aS6] at hp hf;have:=aBo h.2 k p' f' hp hf;rw[show j+(k+1)=j+1+k by omega];exact this
 |[],_,_,_,_,_,_,hp,_=>by simp at hp
 |_::_,[],_,_,_,_,_,_,hf=>by simp at hf
def a1s {i0 j0:Nat}{ops:Array Oper}{bs:q8}{nb:Nat}: ∀{os:List Oper}{es:List qS}{m:Nat},UJ i0 j0 ops bs nb os es m=true->∀i j o e p f,i<j->os[i]? =some o->es[i]? =some e->os[j]? =some p->es[j]? =some f->
  (bs.getD (m+j) 0).testBit (m+i)=true\/(o.apart ops p=true/\(GI e f=true\/(m+i=i0/\m+j=j0))/\KR (nb+32*(m+i)) f.upd=true)
 |o'::os,e'::es,m,h,i,j,o,e,p,f,hij,ho,he,hp,hf=>by
  simp only[UJ,aSA] at h;obtain⟨j,rfl⟩: ∃k,j=k+1:=⟨j-1,pQ⟩;simp only[aS6] at hp hf;cases i with
  |zero=>
   simp only[aSX,aSm] at ho he;subst ho;subst he;have:=aBo h.1 j p f hp hf;rw[show m+(j+1)=m+1+j by omega];exact this
  |succ i=>
   simp only[aS6] at ho he;have:=a1s h.2 i j o e p f pQ ho he hp hf;rw[show m+(j+1)=m+1+j by omega,show m+(i+1)=m+1+i by omega];exact this
 |[],_,_,_,_,_,_,_,_,_,_,ho,_,_,_=>by simp at ho
 |_::_,[],_,_,_,_,_,_,_,_,_,_,he,_,_=>by simp at he
def aBp: ∀{os:List Oper}{m:Nat},UK os m=true->∀i o,os[i]? =some o->∀e∈o.after,Region.binds .any e=true->e.on<m+i
 |o'::os,m,h,i,o,ho,e,he,hb=>by
  simp only[UK,aSA] at h;cases i with
  |zero=>
   simp only[aSX,aSm] at ho;subst ho;have:=aTd.1 h.1 e (by simpa using he);simpa[hb] using this
  |succ i=>
   simp only[aS6] at ho;have:=aBp h.2 i o ho e he hb;omega
 |[],_,_,_,_,ho,_,_,_=>by simp at ho
def VN {l:q8}: ∀{u:List (Nat×qJ)},PZ u l=false->∀i,i∈qQ u->i∉l
 |(k,b)::u,h,i,hi=>by
  simp only[PZ,aTI] at h;simp only[qQ,aSC] at hi;rcases hi with rfl|hi
  .simpa using h.1
  exact VN h.2 i hi
def NN {a b:qS}(h:GI a b=true):(∀i∈qQ (xR a),i∉b.rds/\i∉qQ b.upd)/\(∀i∈qQ (xR b),i∉a.rds):=by
 simp only[GI,aSA,aSR] at h;exact⟨fun i hi=>⟨fun h1=>VN h.1 i hi (wQ.2 (.inl h1)),fun h1=>VN h.1 i hi (wQ.2 (.inr h1))⟩,fun i hi=>VN h.2 i hi⟩
def aBq {lo:Nat}: ∀{u:List (Nat×qJ)},KR lo u=true->∀i∈qQ u,i<lo\/lo+32<=i
 |(k,b)::u,h,i,hi=>by
  simp only[KR,aSA,aTN,aSx] at h;simp only[qQ,aSC] at hi;rcases hi with rfl|hi
  .exact h.1
  exact aBq h.2 i hi
def a1t (os:List Oper) (p:Nat->Bool):Prop:= ∀j o,os[j]? =some o->p j=true->∀e∈o.after,Region.binds .any e=true->p e.on=true
def aBr {p:Nat->Bool}{acc:Array Nat}(hacc: ∀i j,(acc.getD i 0).testBit j=true->p i=true->p j=true) {i:Nat}: ∀{es:List Edge}{s:Nat},(s.testBit i=true->p i=true)->(∀e∈es,Region.binds .any e=true->p e.on=true)->
  (es.foldl (fun s e=>if Region.binds .any e then s|||2^e.on|||acc.getD e.on 0 else s) s).testBit i=true->p i=true
 |[],s,hs,_,h=>hs h
 |e::es,s,hs,he,h=>by
  simp only[List.foldl_cons] at h;refine aBr hacc (es:=es) (fun h1=>?_) (fun e' h'=>he e' (aSy _ h')) h;split at h1
  .rename_i hb;simp only[Nat.testBit_or,aTN,Nat.testBit_two_pow,aSx] at h1;rcases h1 with(h1|h1) |h1
   .exact hs h1
   .rw[<-h1];exact he e pS hb
   exact hacc _ _ h1 (he e pS hb)
  exact hs h1
def aBs {p:Nat->Bool}: ∀{os:List Oper}{acc:Array Nat},(∀i j,(acc.getD i 0).testBit j=true->p i=true->p j=true)->(∀j o,os[j]? =some o->p (acc.size+j)=true->∀e∈o.after,Region.binds .any e=true->p e.on=true)->
  ∀i j,((os.foldl (fun acc o=>acc.push (o.after.foldl (fun s e=>if Region.binds .any e then s|||2^e.on|||acc.getD e.on 0 else s) 0)) acc).getD i 0).testBit j=true->p i=true->p j=true
 |[],acc,hacc,_,i,j,h,hp=>hacc i j h hp
 |o::os,acc,hacc,hos,i,j,h,hp=>by
  simp only[List.foldl_cons] at h;refine aBs (os:=os) (fun i j h hp=>?_) (fun k o' ho hk=>?_) i j h hp
  .rw[aSV,Array.getElem?_push] at h;split at h
   .rename_i hi;simp only[aUr] at h;rw[<-aUq] at h;refine aBr hacc (es:=o.after.toList) (s:=0) (fun h=>by simp at h) (fun e he hb=>hos 0 o rfl (by rw[hi] at hp;exact hp) e (by simpa using he) hb) h
   rw[<-aSV] at h;exact hacc i j h hp
  refine hos (k+1) o' ho ?_;rw[Array.size_push] at hk;rw[show acc.size+(k+1)=acc.size+1+k by omega];exact hk
def aBt {ops:Array Oper}{p:Nat->Bool}(hp:a1t ops.toList p) {i j:Nat}(h:((Region.before ops).toList.getD i 0).testBit j=true) (hi:p i=true):p j=true:=by
 refine aBs (os:=ops.toList) (acc:= #[]) (p:=p) (fun i j h=>by simp at h) (fun j o ho hj=>hp j o ho (by simpa using hj)) i j ?_ hi;unfold Region.before at h;rw[<-aUq] at h;rw[aSV,<-aTk,<-aSO];exact h
def DC (l:Array Bool):Nat->Nat
 |0=>0
 |k+1=>DC l k+if l.getD k false=true then 0 else 1
theorem aBu {l l':Array Bool}: ∀{n:Nat},(∀j,j<n->l'.getD j false=l.getD j false)->DC l' n=DC l n
 |0,_=>rfl
 |n+1,h=>by simp only[DC];rw[aBu (fun j hj=>h j pQ),h n pQ]
theorem aBv {l:Array Bool}: ∀{n:Nat},DC l n=0->∀j,j<n->l.getD j false=true
 |n+1,h,j,hj=>by
  simp only[DC] at h;by_cases hn:l.getD n false=true
  .by_cases hjn:j=n
   .subst hjn;exact hn
   exact aBv (n:=n) pQ j pQ
  rw[aSo hn] at h;omega
theorem GS {l:Array Bool}{i j:Nat}(hi:i<l.size):(l.setIfInBounds i true).getD j false=if j=i then true else l.getD j false:=by
 by_cases h:j=i
 .subst h;rw[aSn rfl,aSV,Array.getElem?_setIfInBounds_self_of_lt hi];rfl
 rw[aSo h,aSV,aTD (Ne.symm h),<-aSV]
theorem aBw {l:Array Bool}{i:Nat}(hi:i<l.size) (hf:l.getD i false=false): ∀{n:Nat},i<n->DC (l.setIfInBounds i true) n+1=DC l n
 |n+1,h=>by
  simp only[DC];by_cases hn:n=i
  .subst hn;rw[GS hi,aSn rfl,aSn rfl,hf,aBu (l:=l) (fun j hj=>by rw[GS hi,aSo pQ])];simp
  rw[GS hi,aSo hn];have:=aBw hi hf (n:=n) pQ;omega
theorem aBx {p:Nat->Bool}: ∀{n:Nat},(∃j,j<n/\p j=false)->∃j,j<n/\p j=false/\∀k,k<j->p k=true
 |0,⟨j,h,_⟩=>by omega
 |n+1,⟨j,h,hj⟩=>by
  by_cases hs: ∃j,j<n/\p j=false
  .obtain⟨k,h1,h2,h3⟩:=aBx hs;exact⟨k,pQ,h2,h3⟩
  refine⟨j,h,hj,fun k hk=>?_⟩;cases hp:p k with
  |true=>rfl
  |false=>exact absurd ⟨k,pQ,hp⟩ hs
theorem sE.ext {g:Gh}{w:q9}{H H':s7}(h:sE g w H) (e: ∀i,qO H' i=qO H i):sE g w H':=
 ⟨fun i b hb=>h.blk i b (by rw[<-e];exact hb),fun i j bi bj b o hij h1 h2=>h.dis i j bi bj b o hij (by rw[<-e];exact h1) (by rw[<-e];exact h2),h.sl,h.tab.1,fun i b bb oo hb ho=>h.tab.2 i b bb oo (by rw[<-e];exact hb) ho⟩
theorem tE.ext {A:Nat->Nat->Prop}{L:List qJ}{g0 g:Gh}{w0 w:q9}{H H':s7}(h:tE A L g0 w0 g w H) (e: ∀i,qO H' i=qO H i):tE A L g0 w0 g w H':=
 ⟨h.shut,h.fr,fun i blk b o hb=>h.perm i blk b o (by rw[<-e];exact hb),h.J,h.live,fun i u y us hi hb=>h.ty i u y us hi (by rw[<-e];exact hb),h.cur⟩
theorem aBy (g:Gh) (w:q9) (d:Nat):Le g w g {w with drawn:=d}:=⟨fun _ _ h=>h,fun _ _ _=>rfl,fun _ _ h=>h,fun _ _ _ h=>h⟩
theorem sE.drawn {g:Gh}{w:q9}{H:s7}(h:sE g w H) (d:Nat):sE g {w with drawn:=d} H:=
 ⟨fun i b hb=>II (h.blk i b hb) (aBy g w d) rfl rfl (fun _ _ _=>⟨rfl,rfl⟩) (fun _ _=>rfl) (fun _ _ _ h=>h) (fun _ _ _ _ h=>h),h.dis,h.sl,I3 h.tab.1 (aSJ _) (fun _ _=>rfl),h.tab.2⟩
theorem tE.drawn {A:Nat->Nat->Prop}{L:List qJ}{g0 g:Gh}{w0 w:q9}{H:s7}(h:tE A L g0 w0 g w H) (d:Nat):tE A L g0 w0 g {w with drawn:=d} H:=
 ⟨h.shut,⟨h.fr.os,h.fr.tape,h.fr.output,h.fr.size,h.fr.blk,h.fr.cell,h.fr.new,h.fr.shape⟩,h.perm,h.J,h.live,h.ty,h.cur⟩
theorem a1u {rds:q8}{id:Nat}(h:CF id rds=false): ∀{u:List (Nat×qJ)},qO (IF rds u) id=qO u id
 |[]=>rfl
 |(k,b)::u=>by
  simp only[IF,qO];by_cases hk:k=id
  .subst hk;rw[aSo (by rw[h];simp)];simp [qO]
  split
  .exact a1u h
  simp only[qO,aSo hk];exact a1u h
theorem aKj {e:qS}{id:Nat}(h:CF id e.rds=false):qO (xR e) id=qO e.upd id:=a1u h
theorem aBz {T:sS}{Γ:tC}{ops:List Oper}: ∀{k:Nat}{l:List Oper}{x y:vV},uJ T Γ ops l (some x)=some y->∃a,uJ T Γ ops (l.take k) (some x)=some a/\uJ T Γ ops (l.drop k) (some a)=some y
 |0,l,x,y,h=>⟨x,rfl,h⟩
 |k+1,[],x,y,h=>⟨x,rfl,h⟩
 |k+1,o::l,x,y,h=>by
  simp only[List.take_succ_cons,aUu,uJ] at h|-;cases hz:UH o x (zP T Γ ops o x.s) with
  |none=>
   rw[hz] at h;cases l with
   |nil=>cases h
   |cons p l=>cases h
  |some z=>rw[hz] at h;exact aBz h
theorem a1v {α:Type}{p:Nat->Bool}{wr wr':Nat->Option α}{b:α}: ∀{n:Nat},(∀j,j<n->wr j=wr' j)->uE p wr b n=uE p wr' b n
 |0,_=>rfl
 |n+1,h=>by
  simp only[uE];rw[h n pQ,a1v (wr:=wr) (wr':=wr') (fun j hj=>h j pQ)]
theorem aKk {T:sS}{Γ:tC}{ops:Array Oper}{es:List qS}{s:St}{y a1:vV}{i0:Nat}{o1:Oper}{ex fx:qS}(run:a1r T Γ ops.toList ops.toList es s y) (hs: ∀p∈y.side,p) (ho1:ops.toList[i0]? =some o1) (ha1:uJ T Γ ops.toList (ops.toList.take i0) (some ⟨s,[],[]⟩)=some a1)
  (hes:y.es.reverse=es) (h:uJ T Γ ops.toList ops.toList (some ⟨s,[],[]⟩)=some y) (hx1:zP T Γ ops.toList o1 ⟨a1.s.env,r6 (xR fx) a1.s.H,a1.s.nb,a1.s.N,a1.s.np⟩=some ex):
  ∀sk oi,ops.toList[i0]? =some oi->a1q T Γ ops.toList ops.toList es s y i0 oi ex sk->zP T Γ ops.toList oi ⟨sk.env,r6 (xR fx) sk.H,sk.nb,sk.N,sk.np⟩=some ex:=by
 intro sk oi hoi st;rw[ho1] at hoi;cases hoi;obtain⟨a2,h1,h2⟩:=aBz (k:=i0) h;rw[ha1] at h1;cases h1;have hi0:i0<ops.toList.length:=(aSD.1 ho1).1;have hlt:(ops.toList.take i0).length=i0:=by rw[aS0];omega
 obtain⟨es2,e2,r2⟩:=VM h2 hs;obtain⟨es1,e1,r1⟩:=VM ha1 (fun p hp=>hs p ((GR h2).1 p hp));have he:es=es1++es2:=by rw[<-hes,e2,e1];simp
 have hl1:es1.length=i0:=by rw[r1.len,hlt]
 have hsd:=GR ha1;refine a1m hx1 (fun t _=>?_) (fun id _=>?_) ?_ ?_
 .show lk sk.env t=lk a1.s.env t;rw[st.env t,r1.env t,hlt];refine a1v (fun j hj=>?_);unfold AS;rw[he,aSG pQ,aTf hj]
 .show qO (r6 (xR fx) sk.H) id=qO (r6 (xR fx) a1.s.H) id;rw[NM,NM,st.heap id,r1.heap id,hlt];have:uE (fun _=>true) (xW es id) (qO s.H id) i0=uE (fun _=>true) (xW es1 id) (qO s.H id) i0:=a1v (fun j hj=>by
   unfold xW;rw[he,aSG pQ])
  rw[this]
 .show sk.nb=a1.s.nb;rw[st.nb,r1.nb,hlt]
 show sk.np=a1.s.np;rw[st.np,hsd.2.2]
section
variable {B:Nat}{P:Program}{T:sS}{Γ:tC}(hT:xA P T) (hΓ:DW P Γ) {A:Nat->Nat->Prop}{L:List qJ}{g0:Gh}{w0:q9}{Q:Exit->Act->q9->Prop}
structure Mid (B:Nat) (A:Nat->Nat->Prop) (L:List qJ) (g0:Gh) (w0:q9) (ops:Array Oper) (es:List qS) (s:St) (listed:Array Bool) (g:Gh) (w:q9) (a:Act) (env:List (Nat×qM)) (H:s7):Prop where
 size:listed.size=ops.size
 closed:a1t ops.toList (fun j=>listed.getD j false)
 eok:AQ g w env a.tmps
 look: ∀t,lk env t=uE (fun j=>listed.getD j false) (AS ops.toList es t) (lk s.env t) ops.size
 heap:sE g w H
 get: ∀id,qO H id=uE (fun j=>listed.getD j false) (xW es id) (qO s.H id) ops.size
 tmps:a.tmps.size=s.N
 def_:zT B w a.defers
 good:tE A L g0 w0 g w H
 len:L.length=s.np
 free: ∀j,j<ops.size->listed.getD j false=false->∀id,s.nb+32*j<=id->id<s.nb+32*j+32->g.J id=none/\∀n,g.cur id n=none
 top: ∀id,s.nb+32*ops.size<=id->g.J id=none/\∀n,g.cur id n=none
include hT hΓ
theorem aKl {i0 j0:Nat}{ro:pZ}{ops:Array Oper}{es:List qS}{s:St}{y:vV}(run:a1r T Γ ops.toList ops.toList es s y) (hs: ∀p∈y.side,p) (hchk:UL i0 j0 ops s.nb es=true) (hE:i0<ops.size->i0<j0/\∃ex fx,es[i0]? =some ex/\ex.upd=[]/\es[j0]? =some fx/\∀sk oi,ops.toList[i0]? =some oi->a1q T Γ ops.toList ops.toList es s y i0 oi ex sk->zP T Γ ops.toList oi ⟨sk.env,r6 (xR fx) sk.H,sk.nb,sk.N,sk.np⟩=some ex)
  (hQ: ∀g a w env H,AQ g w env a.tmps->(∀t,lk env t=lk y.s.env t)->sE g w H->(∀id,qO H id=qO y.s.H id)->a.tmps.size=s.N->zT B w a.defers->tE A L g0 w0 g w H->(∀id,s.nb+32*ops.size<=id->g.J id=none/\∀n,g.cur id n=none)->Q .normal a w):
  ∀(fuel:Nat) (listed:Array Bool) (g:Gh) (w:q9) (a:Act) (env:List (Nat×qM)) (H:s7),DC listed ops.size<=fuel->Mid B A L g0 w0 ops es s listed g w a env H->wpAnyIn (F9 ro) 0 P .any ops Q fuel listed a w:=by
 simp only[UL,aSA] at hchk;obtain⟨haf,hfr⟩:=hchk;have hsz:ops.toList.length=ops.size:=aTe;have done: ∀(listed:Array Bool) (g:Gh) (w:q9) (a:Act) (env:List (Nat×qM)) (H:s7),Mid B A L g0 w0 ops es s listed g w a env H->(∀j,j<ops.size->listed.getD j false=true)->Q .normal a w:=by
  intro listed g w a env H m hall;refine hQ g a w env H m.eok (fun t=>?_) m.heap (fun id=>?_) m.tmps m.def_ m.good m.top
  .rw[m.look t,run.env t,hsz];exact LA (fun j hj _=>hall j hj)
  rw[m.get id,run.heap id,hsz];exact LA (fun j hj _=>hall j hj)
 have stuck: ∀(listed:Array Bool),listed.size=ops.size->Region.ready .any ops listed=[]->∀j,j<ops.size->listed.getD j false=true:=by
  intro listed hls hr j hj;cases hp:listed.getD j false with
  |true=>rfl
  |false=>
   obtain⟨k,h1,h2,h3⟩:=aBx (p:=fun j=>listed.getD j false) ⟨j,hj,hp⟩;have:k∈Region.ready .any ops listed:=by
    rw[mem_ready];refine⟨?_,ops[k],by simp [h1],fun e he hb=>?_⟩
    .have h2:listed.getD k false=false:=h2;rw[aSV] at h2|-;rw[aUj pQ] at h2|-;exact h2
    have:=aBp haf k ops[k] (by simp [h1]) e he hb;exact h3 e.on pQ
   rw[hr] at this;cases this
 intro fuel
 induction fuel with
 |zero=>
  intro listed g w a env H hu m;have hall:=aBv (l:=listed) (n:=ops.size) pQ;refine⟨?_,done listed g w a env H m hall⟩;cases hr:Region.ready .any ops listed with
  |nil=>rfl
  |cons i r=>
   have:i∈Region.ready .any ops listed:=by rw[hr];simp
   obtain⟨h0,o,ho,_⟩:=mem_ready.1 this;have hi:i<ops.size:=(aSP.1 ho).1;have:=hall i hi;rw[aSV] at this h0;rw[aUj (by rw[m.size];exact hi)] at this h0;simp at this h0;rw[this] at h0;cases h0
 |succ fuel ih=>
  intro listed g w a env H hu m;refine⟨fun hr=>done listed g w a env H m (stuck listed m.size hr),fun i hi=>?_⟩;obtain⟨h0,o,ho,hall⟩:=mem_ready.1 hi;have hin:i<ops.size:=(aSP.1 ho).1;have hil:i<listed.size:=by rw[m.size];exact hin
  have hpi:listed.getD i false=false:=by
   rw[aSV] at h0|-;rw[aUj hil] at h0|-;exact h0
  have hoL:ops.toList[i]? =some o:=by simpa using ho
  obtain⟨e,he⟩: ∃e,es[i]? =some e:=⟨es[i]'(by rw[run.len,hsz];exact hin),by simp⟩;obtain⟨sk,st⟩:=run.step i o e hoL he;have hcl':a1t ops.toList (fun j=>(listed.setIfInBounds i true).getD j false):=by
   intro j o' ho' hj ed hed hb;simp only[GS hil] at hj|-;by_cases hji:j=i
   .subst hji;rw[hoL] at ho';obtain rfl:=aSr ho';have:=hall ed hed hb;split
    .rfl
    exact this
   rw[aSo hji] at hj;have:=m.closed j o' ho' hj ed hed hb;split
   .rfl
   exact this
  have hbef: ∀j,((Region.before ops).toList.getD i 0).testBit j=true->j≠i->listed.getD j false=true:=by
   intro j hj hne;have:=aBt hcl' hj (by simp only[GS hil];simp);simp only[GS hil,aSo hne] at this;exact this
  have haft: ∀j,((Region.before ops).toList.getD j 0).testBit i=true->listed.getD j false=true->False:=by
   intro j hj hl;have:=aBt m.closed hj hl;rw[hpi] at this;cases this
  have pairLt: ∀j p f,j<i->ops.toList[j]? =some p->es[j]? =some f->listed.getD j false=true\/(p.apart ops o=true/\(GI f e=true\/(j=i0/\i=j0))/\KR (s.nb+32*j) e.upd=true):=by
   intro j p f hji hp hf;rcases a1s hfr j i p f o e hji hp hf hoL he with h1|h1
   .rw[aSU,aSU] at h1;exact .inl (hbef j h1 pQ)
   rw[aSU,aSU] at h1;exact .inr h1
  have pairGt: ∀j p f,i<j->ops.toList[j]? =some p->es[j]? =some f->listed.getD j false=true->o.apart ops p=true/\(GI e f=true\/(i=i0/\j=j0)):=by
   intro j p f hij hp hf hl;rcases a1s hfr i j o e p f hij hoL he hp hf with h1|h1
   .rw[aSU,aSU] at h1;exact(haft j h1 hl).elim
   rw[aSU,aSU] at h1;exact⟨h1.1,h1.2.1⟩
  have same: ∀{α:Type}(wr:Nat->Option α) (b:α),(∀j p f,j<i->ops.toList[j]? =some p->es[j]? =some f->wr j≠none->p.apart ops o=true->(GI f e=true\/(j=i0/\i=j0))->False)->
    (∀j p f,i<j->ops.toList[j]? =some p->es[j]? =some f->wr j≠none->listed.getD j false=true->o.apart ops p=true->(GI e f=true\/(i=i0/\j=j0))->False)->(∀j,wr j≠none->∃f,es[j]? =some f)->
    uE (fun j=>listed.getD j false) wr b ops.size=uE (fun _=>true) wr b i:=by
   intro α wr b hlt hgt hex;rw[<-a1n (n:=ops.size) pQ];refine LA (fun j hj hw=>?_);obtain⟨f,hf⟩:=hex j hw;have hpj:ops.toList[j]? =some ops[j]:=by simp [hj]
   rcases Nat.lt_trichotomy j i with h1|h1|h1
   .rw[aS1 h1];rcases pairLt j _ f h1 hpj hf with h2|h2
    .exact h2
    exact(hlt j _ f h1 hpj hf hw h2.1 h2.2.1).elim
   .subst h1;simp [hpi]
   have: ¬j<i:=by omega
   rw[decide_eq_false this];cases hl:listed.getD j false with
   |false=>rfl
   |true=>
    obtain⟨h2,h3⟩:=pairGt j _ f h1 hpj hf hl;exact(hgt j _ f h1 hpj hf hw hl h2 h3).elim
  have exS: ∀t j,AS ops.toList es t j≠none->∃f,es[j]? =some f:=by
   intro t j h;unfold AS at h;cases hf:es[j]? with
   |none=>rw[hf] at h;exact absurd (by split<;>first|rfl|(rename_i h1;cases h1)) h
   |some f=>exact⟨f,rfl⟩
  have exH: ∀t j,xW es t j≠none->∃f,es[j]? =some f:=by
   intro t j h;unfold xW at h;cases hf:es[j]? with
   |none=>rw[hf] at h;exact absurd rfl h
   |some f=>exact⟨f,rfl⟩
  have dS: ∀t j p f,ops.toList[j]? =some p->es[j]? =some f->AS ops.toList es t j≠none->p.dst=some t:=by
   intro t j p f hp hf h;unfold AS at h;rw[hp,hf] at h;simp only at h;split at h
   .assumption
   exact absurd rfl h
  have dH: ∀id j f,es[j]? =some f->xW es id j≠none->id∈qQ (xR f):=by
   intro id j f hf h;unfold xW at h;rw[hf] at h;simp only at h;split at h
   .assumption
   exact absurd rfl h
  have noW: ∀id j f,es[j]? =some f->xW es id j≠none->j=i0->False:=fun id j f hf hw hj=>by
   subst hj;obtain⟨_,ex,fx,hex,hup,_⟩:=hE (by have:=(aSD.1 hf).1;rw[run.len,hsz] at this;exact this);have:=(NL.1 (dH id j _ hex hw)).1;rw[hup] at this;cases this
  have hrds: ∀id∈e.rds,¬(i=i0/\listed.getD j0 false=true)->qO H id=qO sk.H id:=fun id hid hX=>by
   rw[m.get id,st.heap id];refine same _ _ (fun j p f _ hp hf hw _ ha=>?_) (fun j p f _ hp hf hw hl _ ha=>?_) (exH id)
   .rcases ha with ha|ha
    .exact((NN ha).1 id (dH id j f hf hw)).1 hid
    exact noW id j f hf hw ha.1
   rcases ha with ha|ha
   .exact(NN ha).2 id (dH id j f hf hw) hid
   exact hX ⟨ha.1,ha.2▸hl⟩
  have htmp: ∀t∈o.looksAt ops,lk env t=lk sk.env t:=fun t ht=>by
   rw[m.look t,st.env t];refine same _ _ (fun j p f _ hp hf hw ha _=>?_) (fun j p f _ hp hf hw _ ha _=>?_) (exS t)
   .exact(Oper.apart_spec ha).1 t (dS t j p f hp hf hw) ht
   exact(Oper.apart_spec ha).2.2 t (dS t j p f hp hf hw) ht
  have hNs: ∀(s':St) (N':Nat),zP T Γ ops.toList o ⟨s'.env,s'.H,s'.nb,N',s'.np⟩=zP T Γ ops.toList o s':=fun _ _=>rfl;have hev:zP T Γ ops.toList o ⟨env,H,s.nb+32*i,s.N,s.np⟩=some e:=by
   by_cases hX:i=i0/\listed.getD j0 false=true
   .obtain⟨h1,hl0⟩:=hX;subst h1;obtain⟨hij0,ex,fx,hex,hup,hfx,hxe⟩:=hE hin;rw[he] at hex;cases hex;refine a1m (hxe sk o hoL st) (fun t ht=>htmp t ht) (fun id hid=>?_) st.nb.symm st.np.symm;show qO H id=qO (r6 (xR fx) sk.H) id;have hj0:j0<ops.size:=by
     have:=(aSD.1 hfx).1;rw[run.len,hsz] at this;exact this
    rw[m.get id,VL (p:=fun j=>listed.getD j false&& !decide (j=j0)) (i:=j0) pS (fun j=>by
     by_cases h:j=j0
     .subst h;rw[aSn rfl];exact hl0
     rw[aSo h];simp [h]) hj0 (fun j h1 h2 h3=>?_)]
    .have hrest:uE (fun j=>listed.getD j false&& !decide (j=j0)) (xW es id) (qO s.H id) ops.size=qO sk.H id:=by
      rw[st.heap id,<-a1n (n:=ops.size) pQ];refine LA (fun j hj hw=>?_);obtain⟨f,hf⟩:=exH id j hw;have hpj:ops.toList[j]? =some ops[j]:=by simp [hj]
      rcases Nat.lt_trichotomy j i with h1|h1|h1
      .rw[aS1 h1];rcases pairLt j _ f h1 hpj hf with h2|h2
       .rw[h2,decide_eq_false pQ];rfl
       rcases h2.2.1 with h2|h2
       .exact(((NN h2).1 id (dH id j f hf hw)).1 hid).elim
       omega
      .exact(noW id j f hf hw h1).elim
      have h9: ¬j<i:=by omega
      rw[decide_eq_false h9];cases hl:listed.getD j false with
      |false=>rfl
      |true=>
       obtain⟨_,h3⟩:=pairGt j _ f h1 hpj hf hl;rcases h3 with h3|h3
       .exact((NN h3).2 id (dH id j f hf hw) hid).elim
       rw[aS1 h3.2];rfl
     rw[hrest,NM];unfold xW;rw[hfx];simp only;by_cases h7:id∈qQ (xR fx)
     .rw[aSn h7,aSn h7,aKj (NL.1 h7).2];rfl
     rw[aSo h7,aSo h7];rfl
    left;have hl:listed.getD j false=true:=by
     cases h:listed.getD j false with
     |true=>rfl
     |false=>rw[h] at h3;cases h3
    cases hw:xW es id j with
    |none=>rfl
    |some v=>
     obtain⟨f,hf⟩:=exH id j (by rw[hw];simp);have hpj:ops.toList[j]? =some ops[j]:=by simp [h2]
     obtain⟨_,h4⟩:=pairGt j _ f pQ hpj hf hl;rcases h4 with h4|h4
     .exact((NN h4).2 id (dH id j f hf (by rw[hw];simp)) hid).elim
     omega
   exact a1m st.ev (fun t ht=>htmp t ht) (fun id hid=>hrds id hid hX) st.nb.symm st.np.symm
  have hXu: ∀id,id∈qQ e.upd->¬(i=i0/\listed.getD j0 false=true):=fun id hid hX=>by
   obtain⟨h1,_⟩:=hX;subst h1;obtain⟨_,ex,fx,hex,hup,_⟩:=hE hin;rw[he] at hex;cases hex;rw[hup] at hid;cases hid
  have hfresh:xV g (s.nb+32*i) e:=fun id hid hle=>m.free i hin hpi id hle (QO st.ids hid);have key:=aAX hT hΓ (ops:=ops.toList) (o:=o) (a:=a) (s:=⟨env,H,s.nb+32*i,s.N,s.np⟩) (K:=wpAnyIn (F9 ro) 0 P .any ops Q fuel (listed.setIfInBounds i true)) (Q:=Q) m.eok m.heap hev (fun p hp=>hs p (st.side p hp)) hfresh (fun g' w' v k=>by
   refine ih (listed.setIfInBounds i true) g' w' (a.put o.dst v) (u7 o.dst e.slot env) (r6 e.upd H) ?_ ⟨by rw[Array.size_setIfInBounds];exact m.size,hcl',a1h m.eok k.le k.slot m.tmps st.dst,fun t=>?_,k.heap,fun id=>?_,(aA1 _ _ _).trans m.tmps,by rw[aA2];exact m.def_.eff m.heap k,m.good.eff k (m.len▸(QM hev).2),m.len,fun j hj hjp id h1 h2=>?_,fun id hid=>?_⟩
   .have:=aBw hil hpi hin;omega
   .rw[aBn,VL (p:=fun j=>listed.getD j false) (i:=i) hpi (fun j=>by simp only[GS hil]) hin (fun j hij hj hl=>?_),<-m.look t]
    .unfold AS;rw[hoL,he];simp only;split<;>rfl
    have hpj:ops.toList[j]? =some ops[j]:=by simp [hj]
    obtain⟨f,hf⟩: ∃f,es[j]? =some f:=⟨es[j]'(by rw[run.len,hsz];exact hj),by simp⟩;obtain⟨h3,_⟩:=pairGt j _ f hij hpj hf hl;by_cases hw:AS ops.toList es t j=none
    .exact .inl hw
    right;have hd:=dS t j _ f hpj hf hw;by_cases hwi:AS ops.toList es t i=none
    .exact hwi
    have hdi:=dS t i _ e hoL he hwi;exact absurd hd ((Oper.apart_spec h3).2.1 t hdi)
   .rw[NM,VL (p:=fun j=>listed.getD j false) (i:=i) hpi (fun j=>by simp only[GS hil]) hin (fun j hij hj hl=>?_),<-m.get id]
    .unfold xW;rw[he];simp only;by_cases h7:id∈qQ (xR e)
     .rw[aSn h7,aSn (NL.1 h7).1];rfl
     rw[aSo h7];by_cases h8:id∈qQ e.upd
     .obtain⟨q1,q2⟩:=st.same id h8 h7;rw[aSn h8,q1,<-hrds id q2 (hXu id h8)];rfl
     rw[aSo h8];rfl
    have hpj:ops.toList[j]? =some ops[j]:=by simp [hj]
    obtain⟨f,hf⟩: ∃f,es[j]? =some f:=⟨es[j]'(by rw[run.len,hsz];exact hj),by simp⟩;obtain⟨_,h3⟩:=pairGt j _ f hij hpj hf hl;by_cases hw:xW es id j=none
    .exact .inl hw
    right;have hd:=dH id j f hf hw;by_cases hwi:xW es id i=none
    .exact hwi
    have hdi:=dH id i e he hwi;rcases h3 with h3|h3
    .exact absurd (NL.1 hd).1 ((NN h3).1 id hdi).2
    exact(noW id i e he hwi h3.1).elim
   .rw[GS hil] at hjp;have hji:j≠i:=fun h=>by rw[aSn h] at hjp;cases hjp
    rw[aSo hji] at hjp;have hnot:id∉qQ e.upd:=by
     intro hm;have hlt:=QO st.ids hm;rcases Nat.lt_or_gt_of_ne hji with h3|h3
     .obtain⟨f,hf⟩: ∃f,es[j]? =some f:=⟨es[j]'(by rw[run.len,hsz];exact hj),by simp⟩;rcases pairLt j ops[j] f h3 (by simp [hj]) hf with h4|h4
      .rw[hjp] at h4;cases h4
      have:=aBq h4.2.2 id hm;omega
     omega
    have hg:=k.gho id hnot;have hb:=m.free j hj hjp id h1 h2;exact⟨hg.1.trans hb.1,fun n=>by rw[hg.2];exact hb.2 n⟩
   have hnot:id∉qQ e.upd:=fun hm=>by have:=QO st.ids hm;omega
   have hg:=k.gho id hnot;have hb:=m.top id hid;exact⟨hg.1.trans hb.1,fun n=>by rw[hg.2];exact hb.2 n⟩)
  unfold wpOpIn;rw[ho];simp only[aTR] at key|-;split at key
  .rename_i hw;rw[aSn hw];exact aA6 (aA5 hev) key
  rename_i hw;rw[aSo hw];exact⟨fun _ _=>trivial,key⟩
theorem aKm {i0 j0:Nat}{ro:pZ}(hm:P.follows .mixedOrders=true) {id:Nat}{ops:Array Oper}{s:St}{y:vV}{a:Act}{w:q9}{g:Gh}(h:uJ T Γ ops.toList ops.toList (some ⟨s,[],[]⟩)=some y) (hchk:UL i0 j0 ops s.nb y.es.reverse=true) (hE:i0<ops.size->i0<j0/\∃ex fx a1 o1,y.es.reverse[i0]? =some ex/\ex.upd=[]/\y.es.reverse[j0]? =some fx/\ops.toList[i0]? =some o1/\uJ T Γ ops.toList (ops.toList.take i0) (some ⟨s,[],[]⟩)=some a1/\zP T Γ ops.toList o1 ⟨a1.s.env,r6 (xR fx) a1.s.H,a1.s.nb,a1.s.N,a1.s.np⟩=some ex) (hs: ∀p∈y.side,p) (hr:uK B g w s a) (hg:tE A L g0 w0 g w s.H) (hn:L.length=s.np)
  (hQ: ∀g' a' w',uK B g' w' y.s a'->tE A L g0 w0 g' w' y.s.H->Q .normal a' w'):(Code.region id ops true).wpIn (F9 ro) 0 P Q a w:=by
 obtain⟨es,h1,run⟩:=VM h hs;have hes:y.es.reverse=es:=by rw[h1];simp
 simp only at run;rw[hes] at hchk hE;have hsd:=GR h;have hrep: ∀j,(Array.replicate ops.size false).getD j false=false:=by
  intro j;rw[aSV,Array.getElem?_replicate];split<;>rfl
 have none: ∀{α:Type}(wr:Nat->Option α) (b:α) n,uE (fun j=>(Array.replicate ops.size false).getD j false) wr b n=b:=by
  intro α wr b n
  induction n with
  |zero=>rfl
  |succ n ih=>simp only[uE];rw[aSo (by rw[hrep];simp)];exact ih
 have hsz:ops.toList.length=ops.size:=aTe;refine wpIn_region_any hm (aKl hT hΓ run hs hchk (fun hi=>let ⟨c0,ex,fx,a1,o1,c1,c2,c3,c4,c5,c6⟩:=hE hi;⟨c0,ex,fx,c1,c2,c3,aKk run hs c4 c5 hes h c6⟩) (fun g' a' w' env H he hl hh hgt hz hd hgd htop=>?_) _ _ g _ a s.env s.H ?_ ⟨by simp,fun j o ho hj=>?_,fun t=>DA (aBy g w _) (hr.env t),fun t=>?_,hr.heap.drawn _,fun id=>?_,hr.size,hr.def_.same (fun _ h=>h),hg.drawn _,hn,fun j _ _ id h1 _=>hr.nb id pQ,fun id h1=>hr.nb id pQ⟩)
 .refine hQ g' a' w' ⟨fun t=>by rw[<-hl t];exact he t,hh.ext (fun i=>(hgt i).symm),by rw[hsd.2.1];exact hz,fun i hi=>htop i ?_,hd,?_⟩ (hgd.ext (fun i=>(hgt i).symm))
  .rw[run.nb,hsz] at hi;exact hi
  rw[hsd.2.2,run.nb];exact aTn hr.np (Nat.le_add_right _ _)
 .have: ∀n (l:Array Bool),DC l n<=n:=by
   intro n l
   induction n with
   |zero=>exact aSJ _
   |succ n ih=>simp only[DC];split<;>omega
  exact this _ _
 .simp only[hrep] at hj;cases hj
 .rw[none]
 exact(none _ _ _).symm
end
theorem a1w: ∀{l:List Prop},rN l->∀p∈l,p
 |[p],h,q,hq=>by simp only[aSI] at hq;subst hq;exact h
 |p::q::r,h,x,hx=>by
  rcases aSC.1 hx with rfl|hx
  .exact h.1
  exact a1w h.2 x hx
theorem aBB {p:Nat->Prop}(h: ∃n,p n): ∃n,p n/\∀m,p m->n<=m:=by
 obtain⟨n,hn⟩:=h
 induction n using Nat.strongRecOn with
 |_ n ih=>
  by_cases hs: ∃m,m<n/\p m
  .obtain⟨m,hm,hp⟩:=hs;exact ih m hm hp
  exact⟨n,hn,fun m hm=>Nat.le_of_not_lt fun hlt=>hs ⟨m,hlt,hm⟩⟩
noncomputable def QP (p:Nat->Prop):Nat:=open Classical in if h: ∃n,p n then(aBB h).choose else 0
theorem VO {p:Nat->Prop}(h: ∃n,p n):p (QP p)/\∀m,p m->QP p<=m:=by
 unfold QP;rw[aUm h];exact(aBB h).choose_spec
def FA:Exit->Option Ex
 | .normal=>some .normal
 | .exit id=>some (.exit id)
 | .ret=>some .ret
 |_=>none
def aBC (B:Nat) (A:Nat->Nat->Prop) (L:List qJ) (g0:Gh) (w0:q9) (Q:Ex->St->Prop) (x:Exit) (a:Act) (w:q9):Prop:=
 ∃e g s,FA x=some e/\Q e s/\uK B g w s a/\tE A L g0 w0 g w s.H/\s.np=L.length
section
variable {B:Nat}{P:Program}{T:sS}{Γ:tC}(hT:xA P T) (hΓ:DW P Γ) (hm:P.follows .mixedOrders=true) {A:Nat->Nat->Prop}{L:List qJ}{g0:Gh}{w0:q9}
include hT hΓ hm
theorem GT {ro:pZ}: ∀(c:Code) (s:St) (Q:Ex->St->Prop) (g:Gh) (a:Act) (w:q9),wD T Γ c s Q->uK B g w s a->tE A L g0 w0 g w s.H->s.np=L.length->c.wpIn (F9 ro) 0 P (aBC B A L g0 w0 Q) a w
 | .skip,s,Q,g,a,w,h,hr,hg,hn=>by
  unfold wD at h;exact wpIn_skip ⟨.normal,g,s,rfl,h,hr,hg,hn⟩
 | .label l,s,Q,g,a,w,h,hr,hg,hn=>by
  unfold wD at h;exact wpIn_label ⟨.normal,g,s,rfl,h,hr,hg,hn⟩
 | .exit id,s,Q,g,a,w,h,hr,hg,hn=>by
  unfold wD at h;exact wpIn_exit ⟨.exit id,g,s,rfl,h,hr,hg,hn⟩
 | .ret,s,Q,g,a,w,h,hr,hg,hn=>by
  unfold wD at h;exact wpIn_ret ⟨.ret,g,s,rfl,h,hr,hg,hn⟩
 | .region id ops draw,s,Q,g,a,w,h,hr,hg,hn=>by
  unfold wD at h;cases draw with
  |false=>
   simp only[Q0] at h;cases hy:uJ T Γ ops.toList ops.toList (some ⟨s,[],[]⟩) with
   |none=>rw[hy] at h;cases h
   |some y=>
    rw[hy] at h;refine aJ3 hT hΓ hy (a1w h.1) hr hg hn.symm (fun g' a' w' hr' hg'=>⟨.normal,g',y.s,rfl,h.2,hr',hg',(GR hy).2.2.trans hn⟩)
  |true=>
   simp only[Q0] at h;cases hy:uJ T Γ ops.toList ops.toList (some ⟨s,[],[]⟩) with
   |none=>rw[hy] at h;cases h
   |some y=>
    rw[hy] at h;simp only[a9r] at h;by_cases hc:KS ops s.nb y.es.reverse=true
    .rw[aSn hc] at h;refine aKm (i0:=ops.size) (j0:=0) hT hΓ hm hy hc (fun h=>absurd h (aUh _)) (a1w h.1) hr hg hn.symm (fun g' a' w' hr' hg'=>⟨.normal,g',y.s,rfl,h.2,hr',hg',(GR hy).2.2.trans hn⟩)
    .rw[aSo hc] at h;cases h
 | .seq x y,s,Q,g,a,w,h,hr,hg,hn=>by
  unfold wD at h;refine wpIn_seq (aT6 (GT x s _ g a w h hr hg hn) fun e a' w' hp=>?_);obtain⟨e',g',s',h1,h2,h3,h4,h5⟩:=hp;cases e<;>simp only[FA,aSm] at h1
  case normal=>subst h1;exact GT y s' Q g' a' w' h2 h3 h4 h5
  case exit id=>subst h1;exact⟨.exit id,g',s',rfl,h2,h3,h4,h5⟩
  case ret=>subst h1;exact⟨.ret,g',s',rfl,h2,h3,h4,h5⟩
  all_goals cases h1
 | .cond c x y,s,Q,g,a,w,h,hr,hg,hn=>by
  unfold wD at h;have hc:=A5 hr.env c;generalize tQ s.env c=sc at h hc;unfold a9z at h;split at h
  .exact wpIn_cond_split (vF hc.1) (fun ht=>GT x s Q g a w (h.1 ht) hr hg hn) (fun ht=>GT y s Q g a w (h.2 ht) hr hg hn)
  .obtain⟨b,hb,hp,hq⟩:=hc.1;exact wpIn_cond_split hb (fun ht=>GT x s Q g a w (h.1 (hp ht)) hr hg hn) (fun ht=>GT y s Q g a w (h.2 (hq ht)) hr hg hn)
  .cases h
 | .block id c,s,Q,g,a,w,h,hr,hg,hn=>by
  unfold wD at h;refine wpIn_block (aT6 (GT c s _ g a w h hr hg hn) fun e a' w' hp=>?_);obtain⟨e',g',s',h1,h2,h3,h4,h5⟩:=hp;cases e<;>simp only[FA,aSm] at h1
  case normal=>subst h1;exact⟨.normal,g',s',rfl,h2,h3,h4,h5⟩
  case exit j=>
   subst h1;simp only[KU] at h2;simp only[Exit.inBlock];split
   .rename_i hj;rw[aSn hj] at h2;exact⟨.normal,g',s',rfl,h2,h3,h4,h5⟩
   rename_i hj;rw[aSo hj] at h2;exact⟨.exit j,g',s',rfl,h2,h3,h4,h5⟩
  case ret=>subst h1;exact⟨.ret,g',s',rfl,h2,h3,h4,h5⟩
  all_goals cases h1
 | .loop c,s,Q,g,a,w,h,hr,hg,hn=>by
  unfold wD at h;obtain⟨k,I,μ,h0,hround⟩:=h;obtain⟨g1,k1,k2,k3,_⟩:=IQ hr hg hn k
  let R:Act->q9->Nat->Prop:=fun a w n=> ∃g s,I s/\μ s=n/\uK B g w s a/\tE A L g0 w0 g w s.H/\s.np=L.length
  refine wpIn_loop (fun a w=> ∃n,R a w n) (fun a w=>QP (R a w)) ⟨_,g1,s.keep k,h0,rfl,k1,k2,k3⟩ (fun a w hI=>?_);obtain⟨⟨g2,s2,i1,i2,i3,i4,i5⟩,_⟩:=VO hI;refine aT6 (GT c s2 _ g2 a w (hround s2 i1) i3 i4 i5) fun e a' w' hp=>?_;obtain⟨e',g',s',h1,h2,h3,h4,h5⟩:=hp;cases e<;>simp only[FA,aSm] at h1
  case normal=>
   subst h1;obtain⟨k',j1,j2⟩:=h2;obtain⟨g3,l1,l2,l3,_⟩:=IQ h3 h4 h5 k';have hR:R a' w' (μ (s'.keep k')):=⟨g3,s'.keep k',j1,rfl,l1,l2,l3⟩;refine⟨⟨_,hR⟩,Nat.lt_of_le_of_lt ((VO ⟨_,hR⟩).2 _ hR) (by rw[<-i2];exact j2)⟩
  case exit id=>subst h1;exact⟨.exit id,g',s',rfl,h2,h3,h4,h5⟩
  case ret=>subst h1;exact⟨.ret,g',s',rfl,h2,h3,h4,h5⟩
  all_goals cases h1
 | .rangeFunc _ _ _ _,_,_,_,_,_,h,_,_,_=>by unfold wD at h;cases h
 | .scope _,_,_,_,_,_,h,_,_,_=>by unfold wD at h;cases h
 | .goto _,_,_,_,_,_,h,_,_,_=>by unfold wD at h;cases h
 | .refuse _,_,_,_,_,_,h,_,_,_=>by unfold wD at h;cases h
end
section
variable {f:St->Prop}{Q:Ex->St->Prop}{s:St}{id j:Nat}{I:St->Prop}{μ:St->Nat}{m:Nat}
theorem qU (h:f s):Q3 f Q .normal s:=h
theorem v6 (h:Q (.exit j) s):Q3 f Q (.exit j) s:=h
theorem rF (h:Q .ret s):Q3 f Q .ret s:=h
theorem sI (h:Q .normal s):KU id Q .normal s:=h
theorem v7 (h:Q .normal s):KU id Q (.exit id) s:=by show (if id=id then Q .normal s else Q (.exit id) s);rw[aSn rfl];exact h
theorem sD (h:Q .ret s):KU id Q .ret s:=h
end
@[go_sem] def rY:Nat->List qM->List (Nat×qM)
 |_,[]=>[]
 |c,s::r=>(c,s)::rY (c+1) r
@[go_sem] def vO:Nat->List qJ->pV
 |_,[]=>[]
 |c,_::L=>(c,c)::vO (c+1) L
@[go_sem] def QQ (m:pV):List qM->Prop
 |[]=>True
 |s::r=>A0 m s=s/\QQ m r
@[go_sem] def LB (m:pV):List qJ->Prop
 |[]=>True
 | .dead::_=>False
 |b::r=>z7 m (some b)=b/\LB m r
def rZ:List qJ->Prop
 |[]=>True
 | .row _ _ l n::r=>n=List.length l/\rZ r
 |_::r=>rZ r
theorem aBD {g:Gh}{w:q9}: ∀{L:List qJ},(∀(i:Nat) b,L[i]? =some b->∃j,A2 g w j b)->rZ L
 |[],_=>trivial
 |b::L,h=>by
  have h1:=aBD (L:=L) fun i b' hb=>h (i+1) b' (by simpa using hb);obtain⟨j,h0⟩:=h 0 b rfl;cases b with
  |row e t l n=>exact⟨h0.1.symm,h1⟩
  |_=>exact h1
def a1x:pX->qB
 |[v]=>v
 |l=> .tuple l.toArray
@[go_sem] def aBE (env:List (Nat×qM)):q8->List qM
 |[]=>[]
 |t::r=>lk env t::aBE env r
attribute [go_sem] r8
@[go_sem] def aKn:qM->Int
 |(.val (.int _) n,_)=>n
 |_=>0
@[go_sem] def Fin (ts:q8) (r:qY):Ex->St->Prop
 | .exit _,_=>False
 |_,s=> ∃k:wC,(s.keep k).H=r8 0 r.H/\aBE (s.keep k).env ts=r.ret
theorem aBF: ∀(l:List qM) (c t:Nat),lk (rY c l) t=if c<=t then(l[t-c]?).getD (.any,none) else(.any,none)
 |[],c,t=>by simp [rY,lk]
 |s::l,c,t=>by
  simp only[rY,lk];by_cases h:c=t
  .subst h;simp
  rw[aSo h,aBF l (c+1) t];by_cases h2:c<=t
  .rw[aSn h2,aSn pQ];obtain⟨d,hd⟩: ∃d,t-c=d+1:=⟨t-c-1,pQ⟩;rw[hd,aS6,show t- (c+1)=d by omega]
  rw[aSo h2,aSo pQ]
theorem NO: ∀{L:List qJ}{c i j:Nat},(i,j)∈vO c L↔i=j/\c<=i/\i<c+L.length
 |[],c,i,j=>by simp only[vO,aTQ,aSF,false_iff];omega
 |b::L,c,i,j=>by
  simp only[vO,aSC,aSQ,NO,aSt];omega
theorem VP: ∀{L:List qJ}{c:Nat},x7 0 (vO c L)=true
 |[],_=>rfl
 |b::L,c=>by
  simp only[vO,x7,aSA];refine⟨⟨by simp,?_⟩,VP⟩;have: ∀{m:pV},(∀i j,(i,j)∈m->i≠c/\j≠c)->NC c c m=false:=by
   intro m
   induction m with
   |nil=>intro _;rfl
   |cons q m ih=>
    intro h;obtain⟨i,j⟩:=q;have:=h i j pS;simp only[NC,ih (fun i j hm=>h i j (aSy _ hm)),decide_eq_false this.1,decide_eq_false this.2];rfl
  rw[this]
  .rfl
  intro i j hm;obtain⟨rfl,h1,_⟩:=NO.1 hm;omega
theorem aBG {m:pV}: ∀{l:List qM},QQ m l->∀s∈l,A0 m s=s
 |x::l,h,s,hs=>by
  rcases aSC.1 hs with rfl|hs
  .exact h.1
  exact aBG h.2 s hs
theorem LC {m:pV}: ∀{l:List qJ},LB m l->∀b∈l,z7 m (some b)=b/\b≠.dead
 |x::l,h,b,hb=>by
  cases x with
  |dead=>exact h.elim
  |cells t y ts=>
   rcases aSC.1 hb with rfl|hb
   .exact⟨h.1,fun h=>by cases h⟩
   .exact LC h.2 b hb
  |row e t l n=>
   rcases aSC.1 hb with rfl|hb
   .exact⟨h.1,fun h=>by cases h⟩
   .exact LC h.2 b hb
  |map k v l=>
   rcases aSC.1 hb with rfl|hb
   .exact⟨h.1,fun h=>by cases h⟩
   .exact LC h.2 b hb
  |iter s n=>
   rcases aSC.1 hb with rfl|hb
   .exact⟨h.1,fun h=>by cases h⟩
   .exact LC h.2 b hb
  |grow e c n=>
   rcases aSC.1 hb with rfl|hb
   .exact⟨h.1,fun h=>by cases h⟩
   exact LC h.2 b hb
theorem VQ {g:Gh}{w:q9}: ∀{ss:List qM}{vs:pX},vH g w ss vs->vs.length=ss.length/\∀(i:Nat) s,ss[i]? =some s->∃v,vs[i]? =some v/\rO g w s v
 |[],vs,h=>by rw[show vs=[] from h];exact⟨rfl,fun i s h=>by simp at h⟩
 |s::ss,vs,⟨v,vs',e,h1,h2⟩=>by
  subst e;obtain⟨h3,h4⟩:=VQ h2;refine⟨by simp [h3],fun i s' hi=>?_⟩;cases i with
  |zero=>simp only[aSX,aSm] at hi;subst hi;exact⟨v,rfl,h1⟩
  |succ i=>simp only[aS6] at hi|-;exact h4 i s' hi
theorem VR: ∀(L:List qJ),rG L=L.length
 |[]=>rfl
 |_::L=>by simp only[rG,aSt,VR L]
theorem aKo {g:Gh}{w:q9}{args:List qM}{vals:pX}{L:List qJ}{N:Nat}(hH:sE g w (r8 0 L)) (ha:vH g w args vals) (hs:QQ (vO 0 L) args) (hb:LB (vO 0 L) L) (hN:args.length<=N):
  uK w.heap.size (tY g 0 (vO 0 L)) w ⟨rY 0 args,r8 0 L,rG L,N,rG L⟩ {tmps:=vals.toArray++Array.replicate (N-vals.toArray.size) undef,defers:=[]}/\
  (∀i blk,L[i]? =some blk->(tY g 0 (vO 0 L)).J i=g.J i/\A2 (tY g 0 (vO 0 L)) w i blk/\∀b o,s9 (tY g 0 (vO 0 L)) i blk b o->s9 g i blk b o):=by
 have hk:x7 0 (vO 0 L)=true:=VP;have hmem: ∀i blk,L[i]? =some blk->(i,i)∈vO 0 L:=fun i blk h=>NO.2 ⟨rfl,pQ,by have:=(aSD.1 h).1;omega⟩;have hblk: ∀i blk,L[i]? =some blk->A2 (tY g 0 (vO 0 L)) w i blk/\∀b o,s9 (tY g 0 (vO 0 L)) i blk b o->s9 g i blk b o:=by
  intro i blk h;have hr:=(LC hb blk (List.mem_of_getElem? h)).1;have:=L9 (g:=g) (w:=w) hk (hmem i blk h) (b:=some blk) (fun c hc=>by cases hc;exact hH.blk i blk (by rw[xD];exact h));rw[hr] at this;exact⟨this.1,fun b o ho=>by obtain⟨c,hc,hco⟩:=this.2 b o ho;cases hc;exact hco⟩
 obtain⟨hl,hv⟩:=VQ ha;refine⟨⟨fun t=>?_,⟨fun i b h=>?_,fun i j bi bj b o hij h1 h2 o1 o2=>?_,hH.sl,hH.tab.1,fun i blk b o hg ho=>hH.tab.2 i blk b o hg ((hblk i blk (by rw[<-xD];exact hg)).2 b o ho)⟩,?_,fun i hi=>?_,aAV _ _,aSJ _⟩,fun i blk h=>⟨(z8 hk (hmem i blk h)).1,hblk i blk h⟩⟩
 .rw[aBF,aSn (aTo _),Nat.sub_zero];cases ht:args[t]? with
  |none=>exact⟨trivial,trivial⟩
  |some s=>
   obtain⟨v,hv1,hv2⟩:=hv t s ht;have hlt:t<vals.length:=(aSD.1 hv1).1;have:(vals.toArray++Array.replicate (N-vals.toArray.size) undef).getD t undef=v:=by
    rw[aSV,Array.getElem?_append_left (by simpa using hlt)];simp [hv1]
   simp only[aUr];rw[this];have:=VJ hk hv2;rw[aBG hs s (List.mem_of_getElem? ht)] at this;exact this
 .rw[xD] at h;exact(hblk i b h).1
 .rw[xD] at h1 h2;exact hH.dis i j bi bj b o hij (by rw[xD];exact h1) (by rw[xD];exact h2) ((hblk i bi h1).2 b o o1) ((hblk j bj h2).2 b o o2)
 .simp only[aUx,Array.size_replicate,aTp];omega
 have hold:zU (vO 0 L) i=none:=by
  cases ho:zU (vO 0 L) i with
  |none=>rfl
  |some o=>
   obtain⟨rfl,_,h2⟩:=NO.1 (a1f ho);have hi:rG L<=i:=hi;rw[VR] at hi;omega
 refine⟨?_,fun n=>?_⟩
 .show (if i<0 then g.J i else(zU (vO 0 L) i).bind g.J)=none;rw[aSo pQ,hold];rfl
 show (if i<0 then g.cur i n else(zU (vO 0 L) i).bind fun o=>g.cur o n)=none;rw[aSo pQ,hold];rfl
structure uL (B:Nat) (w w':q9):Prop where
 os:w'.os=w.os
 tape:w'.tape=w.tape
 output:w'.output=w.output
 size:w.heap.size<=w'.heap.size
 blk: ∀b,b<w.heap.size->w'.heap[b]? =w.heap[b]? \/(B<=b/\NG<=b/\∃o o',w.heap[b]? =some o/\w'.heap[b]? =some o'/\GQ o=true/\GQ o'=true)
theorem aBH {w:q9}{b:Nat}{ob:Obj}(hd:w.heap[b]? =some ob) (hm:GQ ob=true) (o:Nat):w.frozen? ⟨b,o,none⟩=false:=by
 unfold World.frozen?;simp only[hd];cases ob<;>first|rfl|cases hm
theorem aKp {w:q9}{b:Nat}{ob:Obj}(hd:w.heap[b]? =some ob) (hm:GQ ob=true):w.shape? b=none:=by
 unfold World.shape?;simp only[hd];cases ob<;>first|rfl|cases hm
section
variable {B:Nat}{w w' w'':q9}
theorem uL.refl (B:Nat) (w:q9):uL B w w:=⟨rfl,rfl,rfl,aSJ _,fun _ _=> .inl rfl⟩
theorem uL.trans (h:uL B w w') (k:uL B w' w''):uL B w w'':=by
 refine⟨k.os.trans h.os,k.tape.trans h.tape,k.output.trans h.output,aTn h.size k.size,fun b hb=>?_⟩;rcases k.blk b (aSY hb h.size) with k1|⟨k0,k1,o,o',k2,k3,k4,k5⟩
 .rcases h.blk b hb with h1|⟨h0,h1,o,o',h2,h3,h4,h5⟩
  .exact .inl (k1.trans h1)
  exact .inr ⟨h0,h1,o,o',h2,k1.trans h3,h4,h5⟩
 rcases h.blk b hb with h1|⟨h0,h1,p,p',h2,h3,h4,h5⟩
 .exact .inr ⟨k0,k1,o,o',h1▸k2,k3,k4,k5⟩
 exact .inr ⟨h0,h1,p,o',h2,k3,h4,k5⟩
theorem uL.cell (t:uL B w w') {b:Nat}(hb:b<w.heap.size) (o:Nat):w'.cell? ⟨b,o,none⟩=w.cell? ⟨b,o,none⟩/\w'.frozen? ⟨b,o,none⟩=w.frozen? ⟨b,o,none⟩:=by
 rcases t.blk b hb with h|⟨_,_,o1,o2,h1,h2,m1,m2⟩
 .exact⟨aSL h,by unfold World.frozen?;simp only[h]⟩
 exact⟨by rw[a1b h1 m1,a1b h2 m2],by rw[aBH h1 m1,aBH h2 m2]⟩
theorem uL.shape (t:uL B w w') {b:Nat}{s:TypeId×Nat}(h:w.shape? b=some s):w'.shape? b=some s:=by
 have hb:b<w.heap.size:=by
  unfold World.shape? at h;cases hx:w.heap[b]? with
  |none=>rw[hx] at h;cases h
  |some _=>exact(aSP.1 hx).1
 rcases t.blk b hb with k|⟨_,_,o1,o2,h1,h2,m1,m2⟩
 .unfold World.shape? at h|-;rw[k];exact h
 rw[aKp h1 m1] at h;cases h
theorem uL.le (t:uL B w w') {g:Gh}(hs: ∀b o,g.S b o->b<w.heap.size):Le g w g w':=⟨fun _ _ h=>h,fun b o h=>(t.cell (hs b o h) o).1,fun _ _ h=>h,fun _ _ _ h=>h⟩
theorem uL.heapOk (t:uL B w w') {g:Gh}{H:s7}(h:sE g w H):sE g w' H:=by
 have own: ∀{i blk b o},qO H i=some blk->s9 g i blk b o->w'.heap[b]? =w.heap[b]? :=fun hg ho=>by
  rcases t.blk _ (KY (h.blk _ _ hg) ho) with k|⟨_,_,o1,o2,h1,_,m1,_⟩
  .exact k
  exact(VG (h.blk _ _ hg) ho h1 m1).elim
 refine⟨fun i blk hb=>II (h.blk i blk hb) (t.le h.sl) rfl rfl (fun b o ho=>t.cell (KY (h.blk i blk hb) ho) o) (fun b ho=>own hb (ho 0)) (fun _ _ _ x=>x) (fun b o s _ x=>t.shape x),h.dis,fun b o x=>aSY (h.sl b o x) t.size,I3 h.tab.1 t.size (fun b hb=>?_),h.tab.2⟩;rcases t.blk b (aSY hb h.tab.1.1) with k|⟨_,k,_⟩
 .exact k
 omega
theorem uK.turn {g:Gh}{s:St}{a:Act}{ds:List Deferred}(h:uK B g w s a) (t:uL B w w') (hd:zT B w' ds):uK B g w' s {a with defers:=ds}:=
 ⟨fun x=>DA (t.le h.heap.sl) (h.env x),t.heapOk h.heap,h.size,h.nb,hd,h.np⟩
theorem tE.turn {A:Nat->Nat->Prop}{L:List qJ}{g0 g:Gh}{w0:q9}{H:s7}(h:tE A L g0 w0 g w H) (hs: ∀b o,g.S b o->b<w.heap.size) (t:uL w0.heap.size w w'):tE A L g0 w0 g w' H:=by
 refine⟨fun b o x=>⟨(h.shut b o x).1,(t.cell (hs b o (h.shut b o x).1) o).1.trans (h.shut b o x).2⟩,⟨t.os.trans h.fr.os,t.tape.trans h.fr.tape,t.output.trans h.fr.output,aTn h.fr.size t.size,fun b hb hA=>?_,fun b o hb hA=>?_,h.fr.new,fun b s x=>?_⟩,h.perm,h.J,h.live,h.ty,h.cur⟩
 .rcases t.blk b (aSY hb h.fr.size) with k|⟨k,_⟩
  .exact k.trans (h.fr.blk b hb hA)
  omega
 .have:=t.cell (aSY hb h.fr.size) o;have k:=h.fr.cell b o hb hA;exact⟨this.1.trans k.1,this.2.trans k.2⟩
 rcases h.fr.shape b s x with k|k
 .exact .inl (t.shape k)
 exact .inr k
end
theorem aBI {P:Program}{fn:Func}{R:Ending->q9->Prop}{A:Nat->Nat->Prop}{L:List qJ}{g0 g:Gh}{w0:q9}{s:St}{tmps:Array qB}: ∀(ds:List Deferred) (w:q9),uK w0.heap.size g w s {tmps:=tmps,defers:=ds}->tE A L g0 w0 g w s.H->
  (∀w',uK w0.heap.size g w' s {tmps:=tmps,defers:=[]}->tE A L g0 w0 g w' s.H->∃v,(results fn tmps).run P w'= .ok v w'/\R (.returned v) w')->LeavesInM Fence.wide 0 P fn tmps R ds .returning w
 |[],w,hr,hg,h=>h w hr hg
 |d::ds,w,hr,hg,h=>by
  obtain⟨hnd,hall⟩:=hr.def_;obtain⟨D,rfl,h1,h2,h3⟩:=hall d aSH;have hlt:=(aSP.1 h3).1;have t:uL w0.heap.size w (w.putObj D (.deferred none)):=by
   refine⟨rfl,rfl,rfl,by simp [World.putObj],fun b hb=>?_⟩;by_cases e:b=D
   .subst e;exact .inr ⟨h1,h2,_,_,h3,World.putObj_heap_same hlt,rfl,rfl⟩
   exact .inl (World.putObj_heap_other e)
  have hd:zT w0.heap.size (w.putObj D (.deferred none)) ds:=by
   refine⟨(List.nodup_cons.1 hnd).2,fun d' hd'=>?_⟩;obtain⟨D',rfl,k1,k2,k3⟩:=hall d' (aSy _ hd');refine⟨D',rfl,k1,k2,?_⟩;rw[World.putObj_heap_other (fun e:D'=D=>(List.nodup_cons.1 hnd).1 (by subst e;exact hd'))];exact k3
  exact⟨by simp,.inl ⟨D,_,rfl,run_takeDeferred h3,aBI ds _ (hr.turn t hd) (hg.turn hr.heap.sl t) h⟩⟩
def Ev (R:Bool) (P:Program) (c:Code) (s:St) (Q:Ex->St->Prop):Prop:=
 ∀(ro:pZ),ro.isSome=R->
 ∀(A:Nat->Nat->Prop) (L:List qJ) (g0:Gh) (w0:q9) (g:Gh) (a:Act) (w:q9) (B:Nat),B<=w0.heap.size->uK B g w s a->tE A L g0 w0 g w s.H->s.np=L.length->c.wpIn (F9 ro) 0 P (aBC B A L g0 w0 Q) a w
variable {R:Bool}
theorem aBJ {P:Program}{T:sS}{Γ:tC}(hT:xA P T) (hΓ:DW P Γ) (hm:P.follows .mixedOrders=true) {c:Code}{s:St}{Q:Ex->St->Prop}(h:wD T Γ c s Q):Ev R P c s Q:=
 fun ro hro A L g0 w0 g a w B hB hr hg hn=>GT hT hΓ hm c s Q g a w h hr hg hn
structure rI (P:Program) (T:sS) (Γ:tC):Prop where
 T:xA P T
 Γ:DW P Γ
 m:P.follows .mixedOrders=true
@[go_sem] def skS (l:q8) (Γ:tC) (f:Nat):Option rK:=if zY f l=true then some ⟨[],fun _ _=>none,[],[],none⟩ else Γ f
theorem VS {P:Program}{T:sS}{Γ:tC}{l:q8}(h:rI P T Γ) (hl:(l.all fun k=>decide (1000000000<=k))=true):rI P T (skS l Γ):=
 ⟨h.T,fun f s hlt hs=>by
  unfold skS at hs;split at hs
  .rename_i hm;have:=aSZ (aTd.1 hl f (GN.1 hm));omega
  exact h.Γ f s hlt hs,h.m⟩
theorem aKq {P:Program}{c:Code}{s:St}{Q Q':Ex->St->Prop}(h:Ev R P c s Q') (hq: ∀e s,Q' e s->Q e s):Ev R P c s Q:=by
 intro ro hro A L g0 w0 g a w B hB hr hg hn;refine aT6 (h ro hro A L g0 w0 g a w B hB hr hg hn) fun x a' w' hp=>?_;obtain⟨e,g',s',h1,h2,h3,h4,h5⟩:=hp;exact⟨e,g',s',h1,hq e s' h2,h3,h4,h5⟩
section
variable {P:Program}{s:St}{Q:Ex->St->Prop}
theorem rD (h:Q .normal s):Ev R P .skip s Q:=fun _ _ _ _ _ _ g _ _ _ _ hr hg hn=>wpIn_skip ⟨.normal,g,s,rfl,h,hr,hg,hn⟩
theorem v8 {id:Nat}(h:Q (.exit id) s):Ev R P (.exit id) s Q:=fun _ _ _ _ _ _ g _ _ _ _ hr hg hn=>wpIn_exit ⟨.exit id,g,s,rfl,h,hr,hg,hn⟩
theorem qV (h:Q .ret s):Ev R P .ret s Q:=fun _ _ _ _ _ _ g _ _ _ _ hr hg hn=>wpIn_ret ⟨.ret,g,s,rfl,h,hr,hg,hn⟩
theorem qZ {x y:Code}(h:Ev R P x s (Q3 (fun s'=>Ev R P y s' Q) Q)):Ev R P (.seq x y) s Q:=by
 intro ro hro A L g0 w0 g a w B hB hr hg hn;refine wpIn_seq (aT6 (h ro hro A L g0 w0 g a w B hB hr hg hn) fun e a' w' hp=>?_);obtain⟨e',g',s',h1,h2,h3,h4,h5⟩:=hp;cases e<;>simp only[FA,aSm] at h1
 case normal=>subst h1;exact h2 ro hro A L g0 w0 g' a' w' B hB h3 h4 h5
 case exit id=>subst h1;exact⟨.exit id,g',s',rfl,h2,h3,h4,h5⟩
 case ret=>subst h1;exact⟨.ret,g',s',rfl,h2,h3,h4,h5⟩
 all_goals cases h1
theorem aKr {c:Operand}{x y:Code}{b:Bool}{k:pZ}(h:tQ s.env c=(.val .bool b,k)) (ht:b=true->Ev R P x s Q) (hf:b=false->Ev R P y s Q):Ev R P (.cond c x y) s Q:=by
 intro ro hro A L g0 w0 g a w B hB hr hg hn;have hc:=A5 hr.env c;rw[h] at hc;exact wpIn_cond_split (vF hc.1) (fun e=>ht e ro hro A L g0 w0 g a w B hB hr hg hn) (fun e=>hf e ro hro A L g0 w0 g a w B hB hr hg hn)
theorem aKs {c:Operand}{x y:Code}{p q:Prop}{k:pZ}(h:tQ s.env c=(.flag p q,k)) (ht:p->Ev R P x s Q) (hf:q->Ev R P y s Q):Ev R P (.cond c x y) s Q:=by
 intro ro hro A L g0 w0 g a w B hB hr hg hn;have hc:=A5 hr.env c;rw[h] at hc;obtain⟨b,hb,hp,hq⟩:=hc.1;exact wpIn_cond_split hb (fun e=>ht (hp e) ro hro A L g0 w0 g a w B hB hr hg hn) (fun e=>hf (hq e) ro hro A L g0 w0 g a w B hB hr hg hn)
theorem sJ {id:Nat}{c:Code}(h:Ev R P c s (KU id Q)):Ev R P (.block id c) s Q:=by
 intro ro hro A L g0 w0 g a w B hB hr hg hn;refine wpIn_block (aT6 (h ro hro A L g0 w0 g a w B hB hr hg hn) fun e a' w' hp=>?_);obtain⟨e',g',s',h1,h2,h3,h4,h5⟩:=hp;cases e<;>simp only[FA,aSm] at h1
 case normal=>subst h1;exact⟨.normal,g',s',rfl,h2,h3,h4,h5⟩
 case exit j=>
  subst h1;simp only[KU] at h2;simp only[Exit.inBlock];split
  .rename_i hj;rw[aSn hj] at h2;exact⟨.normal,g',s',rfl,h2,h3,h4,h5⟩
  rename_i hj;rw[aSo hj] at h2;exact⟨.exit j,g',s',rfl,h2,h3,h4,h5⟩
 case ret=>subst h1;exact⟨.ret,g',s',rfl,h2,h3,h4,h5⟩
 all_goals cases h1
end
@[go_sem] def a1y (k:Nat) (t:Ty) (l:List t.den):qM->qM
 |(.own j m,x)=>if j=k then(.val (.list t) l,some k) else(.own j m,x)
 |s=>s
@[go_sem] def QR (k:Nat) (t:Ty) (l:List t.den):List (Nat×qM)->List (Nat×qM)
 |[]=>[]
 |(i,s)::r=>(i,a1y k t l s)::QR k t l r
@[go_sem] def aBL (k n:Nat):qM->Prop
 |(.own j m,_)=>j=k->m=n
 |_=>True
@[go_sem] def a1z (k n:Nat):List (Nat×qM)->Prop
 |[]=>True
 |(_,s)::r=>aBL k n s/\a1z k n r
theorem aBM {k:Nat}{t:Ty}{l:List t.den}: ∀{env:List (Nat×qM)}{i:Nat},lk (QR k t l env) i=a1y k t l (lk env i)
 |[],i=>rfl
 |(j,s)::r,i=>by
  simp only[QR,lk];split
  .rfl
  exact aBM
theorem aBN {k n:Nat}: ∀{env:List (Nat×qM)}{i:Nat},a1z k n env->aBL k n (lk env i)
 |[],i,_=>trivial
 |(j,s)::r,i,⟨h1,h2⟩=>by
  simp only[lk];split
  .exact h1
  exact aBN h2
theorem aKt {P:Program}{c:Code}{s:St}{Q:Ex->St->Prop}(k:Nat) {e:TypeId}{t:Ty}{l:List t.den}{n:Nat}(hk:qO s.H k=some (.row e t l n)) (hok:a1z k n s.env)
  (h:Ev R P c ⟨QR k t l s.env,(k,.grow e t.cells (List.length l))::s.H,s.nb,s.N,s.np⟩ Q):Ev R P c s Q:=by
 intro ro hro A L g0 w0 g a w B hB hr hg hn;obtain⟨hl,v,xs,hv,hown,hF,hnone,hseal⟩:=hr.heap.blk k _ hk
 let g':Gh:={g with S:=fun b o=>g.S b o\/(v.ownBlock=some b/\o<n*t.cells)}
 have le:Le g w g' w:=⟨fun _ _ h=> .inl h,fun _ _ _=>rfl,fun _ _ h=>h,fun _ _ _ h=>h⟩;have hown2: ∀b,v.ownBlock=some b->∀o,s9 g k (.row e t l n) b o:=fun b hb o=>⟨v,hv,hb⟩;have hlist: ∀u,g.cur k n=some u->((u= .slice none 0 0/\n=0)\/∃b cap,u= .slice (some ⟨b,0,none⟩) n cap/\n<=cap)->tB g' w (.list t) l u:=by
  intro u hu hshape;rw[hv] at hu;obtain rfl:=aSr hu;rcases hshape with⟨rfl,h0⟩ |⟨b,cap,rfl,hcap⟩
  .have:l=[]:=aSS (by rw[hl,h0]);subst this;exact .inr ⟨rfl,none,0,rfl,aSJ _,.inl rfl⟩
  refine .inr ⟨rfl,some ⟨b,0,none⟩,cap,by rw[hl],by rw[hl];exact hcap,.inr ⟨b,0,rfl,IK (CH (fun _ _ h=>wE le h) hF) (fun j u hu=>?_) (fun j hj=>?_)⟩⟩
  .have:=hown.cells (g:=b) rfl j u hu;rwa [aTA] at this
  right;exact⟨rfl,by rw[hl] at hj;omega⟩
 have hget: ∀i b,qO ((k,qJ.grow e t.cells (List.length l))::s.H) i=some b->(i=k/\b= .grow e t.cells (List.length l))\/(i≠k/\qO s.H i=some b):=by
  intro i b hb;simp only[qO] at hb;split at hb
  .rename_i e1;exact .inl ⟨e1.symm,(aSr hb).symm⟩
  rename_i e1;exact .inr ⟨Ne.symm e1,hb⟩
 have howns: ∀i b bb o,qO ((k,qJ.grow e t.cells (List.length l))::s.H) i=some b->s9 g' i b bb o->∃b0,qO s.H i=some b0/\s9 g i b0 bb o:=by
  intro i b bb o hb ho;rcases hget i b hb with⟨rfl,rfl⟩ |⟨_,h1⟩
  .obtain⟨u,hu,hub⟩:=ho;have hu':g.cur i (List.length l)=some u:=hu;rw[hl] at hu';exact⟨_,hk,u,hu',hub⟩
  exact⟨b,h1,(x8 (g':=g') (g:=g) rfl rfl).1 ho⟩
 have hrel:uK B g' w ⟨QR k t l s.env,(k,.grow e t.cells (List.length l))::s.H,s.nb,s.N,s.np⟩ a:=by
  refine⟨fun i=>?_,⟨fun i b hb=>?_,fun i j bi bj b o hij h1 h2 o1 o2=>?_,fun b o hS=>?_,hr.heap.tab.1,fun i b bb oo hb ho=>by
   obtain⟨c1,k1,k2⟩:=howns i b bb oo hb ho;exact hr.heap.tab.2 i c1 bb oo k1 k2⟩,hr.size,hr.nb,hr.def_,hr.np⟩
  .rw[aBM];have h1:=hr.env i;have h2:=aBN (i:=i) hok;generalize lk s.env i=sl at h1 h2;obtain⟨d,x⟩:=sl;cases d with
   |own j m=>
    simp only[a1y];split
    .rename_i hj;subst hj;have hm:m=n:=h2 rfl;subst hm;refine⟨hlist _ h1.1.1 h1.1.2,?_⟩;show g'.cur j (List.length l)=_;rw[hl];exact h1.1.1
    .exact DA le h1
   |_=>exact DA le h1
  .rcases hget i b hb with⟨rfl,rfl⟩ |⟨hne,h1⟩
   .refine⟨v,xs,by rw[hl];exact hv,by rw[hl];exact hown,fun m hm=>hnone m (by rw[hl] at hm;exact hm),fun b hb o hS=>?_⟩;rw[hl];rcases hS with hS|hS
    .exact absurd hS (hseal b hb o)
    exact hS.2
   exact II (hr.heap.blk i b h1) le rfl rfl (fun _ _ _=>⟨rfl,rfl⟩) (fun _ _=>rfl) (fun bb o ho hS=>by
    rcases hS with hS|hS
    .exact hS
    exact absurd (hown2 bb hS.1 o) (fun h5=>hr.heap.dis i k b _ bb o hne h1 hk ho h5)) (fun _ _ _ _ h=>h)
  .obtain⟨c1,k1,k2⟩:=howns i bi b o h1 o1;obtain⟨c2,k3,k4⟩:=howns j bj b o h2 o2;exact hr.heap.dis i j c1 c2 b o hij k1 k3 k2 k4
  rcases hS with hS|hS
  .exact hr.heap.sl b o hS
  exact KX hown hS.1
 have hgood:tE A L g0 w0 g' w ((k,.grow e t.cells (List.length l))::s.H):=by
  refine⟨fun b o h0=>⟨.inl (hg.shut b o h0).1,(hg.shut b o h0).2⟩,⟨hg.fr.os,hg.fr.tape,hg.fr.output,hg.fr.size,hg.fr.blk,hg.fr.cell,fun b o hS=>?_,hg.fr.shape⟩,fun i b bb o hb ho=>?_,hg.J,hg.live,fun i u y us hi hb=>?_,hg.cur⟩
  .rcases hS with hS|hS
   .exact hg.fr.new b o hS
   exact .inr (hg.perm k _ b o hk (hown2 b hS.1 o))
  .obtain⟨c1,k1,k2⟩:=howns i b bb o hb ho;exact hg.perm i c1 bb o k1 k2
  rcases hget i _ hb with⟨_,h1⟩ |⟨_,h1⟩
  .cases h1
  exact hg.ty i u y us hi h1
 exact h ro hro A L g0 w0 g' a w B hB hrel hgood hn
def iter {σ ρ:Type}(f:σ->Option (σ⊕ρ)):Nat->σ->Option ρ
 |0,_=>none
 |n+1,x=>match f x with
  |none=>none
  |some (.inl y)=>iter f n y
  |some (.inr r)=>some r
theorem aBO {σ ρ:Type}{f:σ->Option (σ⊕ρ)}{r:ρ}: ∀{n:Nat}{x:σ},iter f n x=some r->iter f (n+1) x=some r
 |0,_,h=>by cases h
 |n+1,x,h=>by
  unfold iter at h|-;split
  .rename_i e;rw[e] at h;cases h
  .rename_i y e;rw[e] at h;exact aBO h
  rename_i r' e;rw[e] at h;exact h
theorem a1A {σ ρ:Type}{f:σ->Option (σ⊕ρ)}{r:ρ}{n:Nat}{x:σ}(h:iter f n x=some r): ∀m,iter f (n+m) x=some r
 |0=>h
 |m+1=>aBO (a1A h m)
theorem aBP {σ ρ:Type}{f:σ->Option (σ⊕ρ)}{r r':ρ}{n m:Nat}{x:σ}(h:iter f n x=some r) (h':iter f m x=some r'):r=r':=by
 have h1:=a1A h m;have h2:=a1A h' n;rw[Nat.add_comm] at h2;exact aSr (h1.symm.trans h2)
noncomputable def QS {σ ρ:Type}(f:σ->Option (σ⊕ρ)) (x:σ):Option ρ:=open Classical in if h: ∃n r,iter f n x=some r then some (Classical.choose (aT0 h)) else none
def aKu {ρ:Type}:Option ρ->Option ρ->Option ρ
 |some r,_=>some r
 |none,r=>r
noncomputable def sC {σ ρ:Type}(f:σ->Option (σ⊕ρ)) (x:σ):Option ρ:=aKu (iter f 2000 x) (QS f x)
theorem aKv {σ ρ:Type}{f:σ->Option (σ⊕ρ)}{x:σ}{r:ρ}{n:Nat}(h:iter f n x=some r):QS f x=some r:=by
 have hx: ∃n r,iter f n x=some r:=⟨n,r,h⟩;unfold QS;rw[aUm hx,aBP h (aT0 (aT0 hx))]
theorem a1B {σ ρ:Type}{f:σ->Option (σ⊕ρ)}{x:σ}{r:ρ}{n:Nat}(h:iter f n x=some r):sC f x=some r:=by
 unfold sC;cases hi:iter f 2000 x with
 |some r'=>rw[aBP h hi];rfl
 |none=>exact aKv h
theorem VT {σ ρ:Type}{f:σ->Option (σ⊕ρ)}{x:σ}{r:ρ}(h:sC f x=some r): ∃n,iter f n x=some r:=by
 unfold sC at h;cases hi:iter f 2000 x with
 |some r'=>
  rw[hi] at h;cases h;exact⟨_,hi⟩
 |none=>
  rw[hi] at h;have h:QS f x=some r:=h;unfold QS at h;split at h
  .rename_i hx;have:=aT0 (aT0 hx);rw[aSr h] at this;exact⟨_,this⟩
  cases h
attribute [irreducible] sC
theorem NP {σ ρ:Type}{f:σ->Option (σ⊕ρ)}{x y:σ}(h:f x=some (.inl y)):sC f x=sC f y:=by
 cases hy:sC f y with
 |some r=>
  obtain⟨n,hn⟩:=VT hy;exact a1B (n:=n+1) (by unfold iter;rw[h];exact hn)
 |none=>
  cases hx:sC f x with
  |none=>rfl
  |some r=>
   obtain⟨n,hn⟩:=VT hx;cases n with
   |zero=>cases hn
   |succ n=>
    unfold iter at hn;rw[h] at hn;rw[a1B hn] at hy;cases hy
theorem BV {σ ρ:Type}{f:σ->Option (σ⊕ρ)}{x:σ}{r:ρ}(h:f x=some (.inr r)):sC f x=some r:=a1B (n:=1) (by unfold iter;rw[h])
def Nxt {σ ρ:Type}(f:σ->Option (σ⊕ρ)) (y:ρ) (n:Nat):σ⊕ρ->Prop
 | .inl x=>iter f n x=some y
 | .inr r=>r=y
def qL {σ ρ:Type}(enc:σ->St) (f:σ->Option (σ⊕ρ)) (y:ρ) (n:Nat) (Q:Ex->St->Prop):Ex->St->Prop
 | .normal,s=> ∃(k:wC) (x:σ),s.keep k=enc x/\iter f n x=some y
 | .exit j,s=>Q (.exit j) s
 | .ret,s=>Q .ret s
theorem aKx {P:Program}{c:Code}{s:St}{Q:Ex->St->Prop}(I:Nat->St->Prop) (h0: ∃(k:wC) (n:Nat),I n (s.keep k))
  (h: ∀n s,I n s->Ev R P c s (fun e s'=>match e with| .normal=> ∃(k:wC) (m:Nat),m<n/\I m (s'.keep k) |e=>Q e s')):Ev R P (.loop c) s Q:=by
 intro ro hro A L g0 w0 g a w B hB hr hg hn;obtain⟨k,n0,h0⟩:=h0;obtain⟨g1,k1,k2,k3,_⟩:=IQ hr hg hn k
 let R:Act->q9->Nat->Prop:=fun a w n=> ∃g s,I n s/\uK B g w s a/\tE A L g0 w0 g w s.H/\s.np=L.length
 refine wpIn_loop (fun a w=> ∃n,R a w n) (fun a w=>QP (R a w)) ⟨_,g1,s.keep k,h0,k1,k2,k3⟩ (fun a w hI=>?_);obtain⟨⟨g2,s2,i1,i3,i4,i5⟩,_⟩:=VO hI;refine aT6 (h _ s2 i1 ro hro A L g0 w0 g2 a w B hB i3 i4 i5) fun e a' w' hp=>?_;obtain⟨e',g',s',h1,h2,h3,h4,h5⟩:=hp;cases e<;>simp only[FA,aSm] at h1
 case normal=>
  subst h1;obtain⟨k',m,j1,j2⟩:=h2;obtain⟨g3,l1,l2,l3,_⟩:=IQ h3 h4 h5 k';have hR:R a' w' m:=⟨g3,s'.keep k',j2,l1,l2,l3⟩;exact⟨⟨_,hR⟩,Nat.lt_of_le_of_lt ((VO ⟨_,hR⟩).2 _ hR) j1⟩
 case exit id=>subst h1;exact⟨.exit id,g',s',rfl,h2,h3,h4,h5⟩
 case ret=>subst h1;exact⟨.ret,g',s',rfl,h2,h3,h4,h5⟩
 all_goals cases h1
theorem vP {P:Program}{c:Code}{s:St}{Q:Ex->St->Prop}{σ ρ:Type}{f:σ->Option (σ⊕ρ)}{x0:σ}{y:ρ}(hy:sC f x0=some y) (enc:σ->St) (k:wC) (h0:s.keep k=enc x0)
  (round: ∀x w n,f x=some w->Nxt f y n w->Ev R P c (enc x) (qL enc f y n Q)):Ev R P (.loop c) s Q:=by
 obtain⟨n,hn⟩:=VT hy;refine aKx (fun n s=> ∃x,s=enc x/\iter f n x=some y) ⟨k,n,x0,h0,hn⟩ fun n s ⟨x,e,hx⟩=>?_;subst e;cases n with
 |zero=>cases hx
 |succ n=>
  unfold iter at hx;refine aKq (Q':=qL enc f y n Q) ?_ (fun e s' hq=>?_)
  .split at hx
   .cases hx
   .rename_i x' e;exact round x _ n e hx
   rename_i r e;exact round x _ n e (aSr hx)
  cases e with
  |normal=>obtain⟨k,x',h1,h2⟩:=hq;exact⟨k,n,pQ,x',h1,h2⟩
  |exit j=>exact hq
  |ret=>exact hq
def qX (j:Nat) (X:St->Prop) (Q:Ex->St->Prop):Ex->St->Prop
 | .normal,s=>Q .normal s
 | .exit i,s=>if i=j then∃k:wC,X (s.keep k) else Q (.exit i) s
 | .ret,s=>Q .ret s
theorem w4 {P:Program}{c:Code}{s:St}{Q:Ex->St->Prop}(j:Nat) (X:St->Prop) (h:Ev R P c s (qX j X Q)) (J: ∀s',X s'->Q (.exit j) s'):Ev R P c s Q:=by
 intro ro hro A L g0 w0 g a w B hB hr hg hn;refine aT6 (h ro hro A L g0 w0 g a w B hB hr hg hn) fun x a' w' hp=>?_;obtain⟨e,g',s',h1,h2,h3,h4,h5⟩:=hp;cases e with
 |normal=>exact⟨.normal,g',s',h1,h2,h3,h4,h5⟩
 |ret=>exact⟨.ret,g',s',h1,h2,h3,h4,h5⟩
 |exit i=>
  have h2:(if i=j then∃k:wC,X (s'.keep k) else Q (.exit i) s'):=h2;by_cases hij:i=j
  .rw[aSn hij] at h2;obtain⟨k,hk⟩:=h2;obtain⟨g1,k1,k2,k3,_⟩:=IQ h3 h4 h5 k;exact⟨.exit i,g1,s'.keep k,h1,by rw[hij];exact J _ hk,k1,k2,k3⟩
  rw[aSo hij] at h2;exact⟨.exit i,g',s',h1,h2,h3,h4,h5⟩
section
variable {Q:Ex->St->Prop}{s:St}{j i:Nat}{X:St->Prop}{σ ρ:Type}{enc:σ->St}{f:σ->Option (σ⊕ρ)}{y:ρ}{n:Nat}
theorem yQ (h:Q .ret s):qX j X Q .ret s:=h
theorem w5 (h: ∃k:wC,X (s.keep k)):qX j X Q (.exit j) s:=by show (if j=j then _ else _);rw[aSn rfl];exact h
theorem tP (h: ∃(k:wC) (x:σ),s.keep k=enc x/\iter f n x=some y):qL enc f y n Q .normal s:=h
theorem vA (h:Q (.exit j) s):qL enc f y n Q (.exit j) s:=h
theorem xE (h:Q .ret s):qL enc f y n Q .ret s:=h
end
def qN (X:St->Prop) (Q:Ex->St->Prop):Ex->St->Prop
 | .normal,s=> ∃k:wC,X (s.keep k)
 | .exit j,s=>Q (.exit j) s
 | .ret,s=>Q .ret s
theorem CJ {P:Program}{c:Code}{s:St}{Q:Ex->St->Prop}(X:St->Prop) (h:Ev R P c s (qN X Q)) (J: ∀s',X s'->Q .normal s'):Ev R P c s Q:=by
 intro ro hro A L g0 w0 g a w B hB hr hg hn;refine aT6 (h ro hro A L g0 w0 g a w B hB hr hg hn) fun x a' w' hp=>?_;obtain⟨e,g',s',h1,h2,h3,h4,h5⟩:=hp;cases e with
 |exit j=>exact⟨.exit j,g',s',h1,h2,h3,h4,h5⟩
 |ret=>exact⟨.ret,g',s',h1,h2,h3,h4,h5⟩
 |normal=>
  obtain⟨k,hk⟩:=h2;obtain⟨g1,k1,k2,k3,_⟩:=IQ h3 h4 h5 k;exact⟨.normal,g1,s'.keep k,h1,J _ hk,k1,k2,k3⟩
section
variable {Q:Ex->St->Prop}{s:St}{j:Nat}{X:St->Prop}
theorem vI (h: ∃k:wC,X (s.keep k)):qN X Q .normal s:=h
theorem aBQ (h:Q .ret s):qN X Q .ret s:=h
end
def val {ρ:Type}[Inhabited ρ] (x:Option ρ):ρ:=x.getD default
theorem sG {ρ:Type}[Inhabited ρ] {x:Option ρ}{y:ρ}(h:x=some y):val x=y:=by rw[h];rfl
theorem rS {ρ:Type}{x:Option ρ}{y:ρ}(h:x=some y):x.isSome=true:=by rw[h];rfl
theorem qR {ρ:Type}{c:Prop}[Decidable c] {x:Option ρ}{r:ρ}(h:(if c then x else none)=some r):c/\x=some r:=by
 by_cases hc:c
 .rw[aSn hc] at h;exact⟨hc,h⟩
 rw[aSo hc] at h;cases h
theorem pL{ρ:Type}{c e:Prop}[Decidable c][Decidable e]{x:Option ρ}{r:ρ}(h:(if c then if e then x else none else none)=some r):c/\e/\x=some r:=have k:=qR h;⟨k.1,qR k.2⟩
theorem rC {σ ρ:Type}{x:Option σ}{k:σ->Option ρ}{r:ρ}(h:x.bind k=some r): ∃y,x=some y/\k y=some r:=by
 cases x with
 |none=>cases h
 |some y=>exact⟨y,rfl,h⟩
theorem aKy {ρ:Type}{b:Bool}{x y:ρ}{r:ρ}(h:(if b=true then x else y)=r) (hb:b=true):x=r:=by rw[aSn hb] at h;exact h
theorem aKz {ρ:Type}{b:Bool}{x y:ρ}{r:ρ}(h:(if b=true then x else y)=r) (hb:b=false):y=r:=by rw[hb,aSo pR] at h;exact h
def uS {σ ρ:Type}(x:Option (σ⊕ρ)) (k:σ->Option ρ):Option ρ:=x.bind fun y=>match y with
 | .inl v=>k v
 | .inr r=>some r
theorem yR {σ ρ:Type}{x:Option (σ⊕ρ)}{k:σ->Option ρ}{r:ρ}(h:uS x k=some r): ∃y,x=some y/\(match y with| .inl v=>k v| .inr r=>some r)=some r:=rC h
def uA {σ ρ:Type}(x:Option σ) (k:σ->Option ρ):Option ρ:=x.bind k
def AT {σ ρ:Type}(x:σ) (k:σ->ρ):ρ:=k x
theorem a1C {σ ρ:Type}{x:σ}{k:σ->ρ}{r:ρ}(h:AT x k=r):k x=r:=h
theorem QT {σ ρ:Type}{x:σ}{k:σ->ρ}{r:ρ}(h:AT x k=r): ∃y,x=y/\k y=r:=⟨x,rfl,h⟩
theorem tA {x:Bool}(h:x=true):(x==true)=true:=by rw[h];rfl
theorem IR {G x:Bool}(hG:G=true) (h:x=true):(G&&(x==true))=true:=by rw[hG,h];rfl
theorem IS {G x:Bool}(hG:G=true) (h:x=false):(G&&(x==false))=true:=by rw[hG,h];rfl
theorem tG {x:Bool}(h:x=false):(x==false)=true:=by rw[h];rfl
section
variable {P:Program}{T:sS}{Γ:tC}(E:rI P T Γ) {s:St}{Q:Ex->St->Prop}
include E
theorem aBR {id:Nat}{ops:Array Oper}{a:vV}(h:uJ T Γ ops.toList ops.toList (some ⟨s,[],[]⟩)=some a) (hp:rN a.side) (hq:Q .normal a.s):Ev R P (.region id ops false) s Q:=
 aBJ E.T E.Γ E.m (aH5 h hp hq)
theorem aBS {id:Nat}{ops:Array Oper}{a:vV}(h:uJ T Γ ops.toList ops.toList (some ⟨s,[],[]⟩)=some a) (hf:KS ops s.nb a.es.reverse=true) (hp:rN a.side) (hq:Q .normal a.s):Ev R P (.region id ops true) s Q:=
 aBJ E.T E.Γ E.m (aH6 h hf hp hq)
end
end Go.Proofs.YtcpbaddnmpeipaaGreatDoor.Vc
namespace Go.Proofs.YtcpbaddnmpeipaaGreatDoor.Vc
open Go.RowKit
variable {R:Bool}
attribute [go_sem] Option.map_some Option.map_none
@[go_sem] theorem aQK {H:List (Nat×qJ)}{ps:List PK}{b:List qM}{a:Option t6}:xP H ps ([]++b) a=xP H ps b a:=rfl
@[go_sem] theorem aQL {H:List (Nat×qJ)}{ps:List PK}{x:qM}{l b:List qM}{a:Option t6}:xP H ps ((x::l)++b) a=xP H ps (x::(l++b)) a:=rfl
@[go_sem] def aBT:Option qM->Option (List qM)->Option (List qM)
 |some s,some l=>some (s::l)
 |_,_=>none
@[go_sem] def aBU:Option qS->Option qM
 |some e=>some e.slot
 |none=>none
@[go_sem] def VU (H:List (Nat×qJ)):Option TI->qM->Option qS
 |some ti,(.val .ref (some (i,off)),_)=>PR ti.ty i off (qO H i)
 |_,_=>none
@[go_sem] def QU (T:sS) (s:St) (m:pV):Nat×Option TypeId->Option qM
 |(t,none)=>some (A0 m (lk s.env t))
 |(t,some ty)=>(aBU (VU s.H (rR T ty) (lk s.env t))).map (A0 m)
@[go_sem] def IT (T:sS) (s:St) (m:pV):List (Nat×Option TypeId)->Option (List qM)
 |[]=>some []
 |q::r=>aBT (QU T s m q) (IT T s m r)
def DD:Nat×Option TypeId->ResultVar
 |(t,none)=> .tmp t
 |(t,some ty)=> .cell t ty
@[go_sem] def DZ:Nat->Nat->List (Nat×qJ)->List (Nat×qJ)
 |0,_,H=>H
 |n+1,i,[]=>(i,.dead)::DZ n (i+1) []
 |n+1,i,(j,b)::H=>if j=i then(j,b)::DZ n (i+1) H else(i,.dead)::DZ n (i+1) ((j,b)::H)
theorem LD: ∀{n i:Nat}{H:List (Nat×qJ)}{k:Nat}{b:qJ},qO (DZ n i H) k=some b->qO H k=some b\/b= .dead
 |0,_,_,_,_,h=> .inl h
 |n+1,i,[],k,b,h=>by
  simp only[DZ,qO] at h;split at h
  .exact .inr (aSr h).symm
  .exact LD h
 |n+1,i,(j,c)::H,k,b,h=>by
  unfold DZ at h;split at h
  .simp only[qO] at h|-;split at h
   .rename_i e;rw[aSn e];exact .inl h
   rename_i e;rw[aSo e];exact LD h
  simp only[qO] at h;split at h
  .exact .inr (aSr h).symm
  exact LD h
theorem sE.pad {g:Gh}{w:q9}{H:s7}(h:sE g w H) (n i:Nat):sE g w (DZ n i H):=by
 have own: ∀{k blk b o},qO (DZ n i H) k=some blk->s9 g k blk b o->qO H k=some blk:=fun hg ho=>by
  rcases LD hg with h1|h1
  .exact h1
  subst h1;exact ho.elim
 refine⟨fun k b hb=>?_,fun i j bi bj b o hij h1 h2 o1 o2=>h.dis i j bi bj b o hij (own h1 o1) (own h2 o2) o1 o2,h.sl,h.tab.1,fun k blk b o h1 h2=>h.tab.2 k blk b o (own h1 h2) h2⟩;rcases LD hb with h1|h1
 .exact h.blk k b h1
 subst h1;trivial
theorem tE.pad {A:Nat->Nat->Prop}{L:List qJ}{g0 g:Gh}{w0 w:q9}{H:s7}(h:tE A L g0 w0 g w H) (n i:Nat):tE A L g0 w0 g w (DZ n i H):=by
 refine⟨h.shut,h.fr,fun k blk b o hg ho=>?_,h.J,h.live,fun k u y us hk hg=>?_,h.cur⟩
 .rcases LD hg with h1|h1
  .exact h.perm k blk b o h1 ho
  subst h1;exact ho.elim
 rcases LD hg with h1|h1
 .exact h.ty k u y us hk h1
 cases h1
def aBV (T:sS) (ts:List (Nat×Option TypeId)) (r:qY):Ex->St->Prop
 | .exit _,_=>False
 |_,s=> ∃m:pV,x7 s.np m=true/\DZ (rG r.H) 0 (s.keep ⟨[],m⟩).H=r8 0 r.H/\IT T s m ts=some r.ret
section
variable {P:Program}{o:Oper}{a:Act}{g:Gh}{w:q9}{H:s7}{T:sS}(hT:xA P T) (hH:sE g w H)
include hT hH
theorem aKA {t:TypeId}{vx:qB}{sx:qM}(hx:rO g w sx vx) {e:qS}(hr:VU H (rR T t) sx=some e): ∃ad v,vx= .pointer (some ad)/\(loadVar t ad).run P w= .ok v w/\rO g w e.slot v:=by
 generalize hs:rR T t=ot at hr;replace hx:=hx.1;unfold VU at hr;split at hr
 .rename_i ti i off k;have hty:=sZ hT hs;generalize hb:qO H i=ob at hr;unfold PR at hr;split at hr
  .rename_i u z toks;generalize hga:r9 ti.ty u z off=oy at hr;cases oy with
   |none=>cases hr
   |some y=>
    cases hr;obtain⟨p,hp,hv⟩:=xC hx;obtain⟨p',cs,hp',hR,hra,_,_,htk⟩:=hH.blk i _ hb;rw[hp] at hp';obtain rfl:=aSr hp';obtain⟨c1,c2,c3,rfl,rfl,hR2⟩:=BR hR hga;obtain⟨v,h1,h2,h3⟩:=NF hT hH hty (L3 hT hH hra) hR2;refine⟨_,v,hv,by simpa[Instr.loadAt,Instr.sureAddr] using h1,h2,?_⟩;obtain⟨ty,el,by',ar,ls⟩:=ti;cases ty with
    |list u'=>
     simp only[EW];generalize htt:wZ toks c1.length=ok;cases ok with
     |none=>trivial
     |some k=>
      obtain⟨u2,l,v',g1,g2,g3⟩:=htk _ _ (a0E hT hH htt);obtain⟨heq,hl⟩:=a9V hT hH g1 hga rfl;injection heq with heq'
      subst heq';have hlen:=sV hR2;obtain⟨v2,rfl⟩:=aTF.1 hlen;have e2:v'=v2:=by
       have e:(c1++[v2]++c3)[c1.length]? =some v2:=by simp
       rw[e] at g2;exact(aSr g2).symm
      have e3:v=v2:=by
       have h4:=xB rfl h2;have hone:=A1 h4 v pS;have:v.cells= #[v]:=by cases v<;>first|rfl|(simp [Value.oneCell'] at hone)
       rw[this] at h3;simpa using h3
      subst e2;subst e3;have e4:(y:List u'.den)=l:=hl;subst e4;exact g3
    |_=>trivial
  cases hr
 cases hr
end
def LE (tmps:Array qB) (q:Nat×Option TypeId):Sem qB:=match DD q with
 | .tmp t=>pure (tmps.getD t undef)
 | .cell a t=>do loadVar t (<-asAddr (tmps.getD a undef))
theorem aBW {P:Program}{T:sS}(hT:xA P T) {B:Nat}{g:Gh}{w:q9}{s:St}{a:Act}{m:pV}(hk:x7 s.np m=true) (hr:uK B g w s a): ∀{ts:List (Nat×Option TypeId)}{l:List qM},IT T s m ts=some l->
  ∃vs:pX,(ts.mapM (LE a.tmps)).run P w= .ok vs w/\vH (tY g s.np m) w l vs
 |[],l,h=>by
  simp only[IT,aSm] at h;subst h;exact⟨[],by simp,rfl⟩
 |q::ts,l,h=>by
  simp only[IT] at h;obtain⟨s1,l1,e1,e2,rfl⟩: ∃s1 l1,QU T s m q=some s1/\IT T s m ts=some l1/\l=s1::l1:=by
   cases h1:QU T s m q<;>cases h2:IT T s m ts<;>rw[h1,h2] at h<;>simp [aBT] at h
   exact⟨_,_,rfl,rfl,h.symm⟩
  obtain⟨vs,v1,v2⟩:=aBW hT hk hr e2;obtain⟨v,w1,w2⟩: ∃v,(LE a.tmps q).run P w= .ok v w/\rO (tY g s.np m) w s1 v:=by
   obtain⟨t,oty⟩:=q;cases oty with
   |none=>
    simp only[QU,aSm] at e1;subst e1;exact⟨_,by simp [LE,DD],VJ hk (hr.env t)⟩
   |some ty=>
    simp only[QU] at e1;cases he:VU s.H (rR T ty) (lk s.env t) with
    |none=>rw[he] at e1;cases e1
    |some e=>
     rw[he] at e1;simp only[aBU,Option.map_some,aSm] at e1;subst e1;obtain⟨ad,v,hv,hl,hs⟩:=aKA hT hr.heap (hr.env t) he;exact⟨v,by simp only[LE,DD,hv,asAddr,aSz,aSN,aSu,hl],VJ hk hs⟩
  exact⟨v::vs,by simp only[List.mapM_cons,aSz,w1,aSu,v1,aSN],v,vs,rfl,w2,v2⟩
def NQ (tmps:Array qB):ResultVar->Sem qB
 | .tmp t=>pure (tmps.getD t undef)
 | .cell a t=>do loadVar t (<-asAddr (tmps.getD a undef))
theorem aKB {P:Program}{fn:Func}{w:q9}{tmps:Array qB}{ts:List (Nat×Option TypeId)}(h:fn.results.toList=ts.map DD) {vs:pX}(hv:(ts.mapM (LE tmps)).run P w= .ok vs w):(results fn tmps).run P w= .ok (a1x vs) w:=by
 obtain⟨rs,hrs⟩: ∃rs,fn.results=⟨rs⟩:=⟨fn.results.toList,rfl⟩;have hm:rs=ts.map DD:=by rw[hrs] at h;exact h
 have key:Sem.run P (((ts.map DD).toArray).mapM (NQ tmps)) w=Result.ok vs.toArray w:=by
  rw[List.mapM_toArray,List.mapM_map];have e:NQ tmps∘DD=LE tmps:=by
   funext q;obtain⟨t,o⟩:=q;cases o<;>rfl
  have e2:(fun q=>NQ tmps (DD q))=LE tmps:=e;show Sem.run P (List.mapM (fun q=>NQ tmps (DD q)) ts>>=fun l=>pure l.toArray) w=_;rw[e2,aSz,hv];rfl
 have hu:results fn tmps=(fn.results.mapM (NQ tmps) >>=fun vs=>pure (if h:vs.size=1 then vs[0] else .tuple vs)):=by
  unfold results;congr 2
 rw[hu,hrs,hm,aSz];have key2:Sem.run P (Array.mapM (NQ tmps) (⟨ts.map DD⟩:Array ResultVar)) w=Result.ok vs.toArray w:=key;rw[key2];simp only[aSu,aSN]
 match vs with
 |[]=>rfl
 |[v]=>rfl
 |v::u::l=>simp [a1x]
theorem aKC {P:Program}{T:sS}(hT:xA P T) {f:FuncId}{fn:Func}{c:Code}{C:List qM->List qJ->Option qY}{ts:List (Nat×Option TypeId)}(hf:P.funcs[f]? =some fn) (hb:fn.body=some c) {N:Nat}(hN:fn.ntmps=N)
  (hcall: ∀args w,(callFunc f args).run P w= .ok (.enter f args) w) (hres:fn.results.toList=ts.map DD)
  (h: ∀args L r,C args L=some r->(∀p∈r.side,p)->rZ L->args.length<=N/\QQ (vO 0 L) args/\LB (vO 0 L) L/\Ev false P c ⟨rY 0 args,r8 0 L,rG L,N,rG L⟩ (aBV T ts r)):wP P f C:=by
 subst hN;refine⟨hcall,fun g w args vals L r hH ha hC hs=>?_⟩;obtain⟨h1,h2,h3,h4⟩:=h args L r hC hs (aBD fun i b hb=>⟨i,hH.blk i b (by rw[xD];exact hb)⟩);obtain⟨hr,hent⟩:=aKo hH ha h2 h3 h1;have hsub: ∀b o,yE (tY g 0 (vO 0 L)) (r8 0 L) b o->yE g (r8 0 L) b o:=fun b o ⟨i,blk,hg,ho⟩=>⟨i,blk,hg,(hent i blk (by rw[<-xD];exact hg)).2.2 b o ho⟩;have hgood:tE (yE (tY g 0 (vO 0 L)) (r8 0 L)) L (tY g 0 (vO 0 L)) w (tY g 0 (vO 0 L)) w (r8 0 L):=by
  refine⟨fun b o h=>⟨h,rfl⟩,Fr.refl _ _ _,fun i blk b o hg ho=> .inr ⟨i,blk,hg,ho⟩,fun _ _ _ h=>h,fun i hi=>?_,fun i u y us _ hg=>⟨y,us,by rw[<-xD];exact hg⟩,fun _ _ _ _ h=>h⟩;have hL:L[i]? =some L[i]:=by simp
  obtain⟨_,hbk,_⟩:=hent i L[i] hL;have hnd:=(LC h3 L[i] (aTB hi)).2;generalize L[i]=blk at hbk hnd;cases blk with
  |cells t x ts=>obtain⟨p,cs,hp,_⟩:=hbk;exact .inl ⟨p,hp⟩
  |grow e c n=>obtain⟨v,xs,hv,_⟩:=hbk;exact .inr ⟨n,v,hv⟩
  |row e t l n=>obtain⟨_,v,xs,hv,_⟩:=hbk;exact .inr ⟨n,v,hv⟩
  |map k v l=>obtain⟨p,es,cl,hp,_⟩:=hbk;exact .inl ⟨p,hp⟩
  |iter s n=>obtain⟨p,hp,_⟩:=hbk;exact .inl ⟨p,hp⟩
  |dead=>exact absurd rfl hnd
 refine callsIn_wide.1 (callsIn_of_wp_marks (F:=Fence.wide) (n:=0) hf hb trivial (aT6 (h4 none rfl _ _ _ _ _ _ _ _ (aSJ _) hr hgood (VR L)) fun x a' w' hp=>?_) rfl);obtain⟨e,g',s',e1,e2,e3,e4,e5⟩:=hp;have fin: ∀m:pV,x7 s'.np m=true->DZ (rG r.H) 0 (s'.keep ⟨[],m⟩).H=r8 0 r.H->IT T s' m ts=some r.ret->LeavesInM Fence.wide 0 P fn a'.tmps (fun e w'=> ∃v' g',e= .returned v'/\F8 g w L r g' w' v') a'.defers .returning w':=by
  intro m hk k1 k2;refine aBI a'.defers w' e3 e4 (fun w1 e3 e4=>?_);obtain⟨l1,l2,l3,_⟩:=a1g e3 e4 e5 ⟨[],m⟩ hk;replace l2:=l2.pad (rG r.H) 0;rw[k1] at l2;obtain⟨vs,q1,q2⟩:=aBW hT hk e3 k2;have q3:=aKB (P:=P) (w:=w1) (tmps:=a'.tmps) hres q1;refine⟨_,q3,_,_,rfl,⟨fun b o hb=>l2.shut b o hb,by rw[<-k1];exact l1.heap.pad _ _,?_,?_,fun i blk b o hi ho=>?_,fun i t x us hi=>?_,fun i t x us u y vs hi hr=>?_,fun i p hi hp=>l2.J i p hi ((z8 VP (NO.2 ⟨rfl,aTo _,pQ⟩)).1.trans hp),fun i n u hi hu=>l2.cur i n u hi ((congrFun (z8 VP (NO.2 ⟨rfl,aTo _,pQ⟩)).2 n).trans hu)⟩⟩
  .unfold QG;split
   .rename_i s hs;rw[hs] at q2;obtain⟨v,vs',hv,h5,h6⟩:=q2;rw[hv,show vs'=[] from h6];exact h5
   rename_i hne;refine⟨_,?_,q2⟩;unfold a1x;split
   .rename_i v hv;exfalso;have:=(VQ q2).1;cases hq:r.ret with
    |nil=>rw[hq] at this;simp at this
    |cons s l=>cases l with
     |nil=>exact hne s hq
     |cons _ _=>rw[hq] at this;simp at this
   rfl
  .exact⟨l2.fr.os,l2.fr.tape,l2.fr.output,l2.fr.size,fun b hb hA=>l2.fr.blk b hb (fun o ho=>hA o (hsub b o ho)),fun b o hb hA=>l2.fr.cell b o hb (fun ho=>hA (hsub b o ho)),fun b o hS=>(l2.fr.new b o hS).imp id (Or.imp id (hsub b o)),fun b s hs=>(l2.fr.shape b s hs).imp id fun h o=>hsub b o (h o)⟩
  .exact(l2.perm i blk b o (by rw[xD];exact hi) ho).imp id (hsub b o)
  .obtain⟨j1,⟨p,cs,j2,_⟩,_⟩:=hent i _ hi;have hil:i<L.length:=(aSD.1 hi).1;rw[l2.J i p hil j2,<-j1,j2]
  have hil:i<L.length:=(aSD.1 hi).1;obtain⟨x',ts',h5⟩:=l2.ty i u y vs hil (by rw[xD];exact hr);rw[hi] at h5;simp only[aSm,qJ.cells.injEq] at h5;exact h5.1.symm
 cases x<;>simp only[FA,aSm] at e1
 case normal=>subst e1;obtain⟨k,k0,k1,k2⟩:=e2;exact fin k k0 k1 k2
 case ret=>subst e1;obtain⟨k,k0,k1,k2⟩:=e2;exact fin k k0 k1 k2
 case exit id=>subst e1;exact e2.elim
 all_goals cases e1
open Classical in
noncomputable def s5 {V:Type}(p:V->List qM) (q:V->List qJ) (R:V->qY) (a:List qM) (L:List qJ):Option qY:=
 if h: ∃v,p v=a/\q v=L then some (R h.choose) else none
theorem aKD {V:Type}{p:V->List qM}{q:V->List qJ}{R:V->qY}{a:List qM}{L:List qJ}{r:qY}(h:s5 p q R a L=some r): ∃v,p v=a/\q v=L/\R v=r:=by
 unfold s5 at h;split at h
 .rename_i e;exact⟨e.choose,e.choose_spec.1,e.choose_spec.2,aSr h⟩
 cases h
theorem sA {V:Type}{p:V->List qM}{q:V->List qJ}{R:V->qY}(inj: ∀v v',p v=p v'->q v=q v'->v=v') (v:V):s5 p q R (p v) (q v)=some (R v):=by
 have h: ∃u,p u=p v/\q u=q v:=⟨v,rfl,rfl⟩;unfold s5;rw[aUm h,inj _ v h.choose_spec.1 h.choose_spec.2]
theorem aBX: ∀{l:List Prop},(∀p∈l,p)->rN l
 |[],_=>trivial
 |[p],h=>h p pS
 |p::q::r,h=>⟨h p pS,aBX (l:=q::r) fun x hx=>h x (aSy _ hx)⟩
def rT (P:Program) (x:Nat×rK):Prop:=wP P x.1 x.2.C/\∀F,x.2.row=some F->V4 P x.1 F
theorem sB {P:Program}{T:sS}{Γ:tC}(hE:rI P T Γ) {f:FuncId}{fn:Func}{c:Code}{V:Type}{p:V->List qM}{q:V->List qJ}{R:V->qY}{ps:List PK}{gs:List (Nat×Nat×PK)}{same:q8}{ts:List (Nat×Option TypeId)}(hf:P.funcs[f]? =some fn) (hb:fn.body=some c) {N:Nat}(hN:fn.ntmps=N)
  (hres:fn.results.toList=ts.map DD) (hcall: ∀args w,(callFunc f args).run P w= .ok (.enter f args) w)
  (h: ∀v,rN (R v).side->rZ (q v)->Ev false P c ⟨rY 0 (p v),r8 0 (q v),rG (q v),N,rG (q v)⟩ (aBV T ts (R v)))
  (h1: ∀v,Nat.ble (p v).length N=true:=by intro _;rfl)
  (h2: ∀v,QQ (vO 0 (q v)) (p v):=by intro _;repeat (first|exact trivial|refine ⟨rfl,?_⟩))
  (h3: ∀v,LB (vO 0 (q v)) (q v):=by intro _;repeat (first|exact trivial|refine ⟨rfl,?_⟩)):rT P (f,⟨ps,s5 p q R,gs,same,none⟩):=
 ⟨aKC hE.T hf hb hN hcall hres fun args L r hC hs hr=>by
  obtain⟨v,rfl,rfl,rfl⟩:=aKD hC;exact⟨aTY (h1 v),h2 v,h3 v,h v (aBX hs) hr⟩,fun _ h=>by cases h⟩
abbrev qP (n:Int):Prop:= -9223372036854775808<=n/\n<=9223372036854775807
@[go_sem] def rJ:List (Nat×rK)->tC
 |[],_=>none
 |(k,s)::r,f=>if k=f then some s else rJ r f
theorem rX {P:Program}:DW P (rJ []):=fun _ _ _ h=>by cases h
theorem qW {P:Program}{x:Nat×rK}{r:List (Nat×rK)}(h:rT P x) (hr:DW P (rJ r)):DW P (rJ (x::r)):=fun f s hlt hs=>by
 obtain⟨k,y⟩:=x;simp only[rJ] at hs;split at hs
 .rename_i e;subst e;cases hs;exact h
 exact hr f s hlt hs
section
variable {P:Program}{T:sS}{Γ:tC}(E:rI P T Γ) {s:St}{Q:Ex->St->Prop}
include E
theorem qK {id:Nat}{ops:Array Oper}{a:vV}{y:Code}(hq:Ev R P y a.s Q) (h:uJ T Γ ops.toList ops.toList (some ⟨s,[],[]⟩)=some a:=by simp only[go_sem];rfl) (hp:rN a.side:=by exact trivial):Ev R P (.seq (.region id ops false) y) s Q:=
 qZ (aBR E h hp hq)
theorem zV {id:Nat}{ops:Array Oper}{a:vV}{y:Code}(hq:Ev R P y a.s Q) (h:uJ T Γ ops.toList ops.toList (some ⟨s,[],[]⟩)=some a:=by simp only[go_sem];rfl) (hp:rN a.side:=by exact trivial) (hf:KS ops s.nb a.es.reverse=true:=by kernel_rfl):Ev R P (.seq (.region id ops true) y) s Q:=
 qZ (aBS E h hf hp hq)
theorem rQ {id:Nat}{ops:Array Oper}{a:vV}(hq:Q .normal a.s) (h:uJ T Γ ops.toList ops.toList (some ⟨s,[],[]⟩)=some a:=by simp only[go_sem];rfl) (hp:rN a.side:=by exact trivial):Ev R P (.region id ops false) s Q:=
 aBR E h hp hq
theorem LF {id:Nat}{ops:Array Oper}{a:vV}(hq:Q .normal a.s) (h:uJ T Γ ops.toList ops.toList (some ⟨s,[],[]⟩)=some a:=by simp only[go_sem];rfl) (hp:rN a.side:=by exact trivial) (hf:KS ops s.nb a.es.reverse=true:=by kernel_rfl):Ev R P (.region id ops true) s Q:=
 aBS E h hf hp hq
end
theorem r7 {P:Program}{s:St}{Q:Ex->St->Prop}{c:Operand}{x y:Code}{b b':Bool}{k:pZ}{ρ:Type}{X Y r:ρ}(hC:(if b'=true then X else Y)=r) (ht:X=r->b=true->Ev R P x s Q) (hf:Y=r->b=false->Ev R P y s Q)
  (h:tQ s.env c=(.val .bool b,k):=by simp only[go_sem];rfl) (hb:b=b':=by first|rfl|simp):Ev R P (.cond c x y) s Q:=
 aKr h (fun e=>ht (aKy hC (hb▸e)) e) (fun e=>hf (aKz hC (hb▸e)) e)
theorem rU {σ ρ:Type}[Inhabited σ] {x:Option σ}{k:σ->Option ρ}{r:ρ}(h:x.bind k=some r): ∃y,x=some y/\val x=y/\k y=some r:=by
 obtain⟨y,h1,h2⟩:=rC h;exact⟨y,h1,sG h1,h2⟩
attribute [go_sem] true_and and_true false_and and_false Nat.reduceMul List.nil_append List.cons_append List.append_nil List.toList_toArray Nat.reduceEqDiff reduceIte reduceDIte reduceCtorEq Nat.reduceAdd Nat.reduceSub Int.reduceToNat Nat.reduceLT Nat.reduceLeDiff decide_true decide_false Bool.and_self Bool.or_self Bool.or_false Bool.false_or Bool.and_true Bool.true_and Bool.not_true Bool.not_false
end Go.Proofs.YtcpbaddnmpeipaaGreatDoor.Vc
namespace Go.Proofs
open Go.RowKit Go.Lib
open Tryz
def Tryz.lays137_ren:Go.Shelf.Ren:=⟨fun|137=>133|217=>139|266=>174|n=>n,fun|9=>9|5=>5|3=>3|n=>n,fun|n=>n⟩
theorem Tryz.lays137:Go.Proofs.Lays.n137 prog Tryz.lays137_ren:={
 mixed:=by kernel_rfl
 f137:=Tryz.func133.trans (aSM some qD)
 f217:=Tryz.func139.trans (aSM some qD)
 f266:=Tryz.func174.trans (aSM some qD)
 t3:=Tryz.underlying3
 a3:=Tryz.isAgg3
 z3:=Tryz.sizeOf3
 v3:=Tryz.zeroValue3
 t5:=Tryz.underlying5
 a5:=Tryz.isAgg5
 z5:=Tryz.sizeOf5
 v5:=Tryz.zeroValue5
 t9:=Tryz.underlying9
 a9:=Tryz.isAgg9
 z9:=Tryz.sizeOf9
 v9:=Tryz.zeroValue9}
def Tryz.lays161_ren:Go.Shelf.Ren:=⟨fun|161=>80|231=>111|227=>112|233=>113|235=>114|228=>143|197=>144|151=>145|260=>176|152=>177|137=>133|119=>199|224=>141|225=>140|217=>139|266=>174|n=>n,fun|9=>9|4=>4|3=>3|5=>5|117=>152|116=>151|0=>0|124=>155|105=>177|21=>21|119=>218|46=>176|139=>221|138=>220|n=>n,fun|3=>1|4=>2|n=>n⟩
theorem Tryz.lays161:Go.Proofs.Lays.n161 prog Tryz.lays161_ren:={
 mixed:=by kernel_rfl
 f119:=Tryz.func199.trans (aSM some qD)
 f137:=Tryz.func133.trans (aSM some qD)
 f151:=Tryz.func145.trans (aSM some qD)
 f152:=Tryz.func177.trans (aSM some qD)
 f161:=Tryz.func80.trans (aSM some qD)
 f197:=Tryz.func144.trans (aSM some qD)
 f217:=Tryz.func139.trans (aSM some qD)
 f224:=Tryz.func141.trans (aSM some qD)
 f225:=Tryz.func140.trans (aSM some qD)
 f227:=Tryz.func112.trans (aSM some qD)
 f228:=Tryz.func143.trans (aSM some qD)
 f231:=Tryz.func111.trans (aSM some qD)
 f233:=Tryz.func113.trans (aSM some qD)
 f235:=Tryz.func114.trans (aSM some qD)
 f260:=Tryz.func176.trans (aSM some qD)
 f266:=Tryz.func174.trans (aSM some qD)
 t0:=Tryz.underlying0
 a0:=Tryz.isAgg0
 z0:=Tryz.sizeOf0
 v0:=Tryz.zeroValue0
 t3:=Tryz.underlying3
 a3:=Tryz.isAgg3
 z3:=Tryz.sizeOf3
 v3:=Tryz.zeroValue3
 t4:=Tryz.underlying4
 a4:=Tryz.isAgg4
 z4:=Tryz.sizeOf4
 v4:=Tryz.zeroValue4
 t5:=Tryz.underlying5
 a5:=Tryz.isAgg5
 z5:=Tryz.sizeOf5
 v5:=Tryz.zeroValue5
 t9:=Tryz.underlying9
 a9:=Tryz.isAgg9
 z9:=Tryz.sizeOf9
 v9:=Tryz.zeroValue9
 t21:=Tryz.underlying21
 a21:=Tryz.isAgg21
 z21:=Tryz.sizeOf21
 v21:=Tryz.zeroValue21
 t46:=Tryz.underlying176
 a46:=Tryz.isAgg176
 z46:=Tryz.sizeOf176
 v46:=Tryz.zeroValue176
 t105:=Tryz.underlying177
 a105:=Tryz.isAgg177
 z105:=Tryz.sizeOf177
 v105:=Tryz.zeroValue177
 t116:=Tryz.underlying151
 a116:=Tryz.isAgg151
 z116:=Tryz.sizeOf151
 t117:=Tryz.underlying152
 a117:=Tryz.isAgg152
 z117:=Tryz.sizeOf152
 v117:=Tryz.zeroValue152
 t119:=Tryz.underlying218
 a119:=Tryz.isAgg218
 z119:=Tryz.sizeOf218
 t124:=Tryz.underlying155
 a124:=Tryz.isAgg155
 z124:=Tryz.sizeOf155
 v124:=Tryz.zeroValue155
 t138:=Tryz.underlying220
 a138:=Tryz.isAgg220
 z138:=Tryz.sizeOf220
 v138:=Tryz.zeroValue220
 t139:=Tryz.underlying221
 a139:=Tryz.isAgg221
 z139:=Tryz.sizeOf221
 v139:=Tryz.zeroValue221
 g3:=by kernel_rfl
 g4:=by kernel_rfl}
def Tryz.lays190_ren:Go.Shelf.Ren:=⟨fun|190=>163|125=>192|258=>191|128=>217|129=>218|302=>208|303=>209|304=>210|305=>211|306=>212|307=>213|308=>214|309=>215|310=>216|333=>236|329=>237|330=>238|334=>239|335=>240|336=>241|344=>252|n=>n,fun|31=>23|9=>9|3=>3|46=>176|0=>0|51=>202|53=>241|4=>4|183=>234|182=>233|131=>54|5=>5|218=>255|222=>259|228=>268|229=>140|n=>n,fun|n=>n⟩
theorem Tryz.lays190:Go.Proofs.Lays.n190 prog Tryz.lays190_ren:={
 mixed:=by kernel_rfl
 f125:=Tryz.func192.trans (aSM some qD)
 f128:=Tryz.func217.trans (aSM some qD)
 f129:=Tryz.func218.trans (aSM some qD)
 f190:=Tryz.func163.trans (aSM some qD)
 f258:=Tryz.func191.trans (aSM some qD)
 f302:=Tryz.func208.trans (aSM some qD)
 f303:=Tryz.func209.trans (aSM some qD)
 f304:=Tryz.func210.trans (aSM some qD)
 f305:=Tryz.func211.trans (aSM some qD)
 f306:=Tryz.func212.trans (aSM some qD)
 f307:=Tryz.func213.trans (aSM some qD)
 f308:=Tryz.func214.trans (aSM some qD)
 f309:=Tryz.func215.trans (aSM some qD)
 f310:=Tryz.func216.trans (aSM some qD)
 f329:=Tryz.func237.trans (aSM some qD)
 f330:=Tryz.func238.trans (aSM some qD)
 f333:=Tryz.func236.trans (aSM some qD)
 f334:=Tryz.func239.trans (aSM some qD)
 f335:=Tryz.func240.trans (aSM some qD)
 f336:=Tryz.func241.trans (aSM some qD)
 f344:=Tryz.func252.trans (aSM some qD)
 t0:=Tryz.underlying0
 a0:=Tryz.isAgg0
 z0:=Tryz.sizeOf0
 v0:=Tryz.zeroValue0
 t3:=Tryz.underlying3
 a3:=Tryz.isAgg3
 z3:=Tryz.sizeOf3
 v3:=Tryz.zeroValue3
 t4:=Tryz.underlying4
 a4:=Tryz.isAgg4
 z4:=Tryz.sizeOf4
 v4:=Tryz.zeroValue4
 t5:=Tryz.underlying5
 a5:=Tryz.isAgg5
 z5:=Tryz.sizeOf5
 v5:=Tryz.zeroValue5
 t9:=Tryz.underlying9
 a9:=Tryz.isAgg9
 z9:=Tryz.sizeOf9
 v9:=Tryz.zeroValue9
 t31:=Tryz.underlying23
 a31:=Tryz.isAgg23
 z31:=Tryz.sizeOf23
 v31:=Tryz.zeroValue23
 t46:=Tryz.underlying176
 a46:=Tryz.isAgg176
 z46:=Tryz.sizeOf176
 v46:=Tryz.zeroValue176
 t51:=Tryz.underlying202
 a51:=Tryz.isAgg202
 z51:=Tryz.sizeOf202
 v51:=Tryz.zeroValue202
 t53:=Tryz.underlying241
 a53:=Tryz.isAgg241
 z53:=Tryz.sizeOf241
 v53:=Tryz.zeroValue241
 t131:=Tryz.underlying54
 a131:=Tryz.isAgg54
 z131:=Tryz.sizeOf54
 v131:=Tryz.zeroValue54
 t182:=Tryz.underlying233
 a182:=Tryz.isAgg233
 z182:=Tryz.sizeOf233
 v182:=Tryz.zeroValue233
 t183:=Tryz.underlying234
 a183:=Tryz.isAgg234
 z183:=Tryz.sizeOf234
 v183:=Tryz.zeroValue234
 t218:=Tryz.underlying255
 a218:=Tryz.isAgg255
 z218:=Tryz.sizeOf255
 v218:=Tryz.zeroValue255
 t222:=Tryz.underlying259
 a222:=Tryz.isAgg259
 z222:=Tryz.sizeOf259
 v222:=Tryz.zeroValue259
 t228:=Tryz.underlying268
 a228:=Tryz.isAgg268
 z228:=Tryz.sizeOf268
 v228:=Tryz.zeroValue268
 t229:=Tryz.underlying140
 a229:=Tryz.isAgg140
 z229:=Tryz.sizeOf140
 v229:=Tryz.zeroValue140}
def Tryz.lays196_ren:Go.Shelf.Ren:=⟨fun|196=>168|259=>195|n=>n,fun|0=>0|3=>3|4=>4|5=>5|9=>9|12=>12|46=>176|53=>241|119=>218|138=>220|139=>221|n=>n,fun|3=>1|4=>2|n=>n⟩
theorem Tryz.lays196:Go.Proofs.Lays.n196 prog Tryz.lays196_ren:={
 mixed:=by kernel_rfl
 f196:=Tryz.func168.trans (aSM some qD)
 f259:=Tryz.func195.trans (aSM some qD)
 t0:=Tryz.underlying0
 a0:=Tryz.isAgg0
 z0:=Tryz.sizeOf0
 v0:=Tryz.zeroValue0
 t3:=Tryz.underlying3
 a3:=Tryz.isAgg3
 z3:=Tryz.sizeOf3
 v3:=Tryz.zeroValue3
 t4:=Tryz.underlying4
 a4:=Tryz.isAgg4
 z4:=Tryz.sizeOf4
 v4:=Tryz.zeroValue4
 t5:=Tryz.underlying5
 a5:=Tryz.isAgg5
 z5:=Tryz.sizeOf5
 v5:=Tryz.zeroValue5
 t9:=Tryz.underlying9
 a9:=Tryz.isAgg9
 z9:=Tryz.sizeOf9
 v9:=Tryz.zeroValue9
 t12:=Tryz.underlying12
 a12:=Tryz.isAgg12
 z12:=Tryz.sizeOf12
 v12:=Tryz.zeroValue12
 t46:=Tryz.underlying176
 a46:=Tryz.isAgg176
 z46:=Tryz.sizeOf176
 v46:=Tryz.zeroValue176
 t53:=Tryz.underlying241
 a53:=Tryz.isAgg241
 z53:=Tryz.sizeOf241
 v53:=Tryz.zeroValue241
 t119:=Tryz.underlying218
 a119:=Tryz.isAgg218
 z119:=Tryz.sizeOf218
 t138:=Tryz.underlying220
 a138:=Tryz.isAgg220
 z138:=Tryz.sizeOf220
 v138:=Tryz.zeroValue220
 t139:=Tryz.underlying221
 a139:=Tryz.isAgg221
 z139:=Tryz.sizeOf221
 v139:=Tryz.zeroValue221
 g3:=by kernel_rfl
 g4:=by kernel_rfl}
def Tryz.lays240_ren:Go.Shelf.Ren:=⟨fun|240=>78|276=>109|n=>n,fun|0=>0|4=>4|9=>9|20=>20|70=>79|72=>82|164=>146|37=>80|n=>n,fun|n=>n⟩
theorem Tryz.lays240:Go.Proofs.Lays.n240 prog Tryz.lays240_ren:={
 mixed:=by kernel_rfl
 f240:=Tryz.func78.trans (aSM some qD)
 f276:=Tryz.func109.trans (aSM some qD)
 t0:=Tryz.underlying0
 a0:=Tryz.isAgg0
 z0:=Tryz.sizeOf0
 v0:=Tryz.zeroValue0
 t4:=Tryz.underlying4
 a4:=Tryz.isAgg4
 z4:=Tryz.sizeOf4
 v4:=Tryz.zeroValue4
 t9:=Tryz.underlying9
 a9:=Tryz.isAgg9
 z9:=Tryz.sizeOf9
 v9:=Tryz.zeroValue9
 t20:=Tryz.underlying20
 a20:=Tryz.isAgg20
 z20:=Tryz.sizeOf20
 v20:=Tryz.zeroValue20
 t70:=Tryz.underlying79
 a70:=Tryz.isAgg79
 z70:=Tryz.sizeOf79
 v70:=Tryz.zeroValue79
 t72:=Tryz.underlying82
 a72:=Tryz.isAgg82
 z72:=Tryz.sizeOf82
 v72:=Tryz.zeroValue82
 t164:=Tryz.underlying146
 a164:=Tryz.isAgg146
 z164:=Tryz.sizeOf146
 v164:=Tryz.zeroValue146}
theorem Tryz.builderX72:Builder.X72 prog Tryz.lays240_ren:={
 sizeBuilder:=by kernel_rfl
 liesBuilder:=by kernel_rfl}
def Tryz.lays169_ren:Go.Shelf.Ren:=⟨fun|169=>53|n=>n,fun|70=>79|9=>9|0=>0|72=>82|37=>80|127=>115|3=>3|5=>5|n=>n,fun|n=>n⟩
theorem Tryz.lays169:Go.Proofs.Lays.n169 prog Tryz.lays169_ren:={
 mixed:=by kernel_rfl
 f169:=Tryz.func53.trans (aSM some qD)
 t0:=Tryz.underlying0
 a0:=Tryz.isAgg0
 z0:=Tryz.sizeOf0
 v0:=Tryz.zeroValue0
 t3:=Tryz.underlying3
 a3:=Tryz.isAgg3
 z3:=Tryz.sizeOf3
 v3:=Tryz.zeroValue3
 t9:=Tryz.underlying9
 a9:=Tryz.isAgg9
 z9:=Tryz.sizeOf9
 v9:=Tryz.zeroValue9
 t37:=Tryz.underlying80
 a37:=Tryz.isAgg80
 z37:=Tryz.sizeOf80
 v37:=Tryz.zeroValue80
 t70:=Tryz.underlying79
 a70:=Tryz.isAgg79
 z70:=Tryz.sizeOf79
 v70:=Tryz.zeroValue79
 t72:=Tryz.underlying82
 a72:=Tryz.isAgg82
 z72:=Tryz.sizeOf82
 v72:=Tryz.zeroValue82
 t127:=Tryz.underlying115
 a127:=Tryz.isAgg115
 z127:=Tryz.sizeOf115
 v127:=Tryz.zeroValue115}
theorem Tryz.builderExtra:Builder.Extra prog Tryz.lays169_ren:={
 sizeBuilder:=by kernel_rfl
 liesBuilder:=by kernel_rfl
 t5:=Tryz.underlying5
 a5:=Tryz.isAgg5
 z5:=Tryz.sizeOf5
 v5:=Tryz.zeroValue5
 infoByte:=by kernel_rfl
 cellsByte:=by kernel_rfl
 sizeByte:=by kernel_rfl
 neB5:=by decide}
end Go.Proofs
namespace Go.Proofs.YtcpbaddnmpeipaaGreatDoor
open Vc Go.RowKit
open Tryz
theorem aKE {g:Gh}{w w':q9}(hH:sE g w (r8 0 [])) (hb:Below w.heap.size w w'):sE g w' (r8 0 []):=
 ⟨fun _ _ h=>(by cases h),fun _ _ _ _ _ _ _ h=>(by cases h),fun b o h=>aSY (hH.sl b o h) hb.size,⟨I3 hH.tab.1 hb.size fun b h=>hb.block b (aSY h hH.tab.1.1),fun _ _ _ _ h=>(by cases h)⟩⟩
theorem GU {P:Program}{f:FuncId}{C:List qM->List qJ->Option qY}(hen: ∀args w,(callFunc f args).run P w= .ok (.enter f args) w)
  (h: ∀(g:Gh) (w:q9) (args:List qM) (vals:pX) (L:List qJ) (r:qY),EV w->vH g w args vals->C args L=some r->(∀p∈r.side,p)->
   L=[]/\r.H=[]/\Calls P f vals.toArray w (fun e w'=> ∃v,e= .returned v/\Below w.heap.size w w'/\QG g w' r.ret v)):wP P f C:=by
 refine⟨hen,fun g w args vals L r hH ha hC hs=>?_⟩;obtain⟨rfl,hr,hc⟩:=h g w args vals L r hH.tab.1 ha hC hs;refine hc.mono fun e w' ⟨v,he,hb,hv⟩=>⟨v,g,he,⟨fun b o h=>⟨h,hb.cell (p:=⟨b,o,none⟩) (hH.sl b o h)⟩,by rw[hr];exact aKE hH hb,hv,⟨hb.os,hb.tape,hb.output,hb.size,fun b h _=>hb.block b h,fun b o h _=>⟨hb.cell (p:=⟨b,o,none⟩) h,hb.frozen (p:=⟨b,o,none⟩) h⟩,fun b o h=> .inl h,fun b s h=> .inl ((BT (hb.block b (BS h))).trans h)⟩,(fun i blk b o h=>by rw[hr] at h;cases h),(fun i t x ts h=>by cases h),(fun i t x ts u y us h=>by cases h),(fun _ _ _ h=>h),(fun _ _ _ _ h=>h)⟩⟩
theorem VV {P:Program}{f:FuncId}{vals:Array qB}{w:q9}{Q:Ending->Prop}(h:Calls P f vals w fun e w'=>Q e/\w'=w):Calls P f vals w fun e w'=>Q e/\Below w.heap.size w w':=
 h.mono fun e w' ⟨h1,h2⟩=>⟨h1,by rw[h2];exact Below.refl _ _⟩
def vJ (s:pM) (c:Int):Int:=Lib.indexByte s (Int.toNat c).toUInt8
@[go_sem] def VW:List qM->List qJ->Option qY
 |[(.val .str O,none),(.val (.int .u8) Z,none)],[]=>some ⟨[],[(.val (.int .i64) (vJ O Z),none)],[]⟩
 |_,_=>none
theorem aBY:wP prog 133 VW:=by
 refine GU (fun _ _=>rfl) fun g w args vals L r hT ha hC hs=>?_;unfold VW at hC;split at hC
 .rename_i s c;cases hC;obtain⟨va,_,rfl,ra,vb,_,rfl,rb,hv⟩:=ha;obtain rfl:=wI ra.1;obtain rfl:=vX rb.1;cases hv;exact⟨rfl,rfl,(VV (Any.strings_IndexByte Tryz.lays137 ⟨List.toArray s⟩ c w)).mono fun e w' ⟨he,hb⟩=>⟨_,he,hb,wF _ _ _ _,trivial⟩⟩
 cases hC
@[go_sem] def VX:List qM->List qJ->Option qY
 |[(.val .str O,none),(.val .str Z,none)],[]=>some ⟨[(List.all Z fun b=>decide (b.toNat<128))=true/\List.length Z<4294967281],[(.val .str (Lib.trimLeftS O Z),none)],[]⟩
 |_,_=>none
theorem aBZ:wP prog 80 VX:=by
 refine GU (fun _ _=>rfl) fun g w args vals L r hT ha hC hs=>?_;unfold VX at hC;split at hC
 .rename_i s c;cases hC;obtain⟨h1,h2⟩:=hs _ aSH;obtain⟨va,_,rfl,ra,vb,_,rfl,rb,hv⟩:=ha;obtain rfl:=wI ra.1;obtain rfl:=wI rb.1;cases hv;exact⟨rfl,rfl,(Any.strings_TrimLeft_laid Tryz.lays161 qD ⟨List.toArray s⟩ ⟨List.toArray c⟩ w h2 (ascii_of_all h1)).mono fun e w' ⟨he,hb⟩=>⟨_,he,hb,DB _ _ _,trivial⟩⟩
 cases hC
@[go_sem] def VY:List qM->List qJ->Option qY
 |[(.val .str O,none)],[]=>some ⟨[List.length O<=9223372036854775807],[(.val .bool (Lib.validD O),none)],[]⟩
 |_,_=>none
theorem aB0:wP prog 168 VY:=by
 refine GU (fun _ _=>rfl) fun g w args vals L r hT ha hC hs=>?_;unfold VY at hC;split at hC
 .rename_i s;cases hC;have h1:=hs _ aSH;obtain⟨va,_,rfl,ra,hv⟩:=ha;obtain rfl:=wI ra.1;cases hv;exact⟨rfl,rfl,(Any.utf8_ValidString Tryz.lays196 ⟨List.toArray s⟩ w h1 hT.2.1).mono fun e w' ⟨he,hb⟩=>⟨_,he,hb,vG _ _ _,trivial⟩⟩
 cases hC
@[go_sem] def noC:List qM->List qJ->Option qY:=fun _ _=>none
def uB (l:pN):pN:=l.mergeSort fun x y=>decide (x<=y)
@[go_sem] def a1E:(t:Ty)->List t.den->Option (List t.den)
 | .str,l=>some (uB l)
 |_,_=>none
def a1F {g:Gh}{w:q9}: ∀{l:pN}{xs:pX},tT (Rd g w .str) 1 l xs->xs=l.map Go.Proofs.encStr
 |[],_,h=>h
 |_::_,_,⟨c1,c2,e,_,h2,h3⟩=>by rw[e,show c1=_ from h2,a1F h3];rfl
def a1G {g:Gh}{w:q9}: ∀(l:pN),tT (Rd g w .str) 1 l (l.map Go.Proofs.encStr)
 |[]=>rfl
 |x::l=>⟨[.string ⟨x.toArray⟩],_,rfl,rfl,rfl,a1G l⟩
def aB1 (s:pN) (cur:Array qB) (h:s.length<=cur.size):(Go.Sort.putCells Go.Proofs.encStr 0 s.toArray cur).toList.take s.length=s.map Go.Proofs.encStr:=by
 apply List.ext_getElem
 .simp [Go.Sort.putCells];omega
 intro i h1 h2;have hi:i<s.length:=by simpa using h2
 simp only[Go.Sort.putCells,List.getElem_take,Array.getElem_toList,Array.getElem_mapIdx,List.getElem_map];rw[aSn (by simp;exact hi)];simp [hi]
def aB2:wP prog 163 noC/\∀F,some a1E=some F->V4 prog 163 F:=by
 refine⟨⟨fun _ _=>rfl,fun g w args vals L r _ _ hC _=>by cases hC⟩,fun F hF=>?_⟩;cases hF;intro g w e t l l' v n xs hT hown hF hl hn hf;cases t with
 |str=>
  have hf:uB l=l':=aSr hf;subst hf;subst hl;have hlen:(uB l).length=l.length:=by simp [uB]
  obtain⟨hx,⟨rfl,h0⟩ |⟨b,cap,cur,rfl,hb0,hbk,hnc,hcm,hcs,htk⟩⟩:=hown
  .obtain rfl:l=[]:=aTj.1 h0;refine(Any.slices_Sort_string_none Tryz.lays190 none 0 w).mono ?_;rintro en w' ⟨rfl,rfl⟩;exact⟨rfl,hlen,[],⟨rfl,.inl ⟨rfl,rfl⟩⟩,by simp [uB,tT],⟨rfl,rfl,rfl,aSJ _,fun _ _ _=>rfl⟩⟩
  .have hxs:=a1F hF;subst hxs;have hc1:(Ty.str).cells=1:=rfl;rw[hc1,aUd] at hcs htk;have hbl:b<w.heap.size:=by
    rcases aTE b w.heap.size with h|h
    .exact h
    rw[Array.getElem?_eq_none h] at hbk;cases hbk
   have hH:Go.Sort.Holds Go.Proofs.encStr w b 0 l.toArray:=by
    intro j hj;have hj':j<l.length:=by simpa using hj
    refine⟨?_,Lib.frozen_of_heap hbk _⟩;rw[Lib.cell_of_heap hbk,aSU];have h2:(cur.toList.take l.length)[j]? =(l.map Go.Proofs.encStr)[j]? :=by rw[htk]
    rw[aTf hj',aTk] at h2;rw[h2];simp [hj']
   refine(Any.slices_Sort_string Tryz.lays190 b 0 cap l w hH hbl hn).mono ?_;rintro en w' ⟨rfl,m,os,rfl⟩;have hsz:(uB l).length<=cur.size:=by rw[hlen,hcs];exact hnc
   have hnew:(Go.Sort.grow (Go.Sort.putRow Go.Proofs.encStr (Go.Sort.ahead w m) b 0 (uB l).toArray) os).heap[b]? =some (.cells (Go.Sort.putCells Go.Proofs.encStr 0 (uB l).toArray cur) e (0,0)):=by
    rw[Go.Sort.heap_grow_old _ _ (by simpa using hbl)];simp [Go.Sort.putRow,Go.Sort.mapBlock,aTl,hbk,Go.Sort.onCells]
   refine⟨rfl,hlen,(uB l).map Go.Proofs.encStr,⟨by simp [hlen,hc1],.inr ⟨b,cap,_,rfl,hb0,hnew,hnc,hcm,?_,?_⟩⟩,a1G _,⟨rfl,rfl,rfl,by simp,fun k hk hne=>?_⟩⟩
   .rw[hc1,aUd];simpa[Go.Sort.putCells] using hcs
   .rw[hc1,aUd,<-hlen];exact aB1 _ _ hsz
   .rw[Go.Sort.heap_grow_old _ _ (by simpa using hk)];have hkb:b≠k:=fun h=>hne (by rw[h];rfl);simp [Go.Sort.putRow,Go.Sort.mapBlock,aTl,hkb]
 |_=>cases hf
def FB (s c:pM):Int:=Lib.index s c
@[go_sem] def VZ:List qM->List qJ->Option qY
 |[(.val .ref (some (0,0)),none)],[.cells (.pair .mref (.pair (.list (.int .u8)) .unit)) ((some (0,0)),O) [(1,1)],.grow Z 1 aA]=>some ⟨[aA=List.length O.1],[],[.cells (.pair .mref (.pair (.list (.int .u8)) .unit)) ((some (0,0)),O) [(1,1)],.grow Z 1 aA]⟩
 |_,_=>none
def aB3 {g:Gh}{w:q9}{L:List qJ}{e:qS}{w':q9}{u v:qB}{r:qY}(hE:rL g w (r8 0 L) e g w' u)
  (hH: ∀i,qO (r8 0 r.H) i=qO (r6 e.upd (r8 0 L)) i) (hin: ∀i,i∈qQ e.upd->i<L.length) (hlen:r.H.length=L.length)
  (hp: ∀i blk b o,r.H[i]? =some blk->s9 g i blk b o->w.heap.size<=b\/yE g (r8 0 L) b o)
  (hty: ∀(i:Nat) t x ts u y us,L[i]? =some (.cells t x ts)->r.H[i]? =some (.cells u y us)->u=t)
  (hret:QG g w' r.ret v):F8 g w L r g w' v:=
 ⟨fun b o h=>⟨h,hE.le.cell b o h⟩,hE.heap.ext hH,hret,hE.fr.mono fun b o ⟨i,blk,_,h1,h2⟩=>⟨i,blk,h1,h2⟩,hp,fun _ _ _ _ _=>rfl,hty,fun _ _ _ h=>h,fun _ _ _ _ h=>h⟩
def aKF {P:Program}{ρ:Go.Shelf.Ren}(L:Lays.n240 P ρ) (X:Builder.X72 P ρ) {e:TypeId}(b:Nat) (w:q9) (h0:w.cell? ⟨b,0,none⟩=some (.pointer none)) (hsh:w.shape? b=some (e,2)) (hl:liesAt P P.depth e (2/P.cellsOf e) 0 (ρ.t 72) 1=true) (hfz:w.frozen? ⟨b,0,none⟩=false):
  Calls P (ρ.f 240) #[.pointer (some ⟨b,0,none⟩)] w fun en w'=>en= .returned (.tuple #[])/\w'=w.setCell ⟨b,0,none⟩ (.pointer (some ⟨b,0,none⟩)):=by
 obtain⟨j,hj,hjs⟩:=aSE.1 X.sizeBuilder;have mixed:=L.mixed;have t72:=L.t72;have a72:=L.a72;have z72:=L.z72;have v72:=L.v72;have u72:=aSK L.t72;have t70:=L.t70;have a70:=L.a70;have z70:=L.z70;have v70:=L.v70;have u70:=aSK L.t70;have t9:=L.t9;have a9:=L.a9;have z9:=L.z9;have v9:=L.v9;have u9:=aSK L.t9;have t4:=L.t4;have a4:=L.a4;have z4:=L.z4;have v4:=L.v4;have u4:=aSK L.t4;have t164:=L.t164;have a164:=L.a164;have z164:=L.z164;have v164:=L.v164;have u164:=aSK L.t164
 go_enter L.f240,Body.n240_ntmps ρ
 go_wp2
 rw[Lib.run_to_unsafe w ⟨b,0,none⟩ L.t70 L.t164 hj (by rw[hjs];decide) hsh (Nat.zero_lt_succ 1)];simp only[Result.andThen];rw[Oper.upon_value]
 go_wp2
 rw[run_callFunc_extern L.f276 qD qD qD (e:=Extern.AbiNoEscape.same) qD];rw[Lib.run_noEscape];simp only[Result.andThen];rw[Oper.upon_value]
 go_wp2
 rw[Lib.run_from_unsafe w ⟨b,0,none⟩ L.t164 L.t70 hj hsh hl];simp only[Result.andThen];rw[Oper.upon_value]
 go_wp2
 go_end0
 exact⟨rfl,rfl⟩
def aB4:wP prog 78 VZ:=by
 refine⟨fun _ _=>rfl,fun g w args vals L r hH ha hC hs=>?_⟩;unfold VZ at hC;split at hC
 .rename_i O Z aA;cases hC;obtain⟨va,_,rfl,ra,hv⟩:=ha;cases hv;have hg0:qO (r8 0 [qJ.cells (.pair .mref (.pair (.list (.int .u8)) .unit)) ((some (0,0)),O) [(1,1)],.grow Z 1 aA]) 0=some (.cells (.pair .mref (.pair (.list (.int .u8)) .unit)) ((some (0,0)),O) [(1,1)]):=rfl;obtain⟨p,cs,hJ,hR,hra,hth,hns,htk⟩:=hH.blk 0 _ hg0;obtain⟨c1,c2,rfl,hR1,hR2⟩:=hR;obtain⟨p',hJ',⟨hp0,eb,heb,hk3⟩,hc1⟩:=hR1;rw[hJ] at hJ';obtain rfl:=aSr hJ';obtain⟨b,o,k⟩:=p;have ho:o=0:=by simpa using hp0
  subst ho;have hlies:liesAt prog Tryz.prog.depth eb (2/Tryz.prog.cellsOf eb) 0 82 1=true:=by
   unfold Z0 at heb;split at heb
   .rename_i h;subst h;kernel_rfl
   split at heb
   .rename_i h;subst h;kernel_rfl
   cases heb
  have hva:va= .pointer (some ⟨b,0,none⟩):=by
   obtain⟨q,hq,e⟩:=xC ra.1;rw[hJ] at hq;cases hq;exact e
  subst hva;have hsh:w.shape? b=some (eb,2):=hth.2 pR _ hk3;rcases hc1 with rfl|rfl
  .have h0:w.cell? ⟨b,0,none⟩=some (.pointer none)/\w.frozen? ⟨b,0,none⟩=false:=⟨hra 0 _ rfl,(hth.1 0 pR).2⟩;refine(aKF Tryz.lays240 Tryz.builderX72 b w h0.1 hsh hlies h0.2).mono ?_;rintro en w' ⟨rfl,rfl⟩;refine⟨_,g,rfl,?_⟩;have hE:=rL.store (side:=[]) (rds:=[]) hH (i:=0) (t:= .mref) (y:=some (0,0)) (off:=0) (k:=none) (p:=⟨b,0,k⟩) (cy:=[.pointer (some ⟨b,0,none⟩)]) (v:= .pointer (some ⟨b,0,none⟩)) hg0 hJ (z:=((some (0,0)),O)) qE ⟨_,hJ,⟨rfl,_,heb,hk3⟩,.inr rfl⟩ trivial (fun _ _ h=>by cases h) (fun _=>rfl);refine aB3 hE.1 ?_ ?_ rfl ?_ ?_ ?_
   .intro i
    match i with
    |0=>rfl
    |1=>rfl
    |i+2=>rfl
   .intro i hi;simp [qQ] at hi;subst hi;exact Nat.zero_lt_succ _
   .intro i blk b o hi ho;exact .inr ⟨i,blk,by rw[V3];simpa using hi,ho⟩
   .intro i t x ts u y us h1 h2;rw[h1] at h2;cases h2;rfl
   exact⟨[],rfl,rfl⟩
  have h0:w.cell? ⟨b,0,none⟩=some (.pointer (some ⟨b,0,none⟩)):=hra 0 _ rfl;refine(Any.Builder_copyCheck_used Tryz.lays240 Tryz.builderX72 b w h0).mono ?_;rintro en w' ⟨rfl,rfl⟩;refine⟨_,g,rfl,⟨fun b o h=>⟨h,rfl⟩,hH,⟨[],rfl,rfl⟩,Fr.refl _ _ _,?_,fun _ _ _ _ _=>rfl,?_,fun _ _ _ h=>h,fun _ _ _ _ h=>h⟩⟩
  .intro i blk b o hi ho;exact .inr ⟨i,blk,by rw[V3];simpa using hi,ho⟩
  intro i t x ts u y us h1 h2;rw[h1] at h2;cases h2;rfl
 cases hC
def aB5 {P:Program}(w:q9): ∀(l:pW) (a:Addr) (acc:ByteArray),(∀j x,l[j]? =some x->w.cell? (a.add j)=some (.int .u8 x))->
  (loadBytes a acc l.length).run P w= .ok ⟨acc.data++(tD l).toArray⟩ w
 |[],a,acc,_=>by simp [loadBytes,tD]
 |x::l,a,acc,h=>by
  have h0:w.cell? a=some (.int .u8 x):=by
   have:=h 0 x rfl;simpa[Addr.add] using this
  have ih:=aB5 (P:=P) w l (a.add 1) (acc.push (UInt8.ofNat x.toNat)) (fun j y hy=>by
   have:=h (j+1) y (by simpa using hy);have e:(a.add 1).add j=a.add (j+1):=by
    unfold Addr.add;by_cases hj:j=0
    .subst hj;simp
    simp [hj];omega
   rw[e];exact this)
  have hx:x.toNat.toUInt8=UInt8.ofNat x.toNat:=rfl;simp only[aSt,loadBytes,aSz,run_load,h0,Result.andThen,hx];rw[ih];congr 1;apply ByteArray.ext;simp [ByteArray.push,tD]
def aKG {P:Program}(w:q9) (pt it ty e:TypeId) (hp:P.underlying pt=some (.pointer e)) (hc:P.cellsOf e=1) (g cells:Nat) (hsh:w.shape? g=some (e,cells)) (l:pW) (h0:l≠[]) (hn:l.length<=cells) (h63:l.length<=9223372036854775807)
  (hcell: ∀j x,l[j]? =some x->w.cell? ((⟨g,0,none⟩:Addr).add j)=some (.int .u8 x)):
  (Builtin.unsafeString_ #[pt,it] ty #[.pointer (some ⟨g,0,none⟩),.int .i64 l.length]).run P w= .ok (.string ⟨(tD l).toArray⟩) (w.freeze ⟨g,0,none⟩ l.length):=by
 have hl:l.length≠0:=by simpa using h0
 have hlb:=aB5 (P:=P) w l ⟨g,0,none⟩ .empty hcell;have hlies:=Lib.liesAt_bytes (P:=P) hc (cells/P.cellsOf e) l.length (by rw[hc];simpa using hn);have h63': ¬(9223372036854775807:Int)<(l.length:Int):=by omega
 have hdef:Builtin.unsafeString_ #[pt,it] ty #[.pointer (some ⟨g,0,none⟩),.int .i64 l.length]=
   (do
    let n<-asInt (.int .i64 l.length)
    if n<0 then runtimePanic (.error "unsafe.String: len out of range")
    if n>IntKind.i64.max then unsupported (.unsafePointer "String: a length above the largest int")
    if n=0 then pure (.string .empty)
    else if<-variablesAt ⟨g,0,none⟩ (<-elemOf pt) n.toNat then do
     let s<-loadBytes ⟨g,0,none⟩ .empty n.toNat
     freeze ⟨g,0,none⟩ n.toNat
     pure (.string s)
    else unsupported (.unsafePointer "String: not so many bytes at ptr")):=rfl
 rw[hdef];have hmax:IntKind.i64.max=9223372036854775807:=rfl;have hneg: ¬(l.length:Int)<0:=by omega
 simp [asInt,asIntOf,hmax,h63',hneg,hl,variablesAt,hsh,elemOf,aSK hp,hlies,hlb]
def a1H {P:Program}{ρ:Go.Shelf.Ren}(L:Lays.n169 P ρ) (X:Builder.Extra P ρ) (b n cap:Nat) (a q:Option Addr) (s:ByteArray) (w w2:q9)
  (c1:w.drew.cell? ⟨b,1,none⟩=some (.slice a n cap)) (hSD:(Builtin.unsafeSliceData_ #[(ρ.t 37)] (ρ.t 127) #[.slice a n cap]).run P w.drew= .ok (.pointer q) w.drew)
  (hUS:(Builtin.unsafeString_ #[(ρ.t 127),(ρ.t 3)] (ρ.t 9) #[.pointer q,.int .i64 n]).run P w.drew= .ok (.string s) w2):
  Calls P (ρ.f 169) #[.pointer (some ⟨b,0,none⟩)] w fun e w'=>e= .returned (.string s)/\w'=w2:=by
 have mixed:=L.mixed;have t72:=L.t72;have a72:=L.a72;have z72:=L.z72;have v72:=L.v72;have u72:=aSK L.t72;have t70:=L.t70;have a70:=L.a70;have z70:=L.z70;have v70:=L.v70;have u70:=aSK L.t70;have t37:=L.t37;have a37:=L.a37;have z37:=L.z37;have v37:=L.v37;have u37:=aSK L.t37;have t127:=L.t127;have a127:=L.a127;have z127:=L.z127;have v127:=L.v127;have u127:=aSK L.t127;have t3:=L.t3;have a3:=L.a3;have z3:=L.z3;have v3:=L.v3;have u3:=aSK L.t3;have t9:=L.t9;have a9:=L.a9;have z9:=L.z9;have v9:=L.v9;have u9:=aSK L.t9;have t5:=X.t5;have a5:=X.a5;have z5:=X.z5;have v5:=X.v5;have u5:=aSK X.t5
 go_enter L.f169,Body.n169_ntmps ρ
 go_wp2
 go_region_o
 all_goals (go_wp2;go_ret;exact⟨rfl,rfl⟩)
def aKH {P:Program}{ρ:Go.Shelf.Ren}(L:Lays.n169 P ρ) (X:Builder.Extra P ρ) (b g:Nat) (cur:Array qB) (w:q9) (hlt:b<w.heap.size)
  (c1:w.drew.cell? ⟨b,1,none⟩=some (.slice (some ⟨g,0,none⟩) 0 0)) (hg:w.drew.heap[g]? =some (.cells cur (ρ.t 5) (0,0))):
  Calls P (ρ.f 169) #[.pointer (some ⟨b,0,none⟩)] w fun e w'=>e= .returned (.string ⟨#[]⟩)/\w'=w.drew.alloc (.view ⟨g,0,none⟩ (ρ.t 5)):=by
 have hUS:=Any.unsafeString_none L X;have hSD:(Builtin.unsafeSliceData_ #[(ρ.t 37)] (ρ.t 127) #[.slice (some ⟨g,0,none⟩) 0 0]).run P w.drew= .ok (.pointer (some ⟨w.drew.heap.size,0,none⟩)) (w.drew.alloc (.view ⟨g,0,none⟩ (ρ.t 5))):=
  Lib.run_unsafeSliceData_zero w.drew _ _ (ρ.t 5) L.t127 ⟨g,0,none⟩ 0 ((ρ.t 5),cur.size) (by simp [World.shape?,hg])
 have c2:(w.drew.alloc (.view ⟨g,0,none⟩ (ρ.t 5))).cell? ⟨b,1,none⟩=some (.slice (some ⟨g,0,none⟩) 0 0):=
  (aSL (a:=⟨b,1,none⟩) (Lib.alloc_old w.drew _ b hlt)).trans c1
 have c3:(w.alloc (.view ⟨g,0,none⟩ (ρ.t 5))).drew.cell? ⟨b,1,none⟩=some (.slice (some ⟨g,0,none⟩) 0 0):=c2;have c0:w.cell? ⟨b,1,none⟩=some (.slice (some ⟨g,0,none⟩) 0 0):=c1;have mixed:=L.mixed;have t72:=L.t72;have a72:=L.a72;have z72:=L.z72;have v72:=L.v72;have u72:=aSK L.t72;have t70:=L.t70;have a70:=L.a70;have z70:=L.z70;have v70:=L.v70;have u70:=aSK L.t70;have t37:=L.t37;have a37:=L.a37;have z37:=L.z37;have v37:=L.v37;have u37:=aSK L.t37;have t127:=L.t127;have a127:=L.a127;have z127:=L.z127;have v127:=L.v127;have u127:=aSK L.t127;have t3:=L.t3;have a3:=L.a3;have z3:=L.z3;have v3:=L.v3;have u3:=aSK L.t3;have t9:=L.t9;have a9:=L.a9;have z9:=L.z9;have v9:=L.v9;have u9:=aSK L.t9;have t5:=X.t5;have a5:=X.a5;have z5:=X.z5;have v5:=X.v5;have u5:=aSK X.t5
 go_enter L.f169,Body.n169_ntmps ρ
 go_wp2
 go_region_o
 all_goals (go_wp2;go_ret;exact⟨rfl,rfl⟩)
@[go_sem] def W3:List qM->List qJ->Option qY
 |[(.val .ref (some (0,0)),none)],[.cells (.pair .mref (.pair (.list (.int .u8)) .unit)) ((some (0,0)),O) [(1,1)],.grow 5 1 Z]=>some ⟨[Z=List.length O.1],[(.val .str (tD O.1),none)],[.cells (.pair .mref (.pair (.list (.int .u8)) .unit)) ((some (0,0)),O) [],.dead]⟩
 |_,_=>none
def a1I {g:Gh}{w w':q9}{m:pY}{b:(Ty.pair (.list (.int .u8)) .unit).den}{e n:Nat}{s:pM}{sd:List Prop}(hH:sE g w (r8 0 [qJ.cells (.pair .mref (.pair (.list (.int .u8)) .unit)) (m,b) [(1,1)],.grow e 1 n]))
  (hos:w'.os=w.os) (htape:w'.tape=w.tape) (hout:w'.output=w.output) (hsz:w.heap.size<=w'.heap.size)
  (hcell: ∀b o,b<w.heap.size->w'.cell? ⟨b,o,none⟩=w.cell? ⟨b,o,none⟩) (hshape: ∀b s,w.shape? b=some s->w'.shape? b=some s)
  (hblk: ∀b,b<w.heap.size->(∀o,¬s9 g 1 (.grow e 1 n) b o)->w'.heap[b]? =w.heap[b]?):
  F8 g w [qJ.cells (.pair .mref (.pair (.list (.int .u8)) .unit)) (m,b) [(1,1)],.grow e 1 n] ⟨sd,[(.val .str s,none)],[.cells (.pair .mref (.pair (.list (.int .u8)) .unit)) (m,b) [],.dead]⟩ g w' (.string ⟨s.toArray⟩):=by
 have hg0:qO (r8 0 [qJ.cells (.pair .mref (.pair (.list (.int .u8)) .unit)) (m,b) [(1,1)],.grow e 1 n]) 0=some (.cells (.pair .mref (.pair (.list (.int .u8)) .unit)) (m,b) [(1,1)]):=rfl;have hg1:qO (r8 0 [qJ.cells (.pair .mref (.pair (.list (.int .u8)) .unit)) (m,b) [(1,1)],.grow e 1 n]) 1=some (.grow e 1 n):=rfl;have hle:Le g w g w':=⟨fun _ _ h=>h,fun b o h=>hcell b o (hH.sl b o h),fun _ _ h=>h,fun _ _ _ h=>h⟩;have hno: ∀c o,s9 g 0 (.cells (.pair .mref (.pair (.list (.int .u8)) .unit)) (m,b) [(1,1)]) c o->∀o',¬s9 g 1 (.grow e 1 n) c o':=fun c o h o' h'=>by
  obtain⟨v,hv,hb⟩:=h';exact hH.dis 0 1 _ _ c o pR hg0 hg1 h ⟨v,hv,hb⟩
 obtain⟨p,cs,hJ,hR,hra,hth,hns,htk⟩:=hH.blk 0 _ hg0;have hown0: ∀j,j<2->s9 g 0 (.cells (.pair .mref (.pair (.list (.int .u8)) .unit)) (m,b) [(1,1)]) p.1 (p.2+j):=fun j hj=>⟨p,hJ,rfl,Nat.le_add_right _ _,Nat.add_lt_add_left hj _⟩;have hpl:p.1<w.heap.size:=KY (hH.blk 0 _ hg0) (hown0 0 pR);have hpb:w'.heap[p.1]? =w.heap[p.1]? :=hblk p.1 hpl (hno p.1 _ (hown0 0 pR));have hbk0:A2 g w' 0 (.cells (.pair .mref (.pair (.list (.int .u8)) .unit)) (m,b) []):=
  ⟨p,cs,hJ,wE hle hR,fun j v hj=>(hcell _ _ hpl).trans (hra j v hj),⟨fun j hj=>by
   have h1:=hth.1 j hj;rw[hcell _ _ hpl];exact⟨h1.1,(aS9 (a:=⟨p.1,p.2+j,none⟩) hpb).trans h1.2⟩,fun h s hs=>hshape _ _ (hth.2 h s hs)⟩,hns,fun _ _ h=>by cases h⟩
 refine⟨fun b o h=>⟨h,hcell b o (hH.sl b o h)⟩,?_,(show rO g w' (.val .str s,none) (.string ⟨s.toArray⟩) from⟨DB _ _ _,trivial⟩),⟨hos,htape,hout,hsz,?_,?_,fun _ _ h=> .inl h,fun b s h=> .inl (hshape b s h)⟩,?_,fun _ _ _ _ _=>rfl,?_,fun _ _ _ h=>h,fun _ _ _ _ h=>h⟩
 .refine⟨fun i blk h=>?_,fun i j bi bj c o hij hi hj hoi hoj=>?_,fun b o h=>aSY (hH.sl b o h) hsz,I3 hH.tab.1 hsz (fun c hc=>hblk c (aSY hc hH.tab.1.1) fun o ho=>absurd (hH.tab.2 1 _ c o hg1 ho) pQ),fun i blk c o h ho=>?_⟩
  .match i,h with
   |0,h=>cases h;exact hbk0
   |1,h=>cases h;trivial
   |i+2,h=>simp [r8,qO] at h
  .match i,j,hi,hj with
   |0,0,_,_=>exact hij rfl
   |0,1,_,hj=>cases hj;exact hoj
   |1,_,hi,_=>cases hi;exact hoi
   |0,j+2,_,hj=>simp [r8,qO] at hj
   |i+2,_,hi,_=>simp [r8,qO] at hi
  match i,h with
  |0,h=>cases h;exact hH.tab.2 0 _ c o hg0 ho
  |1,h=>cases h;exact ho.elim
  |i+2,h=>simp [r8,qO] at h
 .intro c hc hn;exact hblk c hc fun o ho=>hn o ⟨1,_,hg1,ho⟩
 .intro c o hc hn;exact⟨hcell c o hc,aS9 (a:=⟨c,o,none⟩) (hblk c hc fun o' ho=>hn ⟨1,_,hg1,by obtain⟨v,hv,hb⟩:=ho;exact⟨v,hv,hb⟩⟩)⟩
 .intro i blk c o hi ho
  match i,hi with
  |0,hi=>cases hi;exact .inr ⟨0,_,hg0,ho⟩
  |1,hi=>cases hi;exact ho.elim
  |i+2,hi=>simp at hi
 intro i t x ts u y us h1 h2
 match i,h1,h2 with
 |0,h1,h2=>cases h1;cases h2;rfl
 |1,h1,_=>cases h1
 |i+2,h1,_=>simp at h1
def aKI (w:q9) (a p:Addr) (n:Nat):(w.freeze a n).cell? p=w.cell? p:=by
 unfold World.freeze;split
 .rfl
 simp only[World.cell?,aTl];by_cases h:a.block=p.block
 .rw[aSn h];cases w.heap[p.block]? with
  |none=>rfl
  |some o=>cases o<;>rfl
 rw[aSo h]
def aKJ (w:q9) (a:Addr) (n b:Nat):(w.freeze a n).shape? b=w.shape? b:=by
 unfold World.freeze;split
 .rfl
 simp only[World.shape?,aTl];by_cases h:a.block=b
 .rw[aSn h];cases w.heap[b]? with
  |none=>rfl
  |some o=>cases o<;>rfl
 rw[aSo h]
def aKK (w:q9) (a:Addr) (n b:Nat) (h:b≠a.block):(w.freeze a n).heap[b]? =w.heap[b]? :=by
 unfold World.freeze;split
 .rfl
 simp only[aTl];rw[aSo (Ne.symm h)]
def aKL (w:q9) (a:Addr) (n:Nat):(w.freeze a n).os=w.os/\(w.freeze a n).tape=w.tape/\(w.freeze a n).output=w.output/\(w.freeze a n).heap.size=w.heap.size:=by
 unfold World.freeze;split
 .exact⟨rfl,rfl,rfl,rfl⟩
 exact⟨rfl,rfl,rfl,by simp⟩
def aB6 {g:Gh}{w:q9}{b:Nat}: ∀{l:pW}{o:Nat},yC (Rd g w (.int .u8)) w g.S 1 b o l->∀j x,l[j]? =some x->w.cell? ⟨b,o+j,none⟩=some (.int .u8 x)
 |[],_,_,_,_,h=>by cases h
 |y::l,o,⟨⟨cs,_,hra,_,hR⟩,hl⟩,j,x,h=>by
  match j,h with
  |0,h=>
   cases h;have hR:cs=[.int .u8 y]:=hR;subst hR;exact hra 0 _ rfl
  |j+1,h=>
   have:=aB6 hl j x (by simpa using h);rw[show o+(j+1)=o+1+j by omega];exact this
def aKM {u:Ty}{m:pY}{bv:(Ty.pair (.list (.int .u8)) .unit).den}{l:List u.den}(hget:r9 (.list u) (.pair .mref (.pair (.list (.int .u8)) .unit)) (m,bv) 1=some l):l.length=bv.1.length:=by
 have h2:r9 (.list u) (.list (.int .u8)) bv.1 0=some l:=hget;simp only[r9] at h2;split at h2
 .rename_i h;injection h with h
  subst h;cases h2;rfl
 cases h2
def aB7:wP prog 53 W3:=by
 refine⟨fun _ _=>rfl,fun g w args vals L r hH ha hC hs=>?_⟩;unfold W3 at hC;split at hC
 .rename_i bv n;cases hC;obtain rfl:n=List.length bv.1:=hs _ pS;obtain⟨va,_,rfl,ra,hv⟩:=ha;cases hv;have hg0:qO (r8 0 [qJ.cells (.pair .mref (.pair (.list (.int .u8)) .unit)) ((some (0,0)),bv) [(1,1)],.grow 5 1 (List.length bv.1)]) 0=some (.cells (.pair .mref (.pair (.list (.int .u8)) .unit)) ((some (0,0)),bv) [(1,1)]):=rfl;have hg1:qO (r8 0 [qJ.cells (.pair .mref (.pair (.list (.int .u8)) .unit)) ((some (0,0)),bv) [(1,1)],.grow 5 1 (List.length bv.1)]) 1=some (.grow 5 1 (List.length bv.1)):=rfl;obtain⟨p,cs,hJ,hR,hra,hth,hns,htk⟩:=hH.blk 0 _ hg0;obtain⟨v',xs,hv',hown,hmax,hsl⟩:=hH.blk 1 _ hg1;obtain⟨c1,c2,rfl,hR1,hR2⟩:=hR;obtain⟨d1,d2,rfl,⟨a,cap,rfl,hcap,hl⟩,hd2⟩:=hR2;obtain⟨p',hJ',⟨hp0,_,_,_⟩,hc1⟩:=hR1;rw[hJ] at hJ';obtain rfl:=aSr hJ';obtain⟨b,o,k⟩:=p;have ho:o=0:=by simpa using hp0
  subst ho;have hlen1:c1.length=1:=by rcases hc1 with rfl|rfl<;>rfl
  obtain⟨q,hq,hva⟩:=xC ra.1;rw[hJ] at hq;cases hq;subst hva;have hcell1:w.cell? ⟨b,1,none⟩=some (.slice a bv.1.length cap):=hra 1 _ (by rw[aSw pQ,hlen1];rfl);obtain⟨u,l,v,hget,hcv,hcur⟩:=htk 1 1 pS;have hvv:v= .slice a bv.1.length cap:=by
   rw[aSw pQ,hlen1] at hcv;exact(aSr hcv).symm
  have hll:l.length=bv.1.length:=aKM hget;rw[hll,hv',hvv] at hcur;obtain rfl:=aSr hcur;have hbl:b<w.heap.size:=Q9 hcell1;have hdr: ∀(s:pM) (sd:List Prop),F8 g w _ ⟨sd,[(.val .str s,none)],[.cells (.pair .mref (.pair (.list (.int .u8)) .unit)) ((some (0,0)),bv) [],.dead]⟩ g w.drew (.string ⟨s.toArray⟩):=fun s sd=>
   a1I hH rfl rfl rfl (aSJ _) (fun _ _ _=>rfl) (fun _ _ h=>h) (fun _ _ _=>rfl)
  obtain⟨hx,⟨hnil,h0⟩ |⟨gb,cap',cur,hsl',hb0,hbk,hnc,hcm,hcs,htake⟩⟩:=hown
  .have hb0:bv.1=[]:=aTj.1 h0;have hz:tD bv.1=[]:=by rw[hb0];rfl
   have hl0:List.length bv.1=0:=h0;injection hnil with e1 e2 e3
   subst e1;subst e3;refine(a1H Tryz.lays169 Tryz.builderExtra b bv.1.length 0 none none .empty w w.drew hcell1 rfl (by rw[hl0];exact Any.unsafeString_none Tryz.lays169 Tryz.builderExtra w.drew none)).mono ?_;rintro e w' ⟨rfl,rfl⟩;exact⟨_,g,rfl,by rw[hz];exact hdr [] _⟩
  injection hsl' with e1 e2 e3
  subst e1;subst e3;have hsz:bv.1.length<=cur.size:=by omega
  by_cases hb0:bv.1=[]
  .have hz:tD bv.1=[]:=by rw[hb0];rfl
   have hl0:List.length bv.1=0:=by rw[hb0];rfl
   by_cases hc0:cap=0
   .subst hc0;rw[hl0] at hcell1;refine(aKH Tryz.lays169 Tryz.builderExtra b gb cur w hbl hcell1 hbk).mono ?_;rintro e w' ⟨rfl,rfl⟩;have hold: ∀c,c<w.heap.size->(w.drew.alloc (.view ⟨gb,0,none⟩ 5)).heap[c]? =w.heap[c]? :=fun c hc=>Lib.alloc_old w.drew _ c hc;refine⟨_,g,rfl,?_⟩;rw[hz];exact a1I hH rfl rfl rfl pS (fun c o hc=>aSL (a:=⟨c,o,none⟩) (hold c hc)) (fun c s h=>(BT (hold c (BS h))).trans h) (fun c hc _=>hold c hc)
   refine(a1H Tryz.lays169 Tryz.builderExtra b bv.1.length cap (some ⟨gb,0,none⟩) (some ⟨gb,0,none⟩) .empty w w.drew hcell1 (Lib.run_unsafeSliceData_row _ _ _ _ _ _ hc0) (by rw[hl0];exact Any.unsafeString_none Tryz.lays169 Tryz.builderExtra w.drew _)).mono ?_;rintro e w' ⟨rfl,rfl⟩;exact⟨_,g,rfl,by rw[hz];exact hdr [] _⟩
  have hcap0:cap≠0:=fun h=>hb0 (aTj.1 pQ);have hcb: ∀j x,bv.1[j]? =some x->w.cell? ⟨gb,j,none⟩=some (.int .u8 x):=by
   rcases hl with hl|⟨b',o',ha',hl⟩
   .exact absurd hl hb0
   cases ha';intro j x hj;have:=aB6 hl j x hj;rwa [aSU] at this
  have hbk':w.drew.heap[gb]? =some (.cells cur 5 (0,0)):=hbk;have hshp:w.drew.shape? gb=some (5,cur.size):=by simp only[World.shape?,hbk']
  refine(a1H Tryz.lays169 Tryz.builderExtra b bv.1.length cap (some ⟨gb,0,none⟩) (some ⟨gb,0,none⟩) ⟨(tD bv.1).toArray⟩ w (w.drew.freeze ⟨gb,0,none⟩ bv.1.length) hcell1 (Lib.run_unsafeSliceData_row _ _ _ _ _ _ hcap0)
   (aKG w.drew _ _ _ 5 (Tryz.lays169).t127 (Tryz.builderExtra).cellsByte gb cur.size hshp bv.1 hb0 hsz (by unfold maxLen at hcm;omega) (fun j x h=>by rw[aTA,aSU];exact hcb j x h))).mono ?_
  rintro e w' ⟨rfl,rfl⟩;refine⟨_,g,rfl,?_⟩;have hblk: ∀c,(∀o,¬s9 g 1 (.grow 5 1 (List.length bv.1)) c o)->(w.drew.freeze ⟨gb,0,none⟩ bv.1.length).heap[c]? =w.heap[c]? :=fun c hc=>aKK w.drew _ _ c fun e=>hc 0 ⟨_,hv',by rw[e];rfl⟩;have hr:=aKL w.drew ⟨gb,0,none⟩ bv.1.length;refine a1I hH hr.1 hr.2.1 hr.2.2.1 (aTU hr.2.2.2.symm) (fun c o _=>aKI w.drew _ _ _) (fun c s h=>(aKJ w.drew _ _ c).trans h) (fun c _ hc=>hblk c hc)
 cases hC
end Go.Proofs.YtcpbaddnmpeipaaGreatDoor
namespace Go.Proofs.YtcpbaddnmpeipaaGreatDoor.Vc
open Go.RowKit
@[go_sem] def a1J (np:Nat):DV->Bool
 | .any=>true
 | .nilS=>true
 | .val .ref (some (i,_))=>decide (i<np)
 | .val .ref none=>true
 | .val t _=>t.pure
 |_=>false
@[go_sem] def W4 (np:Nat):qM->Bool
 |(d,none)=>a1J np d
 |(.val (.list t) _,some k)=>t.pure&&decide (k<np)
 |_=>false
@[go_sem] def LG (np:Nat):List (Nat×qM)->Bool
 |[]=>true
 |(_,s)::r=>W4 np s&&LG np r
theorem aB8 {np:Nat}: ∀{env:List (Nat×qM)},LG np env=true->∀t,W4 np (lk env t)=true
 |[],_,t=>rfl
 |(k,s)::r,h,t=>by
  simp only[LG,aSA] at h;unfold lk;split
  .exact h.1
  exact aB8 h.2 t
theorem aKN {np:Nat}{g g':Gh}{w:q9}(hS:g'.S=g.S) (hJ: ∀i,i<np->g'.J i=g.J i) (hC: ∀i n,i<np->g'.cur i n=g.cur i n) {s:qM}{v:qB}(hp:W4 np s=true) (h:rO g w s v):rO g' w s v:=by
 have hV: ∀{t:Ty}{x:t.den},t.pure=true->tB g w t x v->tB g' w t x v:=fun ht hv=>by
  rcases hv with⟨h1,cs,h2,h3⟩ |⟨h1,h2⟩
  .exact .inl ⟨h1,cs,h2,vW hS ht h3⟩
  exact .inr ⟨h1,vW hS ht h2⟩
 have hD: ∀d,a1J np d=true->yO g w d v->yO g' w d v:=by
  intro d hd hr;unfold a1J at hd;split at hd
  .trivial
  .exact hr
  .rename_i i o;have hi:=aSZ hd;rcases hr with⟨h1,_⟩ |⟨h1,h2⟩
   .cases h1
   refine .inr ⟨h1,?_⟩;obtain⟨p,hp1,hp2⟩:=h2;exact⟨p,(hJ i hi).trans hp1,hp2⟩
  .rcases hr with⟨h1,_⟩ |⟨h1,h2⟩
   .cases h1
   exact .inr ⟨h1,h2⟩
  .exact hV hd hr
  cases hd
 obtain⟨d,k⟩:=s;cases k with
 |none=>exact⟨hD d hp h.1,trivial⟩
 |some k=>
  unfold W4 at hp;split at hp
  .rename_i heq;cases heq
  .rename_i t x k' heq;cases heq;simp only[aSA,aSx] at hp;exact⟨hV (t:= .list t) hp.1 h.1,(hC k _ hp.2).trans h.2⟩
  cases hp
theorem aKO {np:Nat}{g g':Gh}{w w':q9}{env:List (Nat×qM)}{tmps:Array qB}(h:AQ g w env tmps) (hp:LG np env=true) (hS: ∀b o,g.S b o->g'.S b o) (hc: ∀b o,g.S b o->w'.cell? ⟨b,o,none⟩=w.cell? ⟨b,o,none⟩)
  (hJ: ∀i p,i<np->g.J i=some p->g'.J i=some p) (hC: ∀i n v,i<np->g.cur i n=some v->g'.cur i n=some v):AQ g' w' env tmps:=fun t=>by
 have le:Le g w ⟨g'.S,fun i=>if i<np then g'.J i else g.J i,fun i n=>if i<np then g'.cur i n else g.cur i n⟩ w':=by
  refine⟨hS,hc,fun i p hi=>?_,fun i n v hi=>?_⟩
  .show (if i<np then _ else _)=_;split
   .rename_i hlt;exact hJ i p hlt hi
   exact hi
  show (if i<np then _ else _)=_;split
  .rename_i hlt;exact hC i n v hlt hi
  exact hi
 exact aKN (np:=np) (g:=⟨g'.S,fun i=>if i<np then g'.J i else g.J i,fun i n=>if i<np then g'.cur i n else g.cur i n⟩) (g':=g') rfl (fun i hi=>(aSn hi).symm) (fun i n hi=>by show g'.cur i n=(if i<np then g'.cur i n else g.cur i n);rw[aSn hi]) (aB8 hp t) (DA le (h t))
theorem tE.inner {A A':Nat->Nat->Prop}{L L':List qJ}{g0 g g':Gh}{w0 w w':q9}{H H':s7}(h:tE A L g0 w0 g w H) (k:tE A' L' g w g' w' H') (hA: ∀b o,A' b o->w.heap.size<=b\/yE g H b o) (hl:L.length<=L'.length)
  (hL: ∀i,i<L.length->∀b,L'[i]? =some b->qO H i=some b):tE A L g0 w0 g' w' H':=by
 have own: ∀b o,A' b o->w0.heap.size<=b\/A b o:=fun b o x=>by
  rcases hA b o x with h1|⟨i,blk,h1,h2⟩
  .exact .inl (aTn h.fr.size h1)
  exact h.perm i blk b o h1 h2
 refine⟨fun b o x=>?_,h.fr.trans k.fr own,fun i blk b o h1 h2=>?_,fun i p hi hp=>k.J i p pQ (h.J i p hi hp),fun i hi=>k.live i pQ,fun i u y us hi hg=>?_,fun i n v hi hv=>k.cur i n v pQ (h.cur i n v hi hv)⟩
 .obtain⟨h1,h2⟩:=h.shut b o x;obtain⟨k1,k2⟩:=k.shut b o h1;exact⟨k1,k2.trans h2⟩
 .rcases k.perm i blk b o h1 h2 with h3|h3
  .exact .inl (aTn h.fr.size h3)
  exact own b o h3
 obtain⟨x,ts,hx⟩:=k.ty i u y us pQ hg;exact h.ty i u x ts hi (hL i hi _ hx)
theorem tE.start {g:Gh}{w:q9}{H:s7}{L':List qJ}(hH:sE g w H) (hL: ∀i b,L'[i]? =some b->qO H i=some b/\b≠.dead) (hty: ∀i,i<L'.length->∀b,qO H i=some b->L'[i]? =some b):tE (yE g H) L' g w g w H:=by
 refine⟨fun b o h=>⟨h,rfl⟩,Fr.refl _ _ _,fun i blk b o hg ho=> .inr ⟨i,blk,hg,ho⟩,fun _ _ _ h=>h,fun i hi=>?_,fun i u y us hi hg=>⟨y,us,hty i hi _ hg⟩,fun _ _ _ _ h=>h⟩;obtain⟨h1,h2⟩:=hL i L'[i] pS;have hbk:=hH.blk i _ h1;generalize L'[i]=blk at hbk h2;cases blk with
 |cells t x ts=>obtain⟨p,cs,hp,_⟩:=hbk;exact .inl ⟨p,hp⟩
 |grow e c n=>obtain⟨v,xs,hv,_⟩:=hbk;exact .inr ⟨n,v,hv⟩
 |row e t l n=>obtain⟨_,v,xs,hv,_⟩:=hbk;exact .inr ⟨n,v,hv⟩
 |map k v l=>obtain⟨p,es,cl,hp,_⟩:=hbk;exact .inl ⟨p,hp⟩
 |iter s n=>obtain⟨p,hp,_⟩:=hbk;exact .inl ⟨p,hp⟩
 |dead=>exact absurd rfl h2
@[go_sem] def NR (env:List (Nat×qM)):q8->List qM->List (Nat×qM)
 |p::ps,s::ss=>NR (u7 (some p) s env) ps ss
 |_,_=>env
theorem aB9 {g:Gh}{w:q9}: ∀{ps:q8}{ss:List qM}{vs:pX}{env:List (Nat×qM)}{tmps:Array qB},AQ g w env tmps->(∀p∈ps,p<tmps.size)->vH g w ss vs->ps.length=ss.length->
  AQ g w (NR env ps ss) ((ps.zip vs).foldl (fun t (q:Nat×qB)=>t.setIfInBounds q.1 q.2) tmps)/\((ps.zip vs).foldl (fun t (q:Nat×qB)=>t.setIfInBounds q.1 q.2) tmps).size=tmps.size
 |[],[],vs,env,tmps,h,_,ha,_=>by
  have:vs=[]:=ha;subst this;exact⟨h,rfl⟩
 |p::ps,s::ss,vs,env,tmps,h,hp,ha,hl=>by
  obtain⟨v,vs',rfl,h1,h2⟩:=ha;have hput:AQ g w (u7 (some p) s env) (tmps.setIfInBounds p v):=a1h (a:={tmps:=tmps,defers:=[]}) (o:=⟨some p,.move (.tmp 0),0, "",#[],none⟩) (N:=tmps.size) h (Le.refl g w) h1 rfl (by simpa[ID] using hp p pS)
  have:=aB9 (tmps:=tmps.setIfInBounds p v) hput (fun q hq=>by simpa using hp q (aSy _ hq)) h2 (by simpa using hl);exact⟨this.1,by rw[List.zip_cons_cons,List.foldl_cons];rw[this.2];simp⟩
def aCa (P:Program) (gf:Nat) (u:Ty) {ι:Type}(pre:u.den->Prop) (items:u.den->List ι) (vl:ι->pX):Prop:=
 (∀args w,(callFunc gf args).run P w= .ok (.enter gf args) w)/\
 ∀(l b o:Nat) (x:u.den) (cs:pX) (g:Gh) (W0:q9) (J:Nat->q9->Prop) (Jx:q9->Prop),pre x->Rd g W0 u x cs->
  (∀i W,J i W->W.rangeAt b o cs/\∀b o,g.S b o->W.cell? ⟨b,o,none⟩=W0.cell? ⟨b,o,none⟩)->
  (∀i W W',J i W->Below W.heap.size W W'->J i W')->(∀W W',Jx W->Below W.heap.size W W'->Jx W')->(∀i W,J i W->EV W)->
  (∀i it V W,(items x)[i]? =some it->J i V->Below V.heap.size V W->YieldAt Fence.wide 0 P l (vl it).toArray W fun e W'=>((e= .returned (.bool true)/\J (i+1) W')\/(e= .returned (.bool false)/\Jx W'))/\
   ∀D,V.heap.size<=D->D<W.heap.size->W'.heap[D]? =W.heap[D]?)->
  ∀W,J 0 W->Calls P gf #[.func (.yield l) #[] #[],.pointer (some ⟨b,o,none⟩)] W fun e W'=>(∃v,e= .returned v)/\(J (items x).length W'\/Jx W')
def W5 (once:Bool) (P:Program) (gf:Nat) (u:Ty) {ι:Type}(pre:u.den->Prop) (items:u.den->List ι) (vl:ι->pX):Prop:=
 (∀args w,(callFunc gf args).run P w= .ok (.enter gf args) w)/\
 ∀(l b o:Nat) (x:u.den) (cs:pX) (g:Gh) (W0:q9) (J:Nat->q9->Prop) (Jx:q9->Prop),pre x->Rd g W0 u x cs->
  (∀i W,J i W->(once=false->W.rangeAt b o cs)/\∀b o,g.S b o->W.cell? ⟨b,o,none⟩=W0.cell? ⟨b,o,none⟩)->
  (∀i W W',J i W->Below W.heap.size W W'->J i W')->(∀W W',Jx W->Below W.heap.size W W'->Jx W')->(∀i W,J i W->EV W)->
  (∀i it V W,(items x)[i]? =some it->J i V->Below V.heap.size V W->YieldAt Fence.wide 0 P l (vl it).toArray W fun e W'=>((e= .returned (.bool true)/\J (i+1) W')\/(e= .returned (.bool false)/\Jx W'))/\
   ∀D,V.heap.size<=D->D<W.heap.size->W'.heap[D]? =W.heap[D]?)->
  ∀W,J 0 W->W.rangeAt b o cs->Calls P gf #[.func (.yield l) #[] #[],.pointer (some ⟨b,o,none⟩)] W fun e W'=>(∃v,e= .returned v)/\(J (items x).length W'\/Jx W')
theorem aCa.zero {P:Program}{gf:Nat}{u:Ty}{ι:Type}{pre:u.den->Prop}{items:u.den->List ι}{vl:ι->pX}(h:aCa P gf u pre items vl):W5 false P gf u pre items vl:=
 ⟨h.1,fun l b o x cs g W0 J Jx h1 h2 h3 h4 h5 h6 h7 W h8 _=>h.2 l b o x cs g W0 J Jx h1 h2 (fun i W hJ=>⟨(h3 i W hJ).1 rfl,(h3 i W hJ).2⟩) h4 h5 h6 h7 W h8⟩
def FC {ι σ ρ:Type}(f:ι->σ->Option (σ⊕ρ)):List ι->σ->Option (σ⊕ρ)
 |[],x=>some (.inl x)
 |it::r,x=>(f it x).bind fun w=>match w with
  | .inl x'=>FC f r x'
  | .inr y=>some (.inr y)
theorem aKP {ι σ ρ:Type}{f:ι->σ->Option (σ⊕ρ)}{it:ι}{r:List ι}{x:σ}{y:σ⊕ρ}(h:FC f (it::r) x=some y): ∃w,f it x=some w/\(∀x',w= .inl x'->FC f r x'=some y)/\(∀z,w= .inr z->y= .inr z):=by
 unfold FC at h;cases hf:f it x with
 |none=>rw[hf] at h;cases h
 |some w=>
  rw[hf] at h;refine⟨w,rfl,fun x' e=>?_,fun z e=>?_⟩
  .subst e;exact h
  subst e;exact(aSr h).symm
def qA (st:St):Ex->St->Prop
 | .normal,s=> ∃k:wC,s.keep k=st
 |_,_=>False
def qF {σ ρ:Type}(encH:σ->List qJ) (E0:List (Nat×qM)) (N np np':Nat) (w:σ⊕ρ) (Q:Ex->St->Prop):Ex->St->Prop
 | .normal,s=> ∃(k:wC) (x:σ),w= .inl x/\s.keep k=⟨[],r8 0 (encH x),rG (encH x),N,np'⟩
 |e,s=> ∃(k:wC) (B:List qJ),s.keep k=⟨[],r8 0 B,rG B,N,np'⟩/\(∃z,w= .inr z)/\Q e ⟨E0,r8 0 B,rG B,N,np⟩
section
variable {B:Nat}{A:Nat->Nat->Prop}{L:List qJ}{g0 g:Gh}{w0 w:q9}{b0 o0 n0:Nat}{cs:pX}{E0:List (Nat×qM)}{tmps:Array qB}{ds:List Deferred}
structure E5 (B:Nat) (A:Nat->Nat->Prop) (L:List qJ) (g0:Gh) (w0:q9) (g:Gh) (w:q9) (b0 o0 n0:Nat) (cs:pX) (E0:List (Nat×qM)) (tmps:Array qB) (ds:List Deferred) (g1:Gh) (W:q9) (H:s7):Prop where
 env:AQ g1 W E0 tmps
 heap:sE g1 W H
 good:tE A L g0 w0 g1 W H
 sld: ∀b o,g.S b o->g1.S b o/\W.cell? ⟨b,o,none⟩=w.cell? ⟨b,o,none⟩
 rng:W.rangeAt b0 o0 cs
 len:cs.length=n0
 lt:0<n0->b0<W.heap.size
 out: ∀o,o0<=o->o<o0+n0->¬yE g1 H b0 o
 defs:zT B W ds
theorem E5.turn {g1:Gh}{W W2:q9}{H:s7}(h:E5 B A L g0 w0 g w b0 o0 n0 cs E0 tmps ds g1 W H) (t:uL w0.heap.size W W2) {ds':List Deferred}(hd:zT B W2 ds'):E5 B A L g0 w0 g w b0 o0 n0 cs E0 tmps ds' g1 W2 H:=by
 refine⟨fun x=>DA (t.le h.heap.sl) (h.env x),t.heapOk h.heap,h.good.turn h.heap.sl t,fun b o x=>⟨(h.sld b o x).1,(t.cell (h.heap.sl b o (h.sld b o x).1) o).1.trans (h.sld b o x).2⟩,fun j v hv=>?_,h.len,fun x=>aSY (h.lt x) t.size,h.out,hd⟩;have hj:j<cs.length:=(aSD.1 hv).1;have:=h.len;exact(t.cell (h.lt pQ) _).1.trans (h.rng j v hv)
theorem E5.inner {g1 g2:Gh}{W W2:q9}{H H2:s7}{L':List qJ}{np':Nat}(h:E5 B A L g0 w0 g w b0 o0 n0 cs E0 tmps ds g1 W H) (k:tE (yE g1 H) L' g1 W g2 W2 H2) (hH:sE g2 W2 H2) (hpin:LG np' E0=true) (hnp:np'=L'.length) (hl:L.length<=L'.length)
  (hL: ∀i,i<L.length->∀b,L'[i]? =some b->qO H i=some b):E5 B A L g0 w0 g w b0 o0 n0 cs E0 tmps ds g2 W2 H2:=by
 subst hnp;refine⟨aKO h.env hpin (fun b o x=>(k.shut b o x).1) (fun b o x=>(k.shut b o x).2) (fun i p hi x=>k.J i p hi x) (fun i n v hi x=>k.cur i n v hi x),hH,h.good.inner k (fun b o x=> .inr x) hl hL,fun b o x=>?_,fun j v hv=>?_,h.len,fun x=>aSY (h.lt x) k.fr.size,fun o h1 h2 ⟨i,blk,h3,h4⟩=>?_,h.defs.same fun D hD=>?_⟩
 .obtain⟨h1,h2⟩:=h.sld b o x;exact⟨(k.shut b o h1).1,(k.shut b o h1).2.trans h2⟩
 .have hj:j<cs.length:=(aSD.1 hv).1;have:=h.len;exact(k.fr.cell _ _ (h.lt pQ) (h.out _ pQ pQ)).1.trans (h.rng j v hv)
 .rcases k.perm i blk _ _ h3 h4 with h5|h5
  .have:=h.lt pQ;omega
  exact h.out o h1 h2 h5
 rw[k.fr.blk D (aSP.1 hD).1 (fun o ⟨i,blk,h1,h2⟩=>VG (h.heap.blk i blk h1) h2 hD rfl)];exact hD
theorem aCb {g1 g2:Gh}{W W2:q9}{H H2:s7}{L':List qJ}(hH:sE g1 W H) (k:tE (yE g1 H) L' g1 W g2 W2 H2) {D:Nat}{ob:Obj}(hD:W.heap[D]? =some ob) (hm:GQ ob=true):W2.heap[D]? =some ob:=by
 rw[k.fr.blk D (aSP.1 hD).1 (fun o ⟨i,blk,h1,h2⟩=>VG (hH.blk i blk h1) h2 hD hm)];exact hD
end
theorem uL.put {B:Nat}{W:q9}{l:Nat}{o o':Obj}(h:W.heap[l]? =some o) (hB:B<=l) (hN:NG<=l) (hm:GQ o=true) (hm':GQ o'=true):uL B W (W.putObj l o'):=by
 have hlt:=(aSP.1 h).1;refine⟨rfl,rfl,rfl,by simp [World.putObj],fun b hb=>?_⟩;by_cases e:b=l
 .subst e;exact .inr ⟨hB,hN,_,_,h,World.putObj_heap_same hlt,hm,hm'⟩
 exact .inl (World.putObj_heap_other e)
theorem uL.new (B:Nat) (W:q9) (o:Obj):uL B W (W.alloc o):=by
 refine⟨rfl,rfl,rfl,by simp,fun b hb=> .inl ?_⟩;exact aST W o b hb
theorem aCc {e:Ex}{x:Exit}(h:FA x=some e):(x= .normal/\e= .normal)\/(x= .ret/\e= .ret)\/∃id,x= .exit id/\e= .exit id:=by
 cases x<;>simp only[FA,aSm] at h
 .exact .inl ⟨rfl,h.symm⟩
 .exact .inr (.inr ⟨_,rfl,h.symm⟩)
 .cases h
 .exact .inr (.inl ⟨rfl,h.symm⟩)
 .cases h
 cases h
def aKQ:Ex->Option Code
 | .normal=>none
 | .ret=>some .ret
 | .exit id=>some (.exit id)
theorem aKR {once:Bool}{P:Program}{gf:Nat}{u:Ty}{ι:Type}{pre:u.den->Prop}{items:u.den->List ι}{vl:ι->pX}(hit:W5 once P gf u pre items vl) {sl:ι->List qM}(hsl: ∀it g w,vH g w (sl it) (vl it))
  {fo:Operand}{ps:Array Tmp}{assign body:Code}{s:St}{Q:Ex->St->Prop}{c:Nat}{k0:pZ}(hf:tQ s.env fo=(.val .clo (some (gf,[(c,0)])),k0)) {xc:u.den}{toks:pV}(hc:qO s.H c=some (.cells u xc toks)) (hpre:pre xc)
  {σ ρ:Type}{f:ι->σ->Option (σ⊕ρ)}{x0:σ}{y:σ⊕ρ}(hy:FC f (items xc) x0=some y)
  (E0:List (Nat×qM)) (E1:ι->List (Nat×qM)) (encH:σ->List qJ) (encA:ι->σ->List qJ) (np':Nat) (k:wC) (hk:x7 s.np k.ids=true) (h0:s.keep k=⟨E0,r8 0 (encH x0),rG (encH x0),s.N,s.np⟩)
  (hcase:k.ids.all (fun q=>decide (q.2≠c))=true\/c<s.np/\(∀g w cs g2 w2 cs2,Rd g w u xc cs->Rd g2 w2 u xc cs2->cs=cs2)/\(∃toksK,∀x,qO (r8 0 (encH x)) c=some (.cells u xc toksK))\/c<s.np/\once=true) (hpin:LG np' E0=true) (hnp:s.np<=np') (hlen: ∀x,np'<=rG (encH x)) (hdead: ∀x,((encH x).take np').all (fun b=>match b with| .dead=>false|_=>true)=true)
  (hA: ∀it x,(encA it x).take np'=(encH x).take np') (hlenA: ∀it x,np'<=rG (encA it x))
  (hps: ∀it,ps.toList.length=(sl it).length) (hpN:(ps.toList.all fun p=>decide (p<s.N))=true)
  (hround: ∀it x w,f it x=some w->(∀z,w= .inr z->y= .inr z)->Ev true P assign ⟨NR E0 ps.toList (sl it),r8 0 (encH x),rG (encH x),s.N,np'⟩ (qA ⟨E1 it,r8 0 (encA it x),rG (encA it x),s.N,np'⟩)/\
   Ev true P body ⟨E1 it,r8 0 (encA it x),rG (encA it x),s.N,np'⟩ (qF encH E0 s.N s.np np' w Q))
  (hdone: ∀x,y= .inl x->Q .normal ⟨E0,r8 0 (encH x),rG (encH x),s.N,s.np⟩):Ev false P (.rangeFunc fo ps assign body) s Q:=by
 intro ro hro A L g0 w0 g a w B hB hr hg hn;have hN:ro=none:=by cases ro<;>first|rfl|cases hro
 subst hN;have hfv:=A5 hr.env fo;rw[hf] at hfv;obtain⟨p,hpJ,hev⟩: ∃p,g.J c=some p/\a.eval fo= .func (.func gf) #[] #[.pointer (some ⟨p.1,p.2,none⟩)]:=by
  rcases hfv.1 with⟨h1,_⟩ |⟨_,vs,⟨p,vs',h4,h5,h6⟩,h3⟩
  .cases h1
  rw[show vs'=[] from h6] at h5;subst h5;simp only[aS8,and_true] at h3;exact⟨p,h4,h3⟩
 obtain⟨p',cs,hp',hRc,hra,hth,hns,htk⟩:=hr.heap.blk c _ hc;rw[hpJ] at hp';obtain rfl:=aSr hp';obtain⟨hr1,hg1,hn1,_⟩:=a1g hr hg hn k hk;have hpJ1:c<s.np->(tY g s.np k.ids).J c=some p:=fun hcN=>by
  show (if c<s.np then g.J c else _)=_;rw[aSn hcN];exact hpJ
 obtain⟨b0,o0,n0,cI,inv0,hrng⟩: ∃b0 o0 n0 cI,E5 B A L g0 w0 g w b0 o0 n0 cI E0 a.tmps a.defers (tY g s.np k.ids) w (r8 0 (encH x0))/\∀{g1:Gh}{W:q9}{x:σ}{dd:List Deferred},E5 B A L g0 w0 g w b0 o0 n0 cI E0 a.tmps dd g1 W (r8 0 (encH x))->(c<s.np->g1.J c=some p)->once=false->W.rangeAt p.1 p.2 cs:=by
  rcases hcase with hcd|⟨hcN,hu,toksK,hcK⟩ |⟨hcN,hon⟩
  .have hout: ∀o,p.2<=o->o<p.2+u.cells->¬yE (tY g s.np k.ids) (s.keep k).H p.1 o:=by
    rintro o h1 h2 ⟨i,blk,h3,h4⟩;have h3':qO (Q2 s k (x7 s.np k.ids)).H i=some blk:=h3;rw[hk] at h3';obtain⟨o',h5,rfl⟩:=IP h3';obtain⟨c1,h6,h7⟩:=(L9 hk h5 fun c1 hc1=>hr.heap.blk o' c1 hc1).2 _ _ h4;exact hr.heap.dis o' c c1 _ p.1 o (aSZ (aTd.1 hcd _ h5)) h6 hc h7 ⟨p,hpJ,rfl,h1,h2⟩
   rw[h0] at hr1 hg1 hout;exact⟨p.1,p.2,u.cells,cs,⟨hr1.env,hr1.heap,hg1,fun b o h=>⟨h,rfl⟩,hra,sV hRc,fun hpos=>by
    obtain⟨v,hv⟩:=aSs.1 (hth.1 0 hpos).1;exact Q9 hv,hout,hr.def_⟩,fun h _ _=>h.rng⟩
  .rw[h0] at hr1 hg1;refine⟨0,0,0,[],⟨hr1.env,hr1.heap,hg1,fun b o h=>⟨h,rfl⟩,fun j v h=>by simp at h,rfl,fun h=>absurd h pQ,fun o h1 h2=>by omega,hr1.def_⟩,fun h h2 _=>?_⟩;obtain⟨p2,cs2,h3,h4,h5,_⟩:=h.heap.blk c _ (hcK _);rw[h2 hcN] at h3;obtain rfl:=aSr h3;rw[hu _ _ _ _ _ _ hRc h4];exact h5
  rw[h0] at hr1 hg1;exact⟨0,0,0,[],⟨hr1.env,hr1.heap,hg1,fun b o h=>⟨h,rfl⟩,fun j v h=>by simp at h,rfl,fun h=>absurd h pQ,fun o h1 h2=>by omega,hr1.def_⟩,fun _ _ h=>by rw[hon] at h;cases h⟩
 rw[h0] at hr1 hg1;have hNG:NG<=w.heap.size:=hr.heap.tab.1.1;have hBw:w0.heap.size<=w.heap.size:=hg.fr.size;refine wpIn_rangeFunc fun fn _=>?_;obtain⟨rec,hrec⟩: ∃rec:LoopState->Option Code->Loop,rec=fun st pe=>{state:=st,pending:=pe,fn,tmps:=a.tmps,params:=ps,assign,body,defers:=w.heap.size}:=⟨_,rfl⟩;obtain⟨W1,hW1⟩: ∃W1,(w.alloc (.deferred (some []))).alloc (.loop (rec .ready none))=W1:=⟨_,rfl⟩;have hL1:W1.heap[w.heap.size+1]? =some (.loop (rec .ready none)):=by
  rw[<-hW1];have:=World.alloc_heap_new (w.alloc (.deferred (some []))) (.loop (rec .ready none));rwa [World.size_alloc] at this
 have hK1:W1.heap[w.heap.size]? =some (.deferred (some [])):=by
  rw[<-hW1];exact(aST _ _ _ pS).trans (World.alloc_heap_new w _)
 have t1:uL w0.heap.size w W1:=by rw[<-hW1];exact(uL.new _ _ _).trans (uL.new _ _ _)
 obtain⟨ds,hds⟩: ∃ds:List Deferred,{target:= .collected w.heap.size,args:= #[]}::a.defers=ds:=⟨_,rfl⟩;have hd1:zT B W1 ds:=by
  rw[<-hds];refine⟨List.nodup_cons.2 ⟨fun hm=>?_,hr.def_.1⟩,fun d hd=>?_⟩
  .obtain⟨D,h1,_,_,h4⟩:=hr.def_.2 _ hm;have h5:w.heap.size=D:=by injection h1 with h1;injection h1
   have:=(aSP.1 h4).1;omega
  rcases aSC.1 hd with rfl|hd
  .exact⟨_,rfl,pQ,hNG,hK1⟩
  obtain⟨D,h1,h2,h3,h4⟩:=hr.def_.2 _ hd;have hlt:=(aSP.1 h4).1;refine⟨D,h1,h2,h3,?_⟩;rw[<-hW1];exact(aST _ _ D pT).trans ((aST _ _ D hlt).trans h4)
 let l:=w.heap.size+1
 let J:Nat->q9->Prop:=fun i W=> ∃g1 x,FC f ((items xc).drop i) x=some y/\E5 B A L g0 w0 g w b0 o0 n0 cI E0 a.tmps ds g1 W (r8 0 (encH x))/\
  (∀j,rG (encH x)<=j->g1.J j=none/\∀n,g1.cur j n=none)/\W.heap[l]? =some (.loop (rec .ready none))/\(c<s.np->g1.J c=some p)
 let Jx:q9->Prop:=fun W=> ∃g1 Bl e cd z,aKQ e=some cd/\y= .inr z/\Q e ⟨E0,r8 0 Bl,rG Bl,s.N,s.np⟩/\E5 B A L g0 w0 g w b0 o0 n0 cI E0 a.tmps ds g1 W (r8 0 Bl)/\
  (∀j,rG Bl<=j->g1.J j=none/\∀n,g1.cur j n=none)/\s.np<=rG Bl/\W.heap[l]? =some (.loop (rec .done (some cd)))
 have tbel: ∀{W W':q9},Below W.heap.size W W'->uL w0.heap.size W W':=fun hb=>⟨hb.os,hb.tape,hb.output,hb.size,fun b h=> .inl (hb.block b h)⟩;have hob: ∀{W W':q9}{D:Nat}{ob:Obj},Below W.heap.size W W'->W.heap[D]? =some ob->W'.heap[D]? =some ob:=fun hb h=>(hb.block _ (aSP.1 h).1).trans h;have hJd: ∀i W W',J i W->Below W.heap.size W W'->J i W':=fun i W W' ⟨g1,x,h1,h2,h3,h4,h5⟩ hb=>⟨g1,x,h1,h2.turn (tbel hb) (h2.defs.same fun _ h=>hob hb h),h3,hob hb h4,h5⟩;have hJxd: ∀W W',Jx W->Below W.heap.size W W'->Jx W':=fun W W' ⟨g1,Bl,e,cd,z,h1,h2,h3,h4,h5,h6,h7⟩ hb=>⟨g1,Bl,e,cd,z,h1,h2,h3,h4.turn (tbel hb) (h4.defs.same fun _ h=>hob hb h),h5,h6,hob hb h7⟩;have hround2: ∀i it V W,(items xc)[i]? =some it->J i V->Below V.heap.size V W->YieldAt Fence.wide 0 P l (vl it).toArray W fun e W'=>((e= .returned (.bool true)/\J (i+1) W')\/(e= .returned (.bool false)/\Jx W'))/\
   ∀D,V.heap.size<=D->D<W.heap.size->W'.heap[D]? =W.heap[D]? :=by
  rintro i it V W hi ⟨g1,x,hfold,invV,nb,hlV,hgc⟩ hbel;have inv:=invV.turn (tbel hbel) (invV.defs.same fun _ h=>hob hbel h);have hl:=hob hbel hlV;have hVl:l<V.heap.size:=(aSP.1 hlV).1;have hnoV: ∀D,V.heap.size<=D->∀o,¬yE g1 (r8 0 (encH x)) D o:=fun D hD o ⟨i,blk,h1,h2⟩=>by
   have:=KY (invV.heap.blk i blk h1) h2;omega
  have hil:i<(items xc).length:=(aSD.1 hi).1;have hdrop:(items xc).drop i=it::(items xc).drop (i+1):=by
   rw[aS4 hil];congr 1;exact(aSD.1 hi).2
  rw[hdrop] at hfold;obtain⟨wv,hw,hinl,hinr⟩:=aKP hfold;obtain⟨evA,evB⟩:=hround it x wv hw hinr;have hvl:(vl it).toArray.size=ps.size:=by
   rw[aTp,(VQ (hsl it g1 W)).1,<-hps it,aTe]
  have hyl:=run_yield (P:=P) (args:=(vl it).toArray) hl (by rw[hrec];exact hvl);rw[hrec] at hyl;refine⟨fn,_,assign,body,hyl,roundIn_of_wpIn trivial ?_⟩;have hz:(ps.zip (vl it).toArray).foldl (fun tmps (t,v)=>tmps.setIfInBounds t v) a.tmps=(ps.toList.zip (vl it)).foldl (fun t (q:Nat×qB)=>t.setIfInBounds q.1 q.2) a.tmps:=by
   rw[<-aUq,Array.toList_zip]
  rw[hz];obtain⟨henv,hsz⟩:=aB9 inv.env (fun q hq=>by rw[hr.size];exact aSZ (aTd.1 hpN q hq)) (hsl it g1 W) (hps it);have hL'len:((encH x).take np').length=np':=by
   rw[aS0];have:=hlen x;rw[VR] at this;omega
  have hLget: ∀i b,((encH x).take np')[i]? =some b->qO (r8 0 (encH x)) i=some b:=fun i b h=>by
   rw[xD];exact(aTf (by have:=(aSD.1 h).1;omega)).symm.trans h
  have hLget2: ∀i b,((encH x).take np')[i]? =some b->qO (r8 0 (encH x)) i=some b/\b≠.dead:=fun i b h=>⟨hLget i b h,fun e=>by
   have:=aTd.1 (hdead x) b (List.mem_of_getElem? h);subst e;cases this⟩
  have hLty: ∀i,i<((encH x).take np').length->∀b,qO (r8 0 (encH x)) i=some b->((encH x).take np')[i]? =some b:=fun i hi b h=>by
   rw[xD] at h;exact(aTf pQ).trans h
  have gs:=tE.start inv.heap hLget2 hLty;have rA:uK W.heap.size g1 W ⟨NR E0 ps.toList (sl it),r8 0 (encH x),rG (encH x),s.N,np'⟩ {tmps:=(ps.toList.zip (vl it)).foldl (fun t (q:Nat×qB)=>t.setIfInBounds q.1 q.2) a.tmps,defers:=[]}:=⟨henv,inv.heap,hsz.trans hr.size,nb,aAV _ _,hlen x⟩;have hlow:L.length<=((encH x).take np').length:=by rw[hL'len,<-hn];exact hnp
  refine aT6 (evA (some l) rfl _ _ g1 W g1 _ W _ (aSJ _) rA gs hL'len.symm) fun e a1 wa hp=>?_;obtain⟨e',g2,s2,e1,e2,e3,e4,e5⟩:=hp;rcases aCc e1 with⟨rfl,rfl⟩ |⟨rfl,rfl⟩ |⟨id,rfl,rfl⟩
  .obtain⟨kA,hkA⟩:=e2;obtain⟨g3,k1,k2,k3,_⟩:=IQ e3 e4 e5 kA;rw[hkA] at k1 k2;have inva:=inv.inner k2 k1.heap hpin hL'len.symm hlow (fun i hi b h=>hLget i b h);have hla:=aCb inv.heap k2 hl rfl;refine⟨_,run_beginRound hla (by rw[hrec]),?_⟩;obtain⟨Wb,hWb⟩: ∃Wb,wa.putObj l (.loop {rec .ready none with state:= .busy})=Wb:=⟨_,rfl⟩
   have tb:uL w0.heap.size wa Wb:=by rw[<-hWb];exact uL.put hla (by show w0.heap.size<=w.heap.size+1;omega) (by show NG<=w.heap.size+1;omega) rfl rfl
   have hlt:=(aSP.1 hla).1;have other: ∀{W:q9}{o o':Obj}{D:Nat},W.heap[l]? =some (.loop (rec .ready none))\/W.heap[l]? =some (.loop {rec .ready none with state:= .busy})->W.heap[D]? =some (.deferred (some []))->(W.putObj l o').heap[D]? =some (.deferred (some [])):=by
    intro W o o' D h1 h2;rw[World.putObj_heap_other (fun e=>by subst e;rcases h1 with h1|h1<;>(rw[h1] at h2;cases h2))]
    exact h2
   have invb:=inva.turn tb (inva.defs.same fun D hD=>by rw[<-hWb];exact other (o:= .loop (rec .ready none)) (.inl hla) hD);have hlb:Wb.heap[l]? =some (.loop {rec .ready none with state:= .busy}):=by rw[<-hWb];exact World.putObj_heap_same hlt
   have hkA: ∀D,V.heap.size<=D->D<W.heap.size->Wb.heap[D]? =W.heap[D]? :=fun D h1 h2=>by
    rw[<-hWb,World.putObj_heap_other pQ];exact k2.fr.blk D h2 (hnoV D h1)
   rw[hWb];have hAg: ∀i,i<np'->qO (r8 0 (encA it x)) i=qO (r8 0 (encH x)) i:=fun i hi=>by
    rw[xD,xD,<-aTf hi,hA it x,aTf hi]
   have hltL: ∀i b,((encH x).take np')[i]? =some b->i<np':=fun i b h=>by
    have:=(aSD.1 h).1;omega
   have gsb:=tE.start invb.heap (fun i b h=>by rw[hAg i (hltL i b h)];exact hLget2 i b h) (fun i hi b h=>hLty i hi b (by rw[<-hAg i pQ];exact h));have rB:uK W.heap.size g3 Wb ⟨E1 it,r8 0 (encA it x),rG (encA it x),s.N,np'⟩ a1:=⟨fun t=>DA (tb.le k1.heap.sl) (k1.env t),invb.heap,k1.size,k1.nb,k1.def_.same fun D hD=>by rw[<-hWb];exact other (o:= .loop (rec .ready none)) (.inl hla) hD,hlenA it x⟩;have hWW:W.heap.size<=Wb.heap.size:=aTn k2.fr.size tb.size;refine aT6 (evB (some l) rfl _ _ g3 Wb g3 a1 Wb _ hWW rB gsb hL'len.symm) fun e a2 wc hp=>?_;obtain⟨e',g4,s4,e1,e2,e3,e4,e5⟩:=hp;have fin: ∀(kB:wC) (Bl:List qJ),s4.keep kB=⟨[],r8 0 Bl,rG Bl,s.N,np'⟩->∀jump:Option Code,∃g5,E5 B A L g0 w0 g w b0 o0 n0 cI E0 a.tmps ds g5 (wc.putObj l (.loop (rec (if jump.isNone then .ready else .done) jump))) (r8 0 Bl)/\
     (∀j,rG Bl<=j->g5.J j=none/\∀n,g5.cur j n=none)/\np'<=rG Bl/\(wc.putObj l (.loop (rec (if jump.isNone then .ready else .done) jump))).heap[l]? =some (.loop (rec (if jump.isNone then .ready else .done) jump))/\
     (Instr.endRound l jump).run P wc= .ok (.bool jump.isNone) (wc.putObj l (.loop (rec (if jump.isNone then .ready else .done) jump)))/\(c<s.np->g5.J c=some p)/\
     ∀D,V.heap.size<=D->D<W.heap.size->(wc.putObj l (.loop (rec (if jump.isNone then .ready else .done) jump))).heap[D]? =W.heap[D]? :=by
    intro kB Bl hkB jump;obtain⟨g5,j1,j2,j3,_⟩:=IQ e3 e4 e5 kB;rw[hkB] at j1 j2;have invc:=invb.inner j2 j1.heap hpin hL'len.symm hlow (fun i hi b h=>by rw[hAg i pQ];exact hLget i b h);have hlc:=aCb invb.heap j2 hlb rfl;have hltc:=(aSP.1 hlc).1;have tc:uL w0.heap.size wc (wc.putObj l (.loop (rec (if jump.isNone then .ready else .done) jump))):=uL.put hlc (by show w0.heap.size<=w.heap.size+1;omega) (by show NG<=w.heap.size+1;omega) rfl rfl;refine⟨g5,invc.turn tc (invc.defs.same fun D hD=>other (o:= .loop (rec .ready none)) (.inr hlc) hD),j1.nb,j1.np,World.putObj_heap_same hltc,?_,fun hcN=>j2.J c p pQ (k2.J c p pQ (hgc hcN)),fun D h1 h2=>?_⟩
    .have:=run_endRound (P:=P) jump hlc;rw[this,hrec]
    rw[World.putObj_heap_other pQ,j2.fr.blk D pQ (fun o ⟨i,blk,h3,h4⟩=>by
     rcases k2.perm i blk D o h3 h4 with h5|h5
     .omega
     exact hnoV D h1 o h5),hkA D h1 h2]
   rcases aCc e1 with⟨rfl,rfl⟩ |⟨rfl,rfl⟩ |⟨id,rfl,rfl⟩
   .obtain⟨kB,x',rfl,hkB⟩:=e2;obtain⟨g5,q1,q2,q3,q4,q5,q6,q7⟩:=fin kB _ hkB none;exact⟨_,_,q5,.inl ⟨rfl,g5,x',hinl x' rfl,q1,q2,q4,q6⟩,q7⟩
   .obtain⟨kB,Bl,hkB,⟨z,rfl⟩,hq⟩:=e2;obtain⟨g5,q1,q2,q3,q4,q5,q6,q7⟩:=fin kB _ hkB (some .ret);exact⟨_,_,q5,.inr ⟨rfl,g5,Bl,.ret,.ret,z,rfl,hinr z rfl,hq,q1,q2,aTn hnp q3,q4⟩,q7⟩
   obtain⟨kB,Bl,hkB,⟨z,rfl⟩,hq⟩:=e2;obtain⟨g5,q1,q2,q3,q4,q5,q6,q7⟩:=fin kB _ hkB (some (.exit id));exact⟨_,_,q5,.inr ⟨rfl,g5,Bl,.exit id,.exit id,z,rfl,hinr z rfl,hq,q1,q2,aTn hnp q3,q4⟩,q7⟩
  .exact e2.elim
  exact e2.elim
 refine⟨l,[{target:= .collected w.heap.size,args:= #[]}],W1,{target:= .fn (.func gf) #[.pointer (some ⟨p.1,p.2,none⟩)],args:= #[.func (.yield l) #[] #[]]},W1,gf,#[.func (.yield l) #[] #[]]++ #[.pointer (some ⟨p.1,p.2,none⟩)],W1,?_,?_,fun _ _=>trivial,?_,fun h=>(by cases h),?_⟩
 .rw[<-hW1,hrec];exact run_enterLoop_outer _ _ _ _ _
 .simp only[resolve,hev];simp [go_sem]
 .simp [invoke,go_sem,hit.1]
 have inv1:=inv0.turn t1 hd1;have hra1:W1.rangeAt p.1 p.2 cs:=fun j v hj=>by
  have h1:=hra j v hj;have h2:p.1<w.heap.size:=Q9 h1;rw[<-h1,<-hW1];exact aSL (a:=⟨p.1,p.2+j,none⟩) ((aST _ _ p.1 pT).trans (aST _ _ p.1 h2))
 refine(aA4 (ro:=none) (n:=0-1) (hit.2 l p.1 p.2 xc cs g w J Jx hpre hRc (fun i W ⟨g1,x,_,h2,_,_,h5⟩=>⟨hrng h2 h5,fun b o hb=>(h2.sld b o hb).2⟩) hJd hJxd (fun i W ⟨g1,x,_,h2,_⟩=>h2.heap.tab.1) hround2 W1 ⟨_,x0,hy,inv1,hr1.nb,hL1,hpJ1⟩ hra1)).mono ?_;have hend: ∀{W:q9}{r:Loop},W.heap[l]? =some (.loop r)->∀{ds0:List Deferred},zT B W ds0->zT B (W.putObj l (.loop {r with state:= .exhausted})) ds0:=by
  intro W r h1 ds0 h2;refine h2.same fun D hD=>?_;rw[World.putObj_heap_other (fun e=>by subst e;rw[h1] at hD;cases hD)];exact hD
 rintro e W2 ⟨⟨v,rfl⟩,(⟨g1,x,h1,h2,h3,h4,_⟩ |⟨g1,Bl,e,cd,z,h1,h2,h3,h4,h5,h6,h7⟩)⟩
 .rw[aTs] at h1;have hyx:y= .inl x:=(aSr h1).symm;have hin:=h2.turn (uL.put (o':= .loop {rec .ready none with state:= .exhausted}) h4 (by show w0.heap.size<=w.heap.size+1;omega) (by show NG<=w.heap.size+1;omega) rfl rfl) (hend h4 h2.defs)
  refine⟨none,W2.putObj l (.loop {rec .ready none with state:= .exhausted}),by have:=run_endLoop (P:=P) h4 (by rw[hrec];simp);rw[hrec] at this|-;exact this,?_⟩
  refine⟨.normal,g1,_,rfl,hdone x hyx,⟨hin.env,hin.heap,hr.size,h3,?_,aTn hnp (hlen x)⟩,hin.good,hn⟩;have:=hin.defs;rw[<-hds] at this;exact this
 have hin:=h4.turn (uL.put (o':= .loop {rec .done (some cd) with state:= .exhausted}) h7 (by show w0.heap.size<=w.heap.size+1;omega) (by show NG<=w.heap.size+1;omega) rfl rfl) (hend h7 h4.defs)
 refine⟨some cd,W2.putObj l (.loop {rec .done (some cd) with state:= .exhausted}),by have:=run_endLoop (P:=P) h7 (by rw[hrec];simp);rw[hrec] at this|-;exact this,?_⟩
 have hdef:=hin.defs;rw[<-hds] at hdef;have hrel:uK B g1 (W2.putObj l (.loop {rec .done (some cd) with state:= .exhausted})) ⟨E0,r8 0 Bl,rG Bl,s.N,s.np⟩ {a with defers:=[{target:= .collected w.heap.size,args:= #[]}]++a.defers}:=⟨hin.env,hin.heap,hr.size,h5,hdef,h6⟩
 cases e with
 |normal=>cases h1
 |ret=>
  obtain rfl:=aSr h1;exact wpIn_ret ⟨.ret,g1,_,rfl,h3,hrel,hin.good,hn⟩
 |exit id=>
  obtain rfl:=aSr h1;exact wpIn_exit ⟨.exit id,g1,_,rfl,h3,hrel,hin.good,hn⟩
theorem aKS {P:Program}{gf:Nat}{u:Ty}{ι:Type}{pre:u.den->Prop}{items:u.den->List ι}{vl:ι->pX}(hit:W5 true P gf u pre items vl) {sl:ι->List qM}(hsl: ∀it g w,vH g w (sl it) (vl it))
  {fo:Operand}{ps:Array Tmp}{assign body:Code}{s:St}{Q:Ex->St->Prop}{c:Nat}{k0:pZ}(hf:tQ s.env fo=(.val .clo (some (gf,[(c,0)])),k0)) {xc:u.den}{toks:pV}(hc:qO s.H c=some (.cells u xc toks)) (hpre:pre xc)
  {σ ρ:Type}{f:ι->σ->Option (σ⊕ρ)}{x0:σ}{y:σ⊕ρ}(hy:FC f (items xc) x0=some y)
  (E0:List (Nat×qM)) (E1:ι->List (Nat×qM)) (encH:σ->List qJ) (encA:ι->σ->List qJ) (np':Nat) (k:wC) (hk:x7 s.np k.ids=true) (h0:s.keep k=⟨E0,r8 0 (encH x0),rG (encH x0),s.N,s.np⟩)
  (hcN:c<s.np) (hpin:LG np' E0=true) (hnp:s.np<=np') (hlen: ∀x,np'<=rG (encH x)) (hdead: ∀x,((encH x).take np').all (fun b=>match b with| .dead=>false|_=>true)=true)
  (hA: ∀it x,(encA it x).take np'=(encH x).take np') (hlenA: ∀it x,np'<=rG (encA it x))
  (hps: ∀it,ps.toList.length=(sl it).length) (hpN:(ps.toList.all fun p=>decide (p<s.N))=true)
  (hround: ∀it x w,f it x=some w->(∀z,w= .inr z->y= .inr z)->Ev true P assign ⟨NR E0 ps.toList (sl it),r8 0 (encH x),rG (encH x),s.N,np'⟩ (qA ⟨E1 it,r8 0 (encA it x),rG (encA it x),s.N,np'⟩)/\
   Ev true P body ⟨E1 it,r8 0 (encA it x),rG (encA it x),s.N,np'⟩ (qF encH E0 s.N s.np np' w Q))
  (hdone: ∀x,y= .inl x->Q .normal ⟨E0,r8 0 (encH x),rG (encH x),s.N,s.np⟩):Ev false P (.rangeFunc fo ps assign body) s Q:=
 aKR hit hsl hf hc hpre hy E0 E1 encH encA np' k hk h0 (.inr (.inr ⟨hcN,rfl⟩)) hpin hnp hlen hdead hA hlenA hps hpN hround hdone
section
variable {σ ρ:Type}{encH:σ->List qJ}{E0:List (Nat×qM)}{N np np':Nat}{w:σ⊕ρ}{Q:Ex->St->Prop}{st s:St}
theorem aKT (k:wC) (h:s.keep k=st):qA st .normal s:=⟨k,h⟩
theorem aKU (k:wC) (x:σ) (hw:w= .inl x) (h:s.keep k=⟨[],r8 0 (encH x),rG (encH x),N,np'⟩):qF encH E0 N np np' w Q .normal s:=⟨k,x,hw,h⟩
end
end Go.Proofs.YtcpbaddnmpeipaaGreatDoor.Vc
namespace Go.Proofs.YtcpbaddnmpeipaaGreatDoor
open Go.RowKit Go.Shelf Vc
section
attribute [local go_sem] Oper.semAt_some
theorem NS: ∀(s:pM) (c:UInt8),Lib.indexByte s c<s.length/\ -1<=Lib.indexByte s c
 |[],_=>by simp [Lib.indexByte]
 |b::l,c=>by
  have:=NS l c;unfold Lib.indexByte;split
  .simp
  split
  .simp;omega
  simp only[aSt];omega
end
end Go.Proofs.YtcpbaddnmpeipaaGreatDoor
namespace Go.Proofs.YtcpbaddnmpeipaaGreatDoor
open Go.RowKit Go.Shelf Vc
open Tryz
section
attribute [local go_sem] Oper.semAt_some
abbrev w6:Type:=(Ty.pair .str (.pair .str .unit)).den
def QV (s:(Ty.list (.pair .str (.pair .str .unit))).den):List w6:=s
def a1K (it:w6):pX:=[.agg #[.string ⟨it.1.toArray⟩,.string ⟨it.2.1.toArray⟩]]
@[go_sem] def aCd (it:w6):List qM:=[(.val (.pair .str (.pair .str .unit)) it,none)]
theorem aKV (it:w6) (g:Gh) (w:q9):vH g w (aCd it) (a1K it):=
 ⟨_,_,rfl,⟨.inl ⟨rfl,[_,_],rfl,[_],[_],rfl,rfl,[_],[],rfl,rfl,rfl⟩,trivial⟩,rfl⟩
theorem aKW:W5 true prog 186 (.list (.pair .str (.pair .str .unit))) (fun d=>List.length d<=4611686018427387904) QV a1K:=by
 refine⟨fun _ _=>rfl,?_⟩;intro l b o (d:List w6) cs g W0 J Jx hpre hR hrd hJd hJxd hJt hY W h0 hra;obtain⟨a,cap,rfl,hcap,hel⟩:=hR;have hpre:d.length<=4611686018427387904:=hpre;have c0:W.cell? ⟨b,o,none⟩=some (.slice a d.length cap):=by simpa using hra 0 _ rfl
 have re: ∀j,j<d.length->∃b' o',a=some ⟨b',o',none⟩/\∀i W,J i W->W.cell? ⟨b',o'+j*2,none⟩=some (.string ⟨(d.getD j ([],[],())).1.toArray⟩)/\W.cell? ⟨b',o'+j*2+1,none⟩=some (.string ⟨(d.getD j ([],[],())).2.1.toArray⟩):=by
  intro j hj;rcases hel with h|⟨b',o',h1,h2⟩
  .rw[h] at hj;cases hj
  refine⟨b',o',h1,fun i W h=>?_⟩;have hg:d[j]? =some (d.getD j ([],[],())):=by rw[aSO,aSv hj];rfl
  obtain⟨cs,k1,k2,k3,k4⟩:=NE h2 hg;generalize d.getD j ([],[],())=x at k4;obtain⟨c3,c4,rfl,e1,c5,c6,rfl,e2,e3⟩:=k4;rw[show c3=[.string ⟨x.1.toArray⟩] from e1,show c5=[.string ⟨x.2.1.toArray⟩] from e2,show c6=[] from e3] at k2;have k5:=k2 0 _ rfl;have k6:=k2 1 _ rfl;have k7:=k3 0 pR;have k8:=k3 1 pR;rw[aTv] at k5 k7;exact⟨((hrd i W h).2 _ _ k7).trans k5,((hrd i W h).2 _ _ k8).trans k6⟩
 have qm: ∀j,j<d.length->(QV d)[j]? =some (d.getD j ([],[],())):=fun j hj=>by
  show d[j]? =_;rw[aSO,aSv hj];rfl
 have qn:(QV d).length=d.length:=rfl;generalize hn:d.length=n at*;refine(callsIn_wide (n:=0)).1 (callsIn_of_wp func186 rfl trivial ?_);simp only[Tryz.ntmps186,aTp,aSt,aSF,Nat.reduceAdd,Nat.reduceSub,Array.replicate_succ,Array.replicate_zero,List.push_toArray,List.append_toArray,List.nil_append,List.cons_append]
 gi_wp2
 gi_loopw [7] (fun p wr=> ∃k:Nat,k<=n/\p= .int .i64 k/\J k wr) (fun p _=>n- (RowKit.intOf p).toNat)
 case atStart=>exact⟨0,aTo _,rfl,h0⟩
 case round=>
  obtain⟨k,hk,rfl,hJs⟩:=hrel;by_cases hlt:k<n
  .obtain⟨b',o',rfl,hce⟩:=re k hlt;obtain⟨hc1,hc2⟩:=hce _ _ hJs;have hq:=qm k hlt;clear re qm hce;generalize d.getD k ([],[],())=x at hc1 hc2 hq;have hb2:Below wr.heap.size wr (wr.alloc (.cells #[.string ⟨x.1.toArray⟩,.string ⟨x.2.1.toArray⟩] 110)):=(Below.refl _ _).alloc (aSJ _) _;obtain⟨fn,tmps,assign,body,hy,hQ⟩:=hY _ _ _ _ hq hJs hb2;dsimp only[a1K] at hy
   gi_wp2
   refine⟨rfl,hQ.mono ?_⟩;clear hQ hy;rintro e W2 ⟨h12,-⟩;rcases h12 with⟨rfl,hJ2⟩ |⟨rfl,hJx⟩
   .gi_wp2
    go_roundw
    case rel=>exact⟨k+1,pQ,by simp,hJ2⟩
    case measure=>
     show n- (k+1)<n-k;omega
   gi_wp2
   refine bodyPost_ret (results_none rfl _ _ _) rfl ?_;exact⟨⟨_,rfl⟩,.inr hJx⟩
  obtain rfl:k=n:=by omega
  gi_wp2
  go_end0
  exact⟨⟨_,rfl⟩,.inl (by rw[qn];exact hJs)⟩
end
end Go.Proofs.YtcpbaddnmpeipaaGreatDoor
namespace Go.Proofs.YtcpbaddnmpeipaaGreatDoor
open Vc Go.RowKit
def FD (g:Gh) (k n:Nat) (v:qB):Gh:={g with cur:=fun i m=>if i=k then(if m=n then some v else none) else g.cur i m}
theorem DE (g:Gh) (k n:Nat) (v:qB):(FD g k n v).cur k n=some v:=by simp [FD]
theorem a1L (g:Gh) (k n:Nat) (v:qB) {m:Nat}(h:n<m):(FD g k n v).cur k m=none:=by
 simp only[FD,aTW];rw[aSo pQ]
theorem aKX {g:Gh}{w w':q9}{e:TypeId}{l l':pN}{n m b cap:Nat}{cur':Array qB}{side:List Prop}
  (hH:sE g w (r8 0 [.row e .str l n])) (hcur:g.cur 0 n=some (.slice (some ⟨b,0,none⟩) n cap))
  (hcm:cap<=maxLen) (hmc:m<=cap) (hl':l'.length=m)
  (hnew:w'.heap[b]? =some (.cells cur' e (0,0))) (hcs':cur'.size=cap) (htk:cur'.toList.take m=l'.map Go.Proofs.encStr) (hgr:w.grownBy w' (some b)):
  ∃g',F8 g w [.row e .str l n] ⟨side,[(.own 1 m,none)],[.dead,.row e .str l' m]⟩ g' w' (.slice (some ⟨b,0,none⟩) m cap):=by
 have hg0:qO (r8 0 [qJ.row e .str l n]) 0=some (.row e .str l n):=rfl;obtain⟨hl,v,xs,hc2,hown,hF,hnone,hseal⟩:=hH.blk 0 _ hg0;rw[hcur] at hc2;obtain rfl:=aSr hc2;have hb0: ∀o,yE g (r8 0 [qJ.row e .str l n]) b o:=fun o=>⟨0,_,hg0,_,hcur,rfl⟩;have hNG:NG<=b:=hH.tab.2 0 _ b 0 hg0 ⟨_,hcur,rfl⟩;have hS: ∀b' o,g.S b' o->b'≠b:=fun b' o h e1=>hseal b rfl o (e1▸h);have hcell: ∀b' o,g.S b' o->w'.cell? ⟨b',o,none⟩=w.cell? ⟨b',o,none⟩:=fun b' o h=>aSL (a:=⟨b',o,none⟩) (hgr.block b' (hH.sl b' o h) (fun e1=>hS b' o h (aSr e1)));refine⟨FD g 1 m (.slice (some ⟨b,0,none⟩) m cap),fun b' o h=>⟨h,hcell b' o h⟩,⟨fun i blk h=>?_,fun i j bi bj b' o hij hi hj ho hp=>?_,fun b' o h=>aSY (hH.sl b' o h) hgr.size,I3 hH.tab.1 hgr.size fun b' h=>hgr.block b' (aSY h hH.tab.1.1) (fun e1=>by have:=aSr e1;omega),fun i blk b' o h ho=>?_⟩,⟨⟨DE ..,.inr ⟨b,cap,rfl,hmc⟩⟩,trivial⟩,⟨hgr.os,hgr.tape,hgr.output,hgr.size,fun b' hb hn=>hgr.block b' hb fun e1=>hn 0 (by rw[aSr e1];exact hb0 0),fun b' o hb hn=>?_,fun b' o h=> .inl h,fun b' s h=>?_⟩,fun i blk b' o h ho=>?_,fun _ _ _ _ _=>rfl,fun i t x ts u y us h=>?_,fun i p hi h=>h,fun i q u hi h=>?_⟩
 .match i,h with
  |0,h=>cases h;trivial
  |1,h=>
   cases h;refine⟨hl',_,l'.map Go.Proofs.encStr,DE ..,⟨by simp [hl',Ty.cells],.inr ⟨b,cap,cur',rfl,aTo _,hnew,hmc,hcm,by simpa[Ty.cells] using hcs',by simpa[Ty.cells] using htk⟩⟩,a1G _,fun q hq=>a1L g 1 m _ hq,fun b' hb o hs=>?_⟩;cases hb;exact hseal b rfl o hs
  |i+2,h=>simp [r8,qO] at h
 .match i,j,hi,hj with
  |0,_,hi,_=>cases hi;exact ho
  |_,0,_,hj=>cases hj;exact hp
  |1,1,_,_=>exact hij rfl
  |i+2,_,hi,_=>simp [r8,qO] at hi
  |1,j+2,_,hj=>simp [r8,qO] at hj
 .match i,h with
  |0,h=>cases h;exact ho.elim
  |1,h=>
   cases h;obtain⟨v,h1,h2⟩:=ho;rw[DE] at h1;obtain rfl:=aSr h1;cases h2;exact hNG
  |i+2,h=>simp [r8,qO] at h
 .have hne:b'≠b:=fun e1=>hn (e1▸hb0 o);have:=hgr.block b' hb (fun e1=>hne (aSr e1));exact⟨aSL (a:=⟨b',o,none⟩) this,aS9 (a:=⟨b',o,none⟩) this⟩
 .by_cases e1:b'=b
  .exact .inr fun o=>e1▸hb0 o
  exact .inl ((BT (hgr.block b' (BS h) (fun e2=>e1 (aSr e2)))).trans h)
 .match i,h with
  |0,h=>cases h;exact ho.elim
  |1,h=>
   cases h;obtain⟨v,h1,h2⟩:=ho;rw[DE] at h1;obtain rfl:=aSr h1;cases h2;exact .inr (hb0 o)
  |i+2,h=>simp at h
 .match i,h with
  |0,h=>cases h
  |i+1,h=>simp at h
 match i,hi with
 |0,_=>simpa[FD] using h
theorem aKY {g:Gh}{w:q9}{e:TypeId}{l:pN}{side:List Prop}
  (hH:sE g w (r8 0 [.row e .str l 0])) {v:qB}(hcur:g.cur 0 0=some v):
  ∃g',F8 g w [.row e .str l 0] ⟨side,[(.own 1 0,none)],[.dead,.row e .str [] 0]⟩ g' w v:=by
 have hg0:qO (r8 0 [qJ.row e .str l 0]) 0=some (.row e .str l 0):=rfl;obtain⟨hl,v',xs,hc2,hown,hF,hnone,hseal⟩:=hH.blk 0 _ hg0;rw[hcur] at hc2;obtain rfl:=aSr hc2;have hb0: ∀b o,v.ownBlock=some b->yE g (r8 0 [qJ.row e .str l 0]) b o:=fun b o h=>⟨0,_,hg0,_,hcur,h⟩;have hv:(v= .slice none 0 0/\0=0)\/∃b cap,v= .slice (some ⟨b,0,none⟩) 0 cap/\0<=cap:=by
  rcases hown.2 with⟨h1,h2⟩ |⟨b,cap,cur,h1,_,_,h2,_⟩
  .exact .inl ⟨h1,rfl⟩
  exact .inr ⟨b,cap,h1,h2⟩
 refine⟨FD g 1 0 v,fun b' o h=>⟨h,rfl⟩,⟨fun i blk h=>?_,fun i j bi bj b' o hij hi hj ho hp=>?_,hH.sl,hH.tab.1,fun i blk b' o h ho=>?_⟩,⟨⟨DE ..,hv⟩,trivial⟩,Fr.refl _ _ _,fun i blk b' o h ho=>?_,fun _ _ _ _ _=>rfl,fun i t x ts u y us h=>?_,fun i p hi h=>h,fun i q u hi h=>?_⟩
 .match i,h with
  |0,h=>cases h;trivial
  |1,h=>
   cases h;have hx:xs=[]:=by
    have:=hown.1;simpa using this
   subst hx;exact⟨rfl,v,[],DE ..,hown,rfl,fun q hq=>a1L g 1 0 _ hq,hseal⟩
  |i+2,h=>simp [r8,qO] at h
 .match i,j,hi,hj with
  |0,_,hi,_=>cases hi;exact ho
  |_,0,_,hj=>cases hj;exact hp
  |1,1,_,_=>exact hij rfl
  |i+2,_,hi,_=>simp [r8,qO] at hi
  |1,j+2,_,hj=>simp [r8,qO] at hj
 .match i,h with
  |0,h=>cases h;exact ho.elim
  |1,h=>
   cases h;obtain⟨v',h1,h2⟩:=ho;rw[DE] at h1;obtain rfl:=aSr h1;exact hH.tab.2 0 _ b' o hg0 ⟨_,hcur,h2⟩
  |i+2,h=>simp [r8,qO] at h
 .match i,h with
  |0,h=>cases h;exact ho.elim
  |1,h=>
   cases h;obtain⟨v',h1,h2⟩:=ho;rw[DE] at h1;obtain rfl:=aSr h1;exact .inr (hb0 b' o h2)
  |i+2,h=>simp at h
 .match i,h with
  |0,h=>cases h
  |i+1,h=>simp at h
 match i,hi with
 |0,_=>simpa[FD] using h
end Go.Proofs.YtcpbaddnmpeipaaGreatDoor
namespace Go.Proofs
open Go.RowKit Go.Lib
open Tryz
def Tryz.lays219_ren:Go.Shelf.Ren:=⟨fun|219=>110|217=>139|225=>140|224=>141|267=>142|266=>174|314=>175|n=>n,fun|9=>9|3=>3|4=>4|5=>5|46=>176|146=>203|51=>202|n=>n,fun|1=>0|n=>n⟩
theorem Tryz.lays219:Go.Proofs.Lays.n219 prog Tryz.lays219_ren:={
 mixed:=by kernel_rfl
 f217:=Tryz.func139.trans (aSM some qD)
 f219:=Tryz.func110.trans (aSM some qD)
 f224:=Tryz.func141.trans (aSM some qD)
 f225:=Tryz.func140.trans (aSM some qD)
 f266:=Tryz.func174.trans (aSM some qD)
 f267:=Tryz.func142.trans (aSM some qD)
 f314:=Tryz.func175.trans (aSM some qD)
 t3:=Tryz.underlying3
 a3:=Tryz.isAgg3
 z3:=Tryz.sizeOf3
 v3:=Tryz.zeroValue3
 t4:=Tryz.underlying4
 a4:=Tryz.isAgg4
 z4:=Tryz.sizeOf4
 v4:=Tryz.zeroValue4
 t5:=Tryz.underlying5
 a5:=Tryz.isAgg5
 z5:=Tryz.sizeOf5
 v5:=Tryz.zeroValue5
 t9:=Tryz.underlying9
 a9:=Tryz.isAgg9
 z9:=Tryz.sizeOf9
 v9:=Tryz.zeroValue9
 t46:=Tryz.underlying176
 a46:=Tryz.isAgg176
 z46:=Tryz.sizeOf176
 v46:=Tryz.zeroValue176
 t51:=Tryz.underlying202
 a51:=Tryz.isAgg202
 z51:=Tryz.sizeOf202
 v51:=Tryz.zeroValue202
 t146:=Tryz.underlying203
 a146:=Tryz.isAgg203
 z146:=Tryz.sizeOf203
 v146:=Tryz.zeroValue203
 g1:=by kernel_rfl}
def Tryz.lays156_ren:Go.Shelf.Ren:=⟨fun|156=>72|165=>104|166=>52|169=>53|240=>78|241=>135|276=>109|277=>172|n=>n,fun|31=>23|9=>9|3=>3|4=>4|0=>0|20=>20|72=>82|76=>88|70=>79|37=>80|75=>87|127=>115|164=>146|5=>5|80=>90|n=>n,fun|n=>n⟩
theorem Tryz.lays156:Go.Proofs.Lays.n156 prog Tryz.lays156_ren:={
 mixed:=by kernel_rfl
 f156:=Tryz.func72.trans (aSM some qD)
 f165:=Tryz.func104.trans (aSM some qD)
 f166:=Tryz.func52.trans (aSM some qD)
 f169:=Tryz.func53.trans (aSM some qD)
 f240:=Tryz.func78.trans (aSM some qD)
 f241:=Tryz.func135.trans (aSM some qD)
 f276:=Tryz.func109.trans (aSM some qD)
 f277:=Tryz.func172.trans (aSM some qD)
 t0:=Tryz.underlying0
 a0:=Tryz.isAgg0
 z0:=Tryz.sizeOf0
 v0:=Tryz.zeroValue0
 t3:=Tryz.underlying3
 a3:=Tryz.isAgg3
 z3:=Tryz.sizeOf3
 v3:=Tryz.zeroValue3
 t4:=Tryz.underlying4
 a4:=Tryz.isAgg4
 z4:=Tryz.sizeOf4
 v4:=Tryz.zeroValue4
 t9:=Tryz.underlying9
 a9:=Tryz.isAgg9
 z9:=Tryz.sizeOf9
 v9:=Tryz.zeroValue9
 t20:=Tryz.underlying20
 a20:=Tryz.isAgg20
 z20:=Tryz.sizeOf20
 v20:=Tryz.zeroValue20
 t31:=Tryz.underlying23
 a31:=Tryz.isAgg23
 z31:=Tryz.sizeOf23
 v31:=Tryz.zeroValue23
 t37:=Tryz.underlying80
 a37:=Tryz.isAgg80
 z37:=Tryz.sizeOf80
 v37:=Tryz.zeroValue80
 t70:=Tryz.underlying79
 a70:=Tryz.isAgg79
 z70:=Tryz.sizeOf79
 v70:=Tryz.zeroValue79
 t72:=Tryz.underlying82
 a72:=Tryz.isAgg82
 z72:=Tryz.sizeOf82
 v72:=Tryz.zeroValue82
 t75:=Tryz.underlying87
 a75:=Tryz.isAgg87
 z75:=Tryz.sizeOf87
 v75:=Tryz.zeroValue87
 t76:=Tryz.underlying88
 a76:=Tryz.isAgg88
 z76:=Tryz.sizeOf88
 v76:=Tryz.zeroValue88
 t127:=Tryz.underlying115
 a127:=Tryz.isAgg115
 z127:=Tryz.sizeOf115
 v127:=Tryz.zeroValue115
 t164:=Tryz.underlying146
 a164:=Tryz.isAgg146
 z164:=Tryz.sizeOf146
 v164:=Tryz.zeroValue146}
def Tryz.lays194_ren:Go.Shelf.Ren:=⟨fun|194=>164|n=>n,fun|31=>23|9=>9|3=>3|4=>4|0=>0|n=>n,fun|n=>n⟩
theorem Tryz.lays194:Go.Proofs.Lays.n194 prog Tryz.lays194_ren:={
 mixed:=by kernel_rfl
 f194:=Tryz.func164.trans (aSM some qD)
 t0:=Tryz.underlying0
 a0:=Tryz.isAgg0
 z0:=Tryz.sizeOf0
 v0:=Tryz.zeroValue0
 t3:=Tryz.underlying3
 a3:=Tryz.isAgg3
 z3:=Tryz.sizeOf3
 v3:=Tryz.zeroValue3
 t4:=Tryz.underlying4
 a4:=Tryz.isAgg4
 z4:=Tryz.sizeOf4
 v4:=Tryz.zeroValue4
 t9:=Tryz.underlying9
 a9:=Tryz.isAgg9
 z9:=Tryz.sizeOf9
 v9:=Tryz.zeroValue9
 t31:=Tryz.underlying23
 a31:=Tryz.isAgg23
 z31:=Tryz.sizeOf23
 v31:=Tryz.zeroValue23}
def Tryz.lays153_ren:Go.Shelf.Ren:=⟨fun|153=>146|152=>177|226=>178|227=>112|228=>143|137=>133|119=>199|224=>141|225=>140|217=>139|266=>174|n=>n,fun|9=>9|3=>3|4=>4|5=>5|21=>21|117=>152|116=>151|0=>0|46=>176|124=>155|n=>n,fun|n=>n⟩
theorem Tryz.lays153:Go.Proofs.Lays.n153 prog Tryz.lays153_ren:={
 mixed:=by kernel_rfl
 f119:=Tryz.func199.trans (aSM some qD)
 f137:=Tryz.func133.trans (aSM some qD)
 f152:=Tryz.func177.trans (aSM some qD)
 f153:=Tryz.func146.trans (aSM some qD)
 f217:=Tryz.func139.trans (aSM some qD)
 f224:=Tryz.func141.trans (aSM some qD)
 f225:=Tryz.func140.trans (aSM some qD)
 f226:=Tryz.func178.trans (aSM some qD)
 f227:=Tryz.func112.trans (aSM some qD)
 f228:=Tryz.func143.trans (aSM some qD)
 f266:=Tryz.func174.trans (aSM some qD)
 t0:=Tryz.underlying0
 a0:=Tryz.isAgg0
 z0:=Tryz.sizeOf0
 v0:=Tryz.zeroValue0
 t3:=Tryz.underlying3
 a3:=Tryz.isAgg3
 z3:=Tryz.sizeOf3
 v3:=Tryz.zeroValue3
 t4:=Tryz.underlying4
 a4:=Tryz.isAgg4
 z4:=Tryz.sizeOf4
 v4:=Tryz.zeroValue4
 t5:=Tryz.underlying5
 a5:=Tryz.isAgg5
 z5:=Tryz.sizeOf5
 v5:=Tryz.zeroValue5
 t9:=Tryz.underlying9
 a9:=Tryz.isAgg9
 z9:=Tryz.sizeOf9
 v9:=Tryz.zeroValue9
 t21:=Tryz.underlying21
 a21:=Tryz.isAgg21
 z21:=Tryz.sizeOf21
 v21:=Tryz.zeroValue21
 t46:=Tryz.underlying176
 a46:=Tryz.isAgg176
 z46:=Tryz.sizeOf176
 v46:=Tryz.zeroValue176
 t116:=Tryz.underlying151
 a116:=Tryz.isAgg151
 z116:=Tryz.sizeOf151
 t117:=Tryz.underlying152
 a117:=Tryz.isAgg152
 z117:=Tryz.sizeOf152
 v117:=Tryz.zeroValue152
 t124:=Tryz.underlying155
 a124:=Tryz.isAgg155
 z124:=Tryz.sizeOf155
 v124:=Tryz.zeroValue155}
theorem Tryz.builderExtraJ:Builder.Extra prog Tryz.lays156_ren:={
 sizeBuilder:=by kernel_rfl
 liesBuilder:=by kernel_rfl
 t5:=Tryz.underlying5
 a5:=Tryz.isAgg5
 z5:=Tryz.sizeOf5
 v5:=Tryz.zeroValue5
 infoByte:=by kernel_rfl
 cellsByte:=by kernel_rfl
 sizeByte:=by kernel_rfl
 neB5:=by decide}
def Tryz.lays106_ren:Go.Shelf.Ren:=⟨fun|106=>153|213=>187|265=>205|n=>n,fun|9=>9|3=>3|n=>n,fun|n=>n⟩
theorem Tryz.lays106:Go.Proofs.Lays.n106 prog Tryz.lays106_ren:={
 mixed:=by kernel_rfl
 f106:=Tryz.func153.trans (aSM some qD)
 f213:=Tryz.func187.trans (aSM some qD)
 f265:=Tryz.func205.trans (aSM some qD)
 t3:=Tryz.underlying3
 a3:=Tryz.isAgg3
 z3:=Tryz.sizeOf3
 v3:=Tryz.zeroValue3
 t9:=Tryz.underlying9
 a9:=Tryz.isAgg9
 z9:=Tryz.sizeOf9
 v9:=Tryz.zeroValue9}
end Go.Proofs
namespace Go.Proofs.YtcpbaddnmpeipaaGreatDoor
open Vc Go.RowKit
open Tryz
theorem aKZ {g:Gh}{w:q9}{e:TypeId}{l:pN}{n:Nat}{v:qB}(hH:sE g w (r8 0 [.row e .str l n])) (hv:rO g w (.own 0 n,none) v):
  l.length=n/\g.cur 0 n=some v/\((v= .slice none 0 0/\n=0)\/∃b cap cur,v= .slice (some ⟨b,0,none⟩) n cap/\w.heap[b]? =some (.cells cur e (0,0))/\n<=cap/\cap<=maxLen/\cur.size=cap/\Go.Sort.Holds Go.Proofs.encStr w b 0 l.toArray/\b<w.heap.size):=by
 have hg0:qO (r8 0 [qJ.row e .str l n]) 0=some (.row e .str l n):=rfl;obtain⟨hl,v',xs,hcur,hown,hF,hnone,hseal⟩:=hH.blk 0 _ hg0;have hva:v=v':=by
  have:=hv.1.1;rw[hcur] at this;exact(aSr this).symm
 subst hva;subst hl;refine⟨rfl,hcur,?_⟩;obtain⟨hx,⟨rfl,h0⟩ |⟨b,cap,cur,rfl,hb0,hbk,hnc,hcm,hcs,htk⟩⟩:=hown
 .exact .inl ⟨rfl,h0⟩
 have hxs:=a1F hF;subst hxs;have hc1:(Ty.str).cells=1:=rfl;rw[hc1,aUd] at hcs htk;refine .inr ⟨b,cap,cur,rfl,hbk,hnc,hcm,hcs,?_,?_⟩
 .intro j hj;have hj':j<l.length:=by simpa using hj
  refine⟨?_,Lib.frozen_of_heap hbk _⟩;rw[Lib.cell_of_heap hbk,aSU];have h2:(cur.toList.take l.length)[j]? =(l.map Go.Proofs.encStr)[j]? :=by rw[htk]
  rw[aTf hj',aTk] at h2;rw[h2];simp [hj']
 rcases aTE b w.heap.size with h|h
 .exact h
 rw[Array.getElem?_eq_none h] at hbk;cases hbk
theorem aK0 {g:Gh}{w:q9}{e:TypeId}{l l':pN}{n q b cap:Nat}{cur:Array qB}{side:List Prop}{pad:pN}
  (hH:sE g w (r8 0 [.row e .str l n])) (hcur:g.cur 0 n=some (.slice (some ⟨b,0,none⟩) n cap)) (hbk:w.heap[b]? =some (.cells cur e (0,0))) (hcs:cur.size=cap)
  (hcm:cap<=maxLen) (hp:l'.length+pad.length<=cap):
  ∃g',F8 g w [.row e .str l n] ⟨side,[(.own 1 l'.length,none)],[.dead,.row e .str l' l'.length]⟩ g' (Go.Sort.putRow Go.Proofs.encStr (Go.Sort.ahead w q) b 0 (l'++pad).toArray) (.slice (some ⟨b,0,none⟩) l'.length cap):=by
 refine aKX (cur':=Go.Sort.putCells Go.Proofs.encStr 0 (l'++pad).toArray cur) hH hcur hcm pQ rfl ?_ (by simpa[Go.Sort.putCells] using hcs) ?_ ⟨rfl,rfl,rfl,by simp,fun k hk hne=>?_⟩
 .simp [Go.Sort.putRow,Go.Sort.mapBlock,aTl,hbk,Go.Sort.onCells]
 .have h1:=aB1 (l'++pad) cur (by rw[aSp];omega);have h2:=aSM (List.take l'.length) h1;rw[List.take_take,aSp,Nat.min_eq_left (Nat.le_add_right _ _),List.map_append,aT7 pS] at h2;exact h2.trans (List.take_of_length_le pS)
 have hkb:b≠k:=fun h=>hne (by rw[h]);simp [Go.Sort.putRow,Go.Sort.mapBlock,aTl,hkb]
@[go_sem] def W6:List qM->List qJ->Option qY
 |[(.own 0 n,none)],[.row 9 .str l n2]=>some ⟨[n=n2,n2<=9223372036854775807],[(.own 1 (List.length (Lib.compact l)),none)],[.dead,.row 9 .str (Lib.compact l) (List.length (Lib.compact l))]⟩
 |_,_=>none
theorem aCe:wP prog 164 W6:=by
 refine⟨fun _ _=>rfl,fun g w args vals L r hH ha hC hs=>?_⟩;unfold W6 at hC;split at hC
 .rename_i n l n2;cases hC;obtain rfl:n=n2:=hs _ pS;have hn:=hs (n<=9223372036854775807) pS;clear hs;obtain⟨va,_,rfl,ra,hv⟩:=ha;cases hv;obtain⟨hl,hcur,⟨rfl,rfl⟩ |⟨b,cap,cur,rfl,hbk,hnc,hcm,hcs,hho,hb⟩⟩:=aKZ hH ra
  .obtain rfl:l=[]:=aTj.1 hl;refine(Any.slices_Compact_string_empty Tryz.lays194 none 0 w).mono ?_;rintro en w' ⟨rfl,rfl⟩;obtain⟨g',hg⟩:=aKY (side:=[]) hH hcur;exact⟨_,g',rfl,hg.shut,hg.heap,hg.ret,hg.fr,hg.perm,hg.J,hg.ty,hg.Jt,hg.cur⟩
  subst hl;refine(Any.slices_Compact_string Tryz.lays194 b 0 cap l w hho hn hnc).mono ?_;rintro en w' ⟨rfl,q,rfl⟩;obtain⟨g',hg⟩:=aK0 (side:=[]) (q:=q) (l':=Lib.compact l) (pad:=List.replicate (l.length- (Lib.compact l).length) []) hH hcur hbk hcs hcm (by have:=Lib.compact_length_le l;simp;omega);exact⟨_,g',rfl,hg.shut,hg.heap,hg.ret,hg.fr,hg.perm,hg.J,hg.ty,hg.Jt,hg.cur⟩
 cases hC
@[go_sem] def W7:List qM->List qJ->Option qY
 |[(.val .str O,none),(.val .str Z,none)],[]=>some ⟨[List.length O<4294967281],[(.val (.int .i64) (FB O Z),none)],[]⟩
 |_,_=>none
theorem aCf:wP prog 110 W7:=by
 refine GU (fun _ _=>rfl) fun g w args vals L r hT ha hC hs=>?_;unfold W7 at hC;split at hC
 .rename_i s c;cases hC;have h1:=hs _ aSH;obtain⟨va,_,rfl,ra,vb,_,rfl,rb,hv⟩:=ha;obtain rfl:=wI ra.1;obtain rfl:=wI rb.1;cases hv;obtain⟨m,hm⟩:=hT.2.2.1;exact⟨rfl,rfl,(VV (Any.stringslite_Index Tryz.lays219 ⟨List.toArray s⟩ ⟨List.toArray c⟩ m w h1 hm)).mono fun e w' ⟨he,hb⟩=>⟨_,he,hb,wF _ _ _ _,trivial⟩⟩
 cases hC
def zW (l:pN) (sep:pM):pM:=Lib.join l sep
@[go_sem] def W8:List qM->List qJ->Option qY
 |[(.val (.list .str) l,none),(.val .str c,none)],[]=>some ⟨[List.length l<=140737488355328/\List.length (zW l c)<=140737488355328],[(.val .str (zW l c),none)],[]⟩
 |_,_=>none
theorem aCg:wP prog 72 W8:=by
 refine GU (fun _ _=>rfl) fun g w args vals L r hT ha hC hs=>?_;unfold W8 at hC;split at hC
 .rename_i l c;cases hC;obtain⟨h1,h2⟩:=hs _ aSH;obtain⟨va,_,rfl,ra,vb,_,rfl,rb,hv⟩:=ha;obtain⟨a,cap,rfl,hcap,hlist⟩:=DT ra.1;obtain rfl:=wI rb.1;cases hv;refine⟨rfl,rfl,?_⟩;unfold zW at h2;have hxm:(l.map fun x=>(⟨x.toArray⟩:ByteArray)).map (·.data.toList)=l:=by
   rw[List.map_map];exact(List.map_congr_left fun x _=>rfl).trans (List.map_id l)
  rcases l with _|⟨x,_|⟨y,r⟩⟩
  .exact(VV (Any.strings_Join_none Tryz.lays156 Tryz.builderExtraJ a cap ⟨List.toArray c⟩ w)).mono fun e w' ⟨he,hb⟩=>⟨_,he,hb,DB _ _ _,trivial⟩
  .rcases hlist with h|⟨b,o,rfl,hL⟩
   .cases h
   obtain⟨cs,k1,k2,k3,k4⟩:=NE hL (i:=0) (x:=x) rfl;rw[show cs=[.string ⟨List.toArray x⟩] from k4] at k2;have k5:=k2 0 _ rfl;rw[Nat.zero_mul,aTv] at k5;exact(VV (Any.strings_Join_one Tryz.lays156 Tryz.builderExtraJ b o cap ⟨List.toArray x⟩ ⟨List.toArray c⟩ w k5)).mono fun e w' ⟨he,hb⟩=>⟨_,he,hb,(by rw[show zW [x] c=x from Lib.join_one x c];exact DB _ _ _),trivial⟩
  rcases hlist with h|⟨b,o,rfl,hL⟩
  .cases h
  have hc: ∀(j:Nat) z,((x::y::r).map fun x=>(⟨List.toArray x⟩:ByteArray))[j]? =some z->w.cell? ⟨b,o+j,none⟩=some (.string z):=by
   intro j z hz;rw[List.getElem?_map] at hz;obtain⟨u,hu,rfl⟩:=aSE.1 hz;obtain⟨cs,k1,k2,k3,k4⟩:=NE hL hu;rw[show cs=[.string ⟨List.toArray u⟩] from k4] at k2;have k5:=k2 0 _ rfl;rw[aTv,show j*Ty.str.cells=j from aUd j] at k5;exact k5
  have h0:=hc 0 _ rfl;have:=Any.strings_Join_many Tryz.lays156 Tryz.builderExtraJ b o cap ((x::y::r).map fun x=>(⟨List.toArray x⟩:ByteArray)) ⟨List.toArray c⟩ w hc (World.block_lt_of_cell? _ _ h0) pS (by simpa using h1) (by simpa using hcap) (by rw[hxm];exact h2);rw[hxm] at this;rw[aTV] at this;exact this.mono fun e w' ⟨he,hb⟩=>⟨_,he,hb,DB _ _ _,trivial⟩
 cases hC
end Go.Proofs.YtcpbaddnmpeipaaGreatDoor
namespace Go.Proofs
open Go.RowKit Go.Lib Go.Shelf
def Tryz.sortFld_ren:Go.Shelf.Ren:=⟨fun|6=>185|15=>192|14=>204|28=>217|29=>218|20=>228|21=>229|22=>230|23=>231|24=>232|25=>233|26=>234|27=>235|46=>249|47=>237|48=>238|49=>250|50=>251|57=>256|n=>n,fun|22=>24|24=>110|25=>188|3=>3|39=>176|0=>0|53=>202|55=>241|4=>4|46=>234|45=>233|50=>54|5=>5|9=>9|66=>255|70=>259|76=>268|77=>140|n=>n,fun|n=>n⟩
theorem Tryz.sortFld:Go.Proofs.SlLaysF0.n6 Tryz.prog Tryz.sortFld_ren:={
 mixed:=by kernel_rfl
 f6:=⟨Tryz.f185.name,pR,Tryz.func185.trans (aSM some qD)⟩
 f14:=⟨Tryz.f204.name,pR,Tryz.func204.trans (aSM some qD)⟩
 f15:=Tryz.func192.trans (aSM some qD)
 f20:=⟨Tryz.f228.name,pR,Tryz.func228.trans (aSM some qD)⟩
 f21:=⟨Tryz.f229.name,pR,Tryz.func229.trans (aSM some qD)⟩
 f22:=⟨Tryz.f230.name,pR,Tryz.func230.trans (aSM some qD)⟩
 f23:=⟨Tryz.f231.name,pR,Tryz.func231.trans (aSM some qD)⟩
 f24:=⟨Tryz.f232.name,pR,Tryz.func232.trans (aSM some qD)⟩
 f25:=⟨Tryz.f233.name,pR,Tryz.func233.trans (aSM some qD)⟩
 f26:=⟨Tryz.f234.name,pR,Tryz.func234.trans (aSM some qD)⟩
 f27:=⟨Tryz.f235.name,pR,Tryz.func235.trans (aSM some qD)⟩
 f28:=Tryz.func217.trans (aSM some qD)
 f29:=Tryz.func218.trans (aSM some qD)
 f46:=⟨Tryz.f249.name,pR,Tryz.func249.trans (aSM some qD)⟩
 f47:=Tryz.func237.trans (aSM some qD)
 f48:=Tryz.func238.trans (aSM some qD)
 f49:=⟨Tryz.f250.name,pR,Tryz.func250.trans (aSM some qD)⟩
 f50:=⟨Tryz.f251.name,pR,Tryz.func251.trans (aSM some qD)⟩
 f57:=⟨Tryz.f256.name,pR,Tryz.func256.trans (aSM some qD)⟩
 t0:=Tryz.underlying0
 a0:=Tryz.isAgg0
 z0:=Tryz.sizeOf0
 v0:=Tryz.zeroValue0
 t3:=Tryz.underlying3
 a3:=Tryz.isAgg3
 z3:=Tryz.sizeOf3
 v3:=Tryz.zeroValue3
 t4:=Tryz.underlying4
 a4:=Tryz.isAgg4
 z4:=Tryz.sizeOf4
 v4:=Tryz.zeroValue4
 t5:=Tryz.underlying5
 a5:=Tryz.isAgg5
 z5:=Tryz.sizeOf5
 v5:=Tryz.zeroValue5
 t9:=Tryz.underlying9
 a9:=Tryz.isAgg9
 z9:=Tryz.sizeOf9
 v9:=Tryz.zeroValue9
 t22:=Tryz.underlying24
 a22:=Tryz.isAgg24
 z22:=Tryz.sizeOf24
 v22:=Tryz.zeroValue24
 t25:=Tryz.underlying188
 a25:=Tryz.isAgg188
 z25:=Tryz.sizeOf188
 v25:=Tryz.zeroValue188
 t39:=Tryz.underlying176
 a39:=Tryz.isAgg176
 z39:=Tryz.sizeOf176
 v39:=Tryz.zeroValue176
 t45:=Tryz.underlying233
 a45:=Tryz.isAgg233
 z45:=Tryz.sizeOf233
 v45:=Tryz.zeroValue233
 t46:=Tryz.underlying234
 a46:=Tryz.isAgg234
 z46:=Tryz.sizeOf234
 v46:=Tryz.zeroValue234
 t50:=Tryz.underlying54
 a50:=Tryz.isAgg54
 z50:=Tryz.sizeOf54
 v50:=Tryz.zeroValue54
 t53:=Tryz.underlying202
 a53:=Tryz.isAgg202
 z53:=Tryz.sizeOf202
 v53:=Tryz.zeroValue202
 t55:=Tryz.underlying241
 a55:=Tryz.isAgg241
 z55:=Tryz.sizeOf241
 v55:=Tryz.zeroValue241
 t66:=Tryz.underlying255
 a66:=Tryz.isAgg255
 z66:=Tryz.sizeOf255
 v66:=Tryz.zeroValue255
 t70:=Tryz.underlying259
 a70:=Tryz.isAgg259
 z70:=Tryz.sizeOf259
 v70:=Tryz.zeroValue259
 t76:=Tryz.underlying268
 a76:=Tryz.isAgg268
 z76:=Tryz.sizeOf268
 v76:=Tryz.zeroValue268
 t77:=Tryz.underlying140
 a77:=Tryz.isAgg140
 z77:=Tryz.sizeOf140
 v77:=Tryz.zeroValue140}
end Go.Proofs
namespace Go.Proofs.YtcpbaddnmpeipaaGreatDoor
open Vc Go.RowKit Go.Sort
def DF (x y:w6):Int:=Lib.compareBytes x.1 y.1
theorem a1M: ∀(a b:pM),Lib.compareBytes a b<0↔a<b
 |[],[]=>by simp [Lib.compareBytes]
 |[],_::_=>by simp [Lib.compareBytes]
 |_::_,[]=>by simp [Lib.compareBytes]
 |a::u,b::bs=>by
  rw[List.cons_lt_cons_iff];unfold Lib.compareBytes;by_cases h1:a<b
  .simp [h1]
  by_cases h2:b<a
  .have: ¬a=b:=fun e=>by subst e;exact h1 h2
   simp [h1,h2,this]
  have:a=b:=UInt8.le_antisymm (by simpa using h2) (by simpa using h1);subst this;simp only[h1,aUt,false_or,true_and];exact a1M u bs
theorem a1N (x y:w6):ltOf DF x y=decide (x.1<y.1):=by
 unfold ltOf DF;rw[aTX];exact a1M _ _
theorem aCh:SWO (ltOf DF) where
 irrefl x:=by rw[a1N];simp [List.lt_irrefl]
 trans x y z h1 h2:=by
  rw[a1N,aSx] at*;exact List.lt_trans h1 h2
 ntrans x y z h1 h2:=by
  rw[a1N,aS2,List.not_lt] at*;exact List.le_trans h2 h1
def LH (x:w6):pX:=[.string ⟨x.1.toArray⟩,.string ⟨x.2.1.toArray⟩]
def xX:List w6->pX
 |[]=>[]
 |x::l=> .string ⟨x.1.toArray⟩:: .string ⟨x.2.1.toArray⟩::xX l
theorem IU: ∀l:List w6,(xX l).length=l.length*2
 |[]=>rfl
 |x::l=>by simp only[xX,aSt,IU l];omega
theorem aCi: ∀(l:List w6) (t:Nat),t<l.length*2->(xX l)[t]? =(LH (l.getD (t/2) default))[t%2]?
 |[],t,h=>by simp at h
 |x::l,0,_=>rfl
 |x::l,1,_=>rfl
 |x::l,t+2,h=>by
  have h':t<l.length*2:=by simp only[aSt] at h;omega
  have e1:(t+2) /2=t/2+1:=by omega
  have e2:(t+2) %2=t%2:=by omega
  rw[e1,e2];simp only[xX,aS6,List.getD_cons_succ];exact aCi l t h'
theorem aCj (l:List w6):flatK LH 2 l.toArray=(xX l).toArray:=by
 refine ext_get! (by simp [IU]) fun t ht=>?_;have ht':t<l.length*2:=by simpa using ht
 rw[get_flatK _ _ _ t (by simpa using ht')];have hq:t<(xX l).length:=by rw[IU];exact ht'
 have h1:=aCi l t ht';have e1:(xX l).toArray[t]! =(xX l)[t]:=by simp [hq]
 rw[e1];rw[aSv hq] at h1;have e2:l.toArray[t/2]! =l.getD (t/2) default:=by simp [aSO]
 rw[e2];have h2:t%2<(LH (l.getD (t/2) default)).length:=by show _<2;omega
 rw[aSv h2] at h1;rw[getElem!_pos (LH (l.getD (t/2) default)) (t%2) h2];exact(aSr h1).symm
theorem W9 {g:Gh}{w:q9}: ∀{l:List w6}{xs:pX},tT (Rd g w (.pair .str (.pair .str .unit))) 2 l xs->xs=xX l
 |[],_,h=>h
 |x::l,_,⟨c1,c2,e,_,h2,h3⟩=>by
  obtain⟨d1,d2,e1,k1,d3,d4,e2,k2,k3⟩:=h2;rw[e,e1,e2,show d1=_ from k1,show d3=_ from k2,show d4=_ from k3,W9 h3];rfl
theorem WA {g:Gh}{w:q9}: ∀(l:List w6),tT (Rd g w (.pair .str (.pair .str .unit))) 2 l (xX l)
 |[]=>rfl
 |x::l=>⟨[.string ⟨x.1.toArray⟩,.string ⟨x.2.1.toArray⟩],_,rfl,rfl,⟨[_],[_],rfl,rfl,[_],[],rfl,rfl,rfl⟩,WA l⟩
theorem aK1 (s:pX) (cur:Array qB) (h:s.length<=cur.size):(Go.Sort.putCells id 0 s.toArray cur).toList.take s.length=s:=by
 apply List.ext_getElem
 .simp [Go.Sort.putCells];omega
 intro i h1 h2;simp only[Go.Sort.putCells,List.getElem_take,Array.getElem_toList,Array.getElem_mapIdx];rw[aSn (by simp;exact h2)];simp [h2]
theorem aK2 (x y:w6) (W:q9):Calls Tryz.prog 152 #[.agg #[.string ⟨x.1.toArray⟩,.string ⟨x.2.1.toArray⟩],.agg #[.string ⟨y.1.toArray⟩,.string ⟨y.2.1.toArray⟩]] W fun e w'=>e= .returned (.int .i64 (DF x y))/\∃q os',w'=grow (W.drewN q) os':=by
 have hcon:=fun W'=>Any.strings_Compare Tryz.lays106 ⟨x.1.toArray⟩ ⟨y.1.toArray⟩ W';change ∀W',Calls Tryz.prog 153 _ _ _ at hcon;have e0:Lib.compareBytes (⟨x.1.toArray⟩:ByteArray).data.toList (⟨y.1.toArray⟩:ByteArray).data.toList=DF x y:=rfl;rw[e0] at hcon;generalize DF x y=r at hcon|-
 go_enter Tryz.func152,Tryz.ntmps152
 go_wp2_with (go_at_call 153;refine(hcon _).mono ?_;rintro e w' ⟨rfl,rfl⟩)
 go_ret
 exact⟨rfl,0,_,by rw[alloc_eq_grow,alloc_eq_grow,grow_grow];rfl⟩
def vK (l:List w6):List w6:=(pdq (ltOf DF) l.toArray 0 l.length (Lib.bitLen l.length) true true).toList
theorem aCk (l:List w6):PermIn 0 l.length l.toArray (vK l).toArray/\SortedIn (ltOf DF) 0 l.length (vK l).toArray:=by
 have h:=pdq_sorts (ltOf DF) aCh l.toArray 0 l.length (Lib.bitLen l.length) true true (aTo _) pS (Or.inl rfl);unfold vK;exact⟨h.1,h.2⟩
theorem WB (l:List w6):(vK l).length=l.length:=by
 have:=(aCk l).1.1;simpa using this
theorem aK3 {g:Gh}{w:q9}{e:TypeId}{l:List w6}{v:qB}{xs:pX}(hown:w.ownsRow 0 e 2 v l.length xs) (hF:tT (Rd g w (.pair .str (.pair .str .unit))) 2 l xs) (hn:l.length<4611686018427387904):
  Calls Tryz.prog 185 #[v,.func (.func 152) #[] #[]] w (fun en w'=>en= .returned (.tuple #[])/\w'.ownsRow 0 e 2 v l.length (xX (vK l))/\w.grownBy w' v.ownBlock):=by
 have hlen:=WB l;have hxs:=W9 hF;subst hxs;obtain⟨hx,⟨rfl,h0⟩ |⟨b,cap,cur,rfl,hb0,hbk,hnc,hcm,hcs,htk⟩⟩:=hown
 .obtain rfl:l=[]:=aTj.1 h0;have e0:vK []=[]:=aTj.1 hlen;rw[e0];refine(AnyF.slices_SortFunc_none Tryz.sortFld none 0 (.func (.func 152) #[] #[]) w).mono ?_;rintro en w' ⟨rfl,rfl⟩;exact⟨rfl,⟨rfl,.inl ⟨rfl,rfl⟩⟩,rfl,rfl,rfl,aSJ _,fun _ _ _=>rfl⟩
 have hbl:b<w.heap.size:=by
  rcases aTE b w.heap.size with h|h
  .exact h
  rw[Array.getElem?_eq_none h] at hbk;cases hbk
 have hfl:=IU l;have hH:HoldsK LH 2 w b 0 l.toArray:=by
  unfold HoldsK;rw[aCj];intro j hj;have hj':j<(xX l).length:=by simpa using hj
  refine⟨?_,Lib.frozen_of_heap hbk _⟩;rw[Lib.cell_of_heap hbk,aSU];have h2:(cur.toList.take (l.length*2))[j]? =(xX l)[j]? :=by rw[htk]
  rw[aTf pQ,aTk] at h2;rw[h2];simp [hj']
 have eg: ∀args w,(callFunc 152 args).run Tryz.prog w= .ok (.enter 152 args) w:=fun _ _=>rfl;refine(AnyQ.slices_SortFunc_eq Tryz.sortFld 2 Tryz.isAgg110 Tryz.sizeOf110 LH (fun _=>rfl) (fun x v hv=>by simp [LH] at hv;rcases hv with rfl|rfl<;>rfl) DF aCh 152 #[] b 0 cap l.toArray w eg (fun _ _ _ _ x y=>aK2 x y _) hH hbl (by simpa using hn)).mono ?_
 rintro en w' ⟨rfl,m,os,hw⟩;have hd:pdq (ltOf DF) l.toArray 0 l.toArray.size (Lib.bitLen l.toArray.size) true true=(vK l).toArray:=by
  unfold vK;simp
 rw[hd] at hw;unfold sortWorldK putRowK at hw;rw[aCj] at hw;subst hw;have hsz:(xX (vK l)).length<=cur.size:=by rw[IU,hlen,hcs];exact aTH 2 hnc
 have hnew:(grow (putRow id (Go.Sort.ahead w m) b 0 (xX (vK l)).toArray) os).heap[b]? =some (.cells (putCells id 0 (xX (vK l)).toArray cur) e (0,0)):=by
  rw[heap_grow_old _ _ (by simpa using hbl)];simp [putRow,mapBlock,aTl,hbk,onCells]
 refine⟨rfl,⟨by rw[IU,hlen],.inr ⟨b,cap,_,rfl,hb0,hnew,hnc,hcm,?_,?_⟩⟩,rfl,rfl,rfl,by simp,fun k hk hne=>?_⟩
 .simpa[putCells] using hcs
 .have:=aK1 (xX (vK l)) cur hsz;rwa [IU,hlen] at this
 rw[heap_grow_old _ _ (by simpa using hk)];have hkb:b≠k:=fun h=>hne (by rw[h];rfl);simp [putRow,mapBlock,aTl,hkb]
@[go_sem] def a1O:List qM->List qJ->Option qY
 |[(.own 0 n,none),(.val .clo (some (152,[])),none)],[.row e (.pair .str (.pair .str .unit)) l n2]=>some ⟨[n=n2,List.length l<4611686018427387904],[],[.row e (.pair .str (.pair .str .unit)) (vK l) n2]⟩
 |_,_=>none
theorem aK4 {g:Gh}{k n:Nat}{v:qB}(h:g.cur k n=some v):g.tok k n v=g:=by
 have:(fun k' n'=>if k'=k/\n'=n then some v else g.cur k' n')=g.cur:=by
  funext k' n';split
  .rename_i e;rw[e.1,e.2,h]
  rfl
 show ({g with cur:=_}:Gh)=g
 cases g;simp only at this;simp only[this]
theorem aK5:wP Tryz.prog 185 a1O:=by
 refine⟨fun _ _=>rfl,fun g w args vals L r hH ha hC hs=>?_⟩;unfold a1O at hC;split at hC
 .rename_i n e l n2;cases hC;obtain rfl:n=n2:=hs _ pS;have hn:=hs (List.length l<4611686018427387904) pS;clear hs;obtain⟨va,_,rfl,ra,vb,_,rfl,rb,hv⟩:=ha;cases hv;obtain rfl:vb= .func (.func 152) #[] #[]:=by
   rcases rb.1 with⟨h1,_⟩ |⟨_,vs,h2,h3⟩
   .cases h1
   rw[show vs=[] from h2] at h3;simpa using h3
  have hg0:qO (r8 0 [qJ.row e (.pair .str (.pair .str .unit)) l n]) 0=some (.row e (.pair .str (.pair .str .unit)) l n):=rfl;obtain⟨hl,v,xs,hcur,hown,hF,hnone,hseal⟩:=hH.blk 0 _ hg0;subst hl;have hva:va=v:=by
   have:=ra.1.1;rw[hcur] at this;exact(aSr this).symm
  subst hva;have hlen:=WB l;refine(aK3 hown hF hn).mono ?_;rintro en w' ⟨rfl,k1,k3⟩;have hownk: ∀b,va.ownBlock=some b->∀o,sU g (r8 0 [qJ.row e (.pair .str (.pair .str .unit)) l (List.length l)]) [0] b o:=fun b hb o=>⟨0,_,by simp,hg0,va,hcur,hb⟩;have hE:=rL.row (side:=[]) (rds:=[]) (s:=(.tup [],none)) (val:= .tuple #[]) (v:=va) (xs:=xX (vK l)) (l:=vK l) hH hlen k1 (WA _) hnone (fun u hu=>by rw[hcur] at hu;exact(aSr hu).symm) (.inr ⟨va.ownBlock,k3,hownk⟩) (fun b o hS=>by
   have hne:va.ownBlock≠some b:=fun e=>hseal b e o hS;exact aSL (a:=⟨b,o,none⟩) (k3.block b (hH.sl b o hS) (fun e=>hne e.symm))) hseal (fun b hb=> .inr (hownk b hb)) ⟨⟨[],rfl,rfl⟩,trivial⟩
  rw[aK4 hcur] at hE;refine⟨_,g,rfl,aB3 hE ?_ ?_ rfl ?_ ?_ ?_⟩
  .intro i;cases i with
   |zero=>rfl
   |succ i=>rfl
  .intro i hi;simp only[qQ,aSC,aTQ,or_false] at hi;subst hi;exact Nat.zero_lt_one
  .intro i blk b o hi ho;cases i with
   |zero=>
    cases hi;obtain⟨u,hu,hub⟩:=ho;exact .inr ⟨0,_,hg0,u,hu,hub⟩
   |succ i=>cases hi
  .intro i t x ts u y us hi hi2;cases i with
   |zero=>cases hi
   |succ i=>cases hi
  exact⟨[],rfl,rfl⟩
 cases hC
end Go.Proofs.YtcpbaddnmpeipaaGreatDoor
namespace Go.Proofs.YtcpbaddnmpeipaaGreatDoor
open Vc
open Tryz
namespace Bs
noncomputable section
@[go_sem] abbrev vB:Ty:=(.pair .str (.pair .str (.pair .str (.pair (.list .str) (.pair (.list .str) (.pair (.int .i64) (.pair (.list (.pair .str (.pair .str .unit))) .unit)))))))
@[go_sem] abbrev LI:Ty:=(.pair .str (.pair (.list .str) (.pair (.list (.pair .str (.pair .str .unit))) (.pair (.list vB) .unit))))
@[go_sem] abbrev GV:Ty:=(.pair .str (.pair (.list .str) (.pair .str .unit)))
@[go_sem] abbrev wR:Ty:=(.pair .mref (.pair (.list (.int .u8)) .unit))
abbrev r5:Type:=(pM×(pM×Unit))
abbrev t7:Type:=(pM×(pM×(pM×(pN×(pN×(Int×((List r5)×Unit)))))))
abbrev sQ:Type:=(pM×(pN×((List r5)×((List t7)×Unit))))
@[go_sem] abbrev WC:Nat×TI:=(24,⟨(.list (.pair .str (.pair .str .unit))),110,32,true,[]⟩)
theorem aCl:tI prog WC.1 WC.2:=⟨qD,(show _/\_/\_ from⟨qD,qD,qD⟩)⟩
@[go_sem] abbrev DG:Nat×TI:=(110,⟨(.pair .str (.pair .str .unit)),0,1,false,[]⟩)
theorem IV:tI prog DG.1 DG.2:=⟨qD,(show ((_/\∃_,_/\_)\/_)/\_ from⟨.inl ⟨rfl,_,Tryz.underlying110,(show _/\_/\_/\_ from⟨rfl,qD,qD,(show _/\_/\_/\_ from⟨rfl,qD,qD,trivial⟩)⟩)⟩,(fun _=>⟨qD,1,pR,(.struct rfl Tryz.underlying110 qD (.cons pR rfl qD qD (.str Tryz.underlying9) (.cons pR rfl qD qD (.str Tryz.underlying9) .nil)))⟩)⟩)⟩
@[go_sem] abbrev zA:Nat×TI:=(24,⟨(.list (.pair .str (.pair .str .unit))),110,32,false,[]⟩)
theorem BW:tI prog zA.1 zA.2:=⟨qD,(show _/\_/\_ from⟨qD,qD,qD⟩)⟩
theorem rM:Tryz.prog.follows .mixedOrders=true:=by kernel_rfl
@[go_sem] abbrev LJ:Nat×rK:=(133,⟨[.v,.v],VW,[],[],none⟩)
theorem QW:rT prog LJ:=⟨aBY,fun _ h=>by cases h⟩
@[go_sem] abbrev QX:Nat×rK:=(80,⟨[.v,.v],VX,[],[],none⟩)
theorem a1P:rT prog QX:=⟨aBZ,fun _ h=>by cases h⟩
@[go_sem] abbrev WD:Nat×rK:=(168,⟨[.v],VY,[],[],none⟩)
theorem aCm:rT prog WD:=⟨aB0,fun _ h=>by cases h⟩
@[go_sem] abbrev WE:Nat×rK:=(110,⟨[.v,.v],W7,[],[],none⟩)
theorem aCn:rT prog WE:=⟨aCf,fun _ h=>by cases h⟩
@[go_sem] abbrev WF:Nat×rK:=(72,⟨[.v,.v],W8,[],[],none⟩)
theorem aCo:rT prog WF:=⟨aCg,fun _ h=>by cases h⟩
@[go_sem] abbrev NT:Nat×rK:=(78,⟨[.p wR [1]],VZ,[],[],none⟩)
theorem WG:rT prog NT:=⟨aB4,fun _ h=>by cases h⟩
@[go_sem] abbrev NU:Nat×rK:=(53,⟨[.p wR [1]],W3,[],[],none⟩)
theorem WH:rT prog NU:=⟨aB7,fun _ h=>by cases h⟩
@[go_sem] abbrev aCp:Nat×rK:=(185,⟨[.r,.v],a1O,[],[],none⟩)
theorem aK6:rT prog aCp:=⟨aK5,fun _ h=>by cases h⟩
@[go_sem] abbrev QY:Nat×rK:=(164,⟨[.r],W6,[],[],none⟩)
theorem aCq:rT prog QY:=⟨aCe,fun _ h=>by cases h⟩
@[go_sem] abbrev QZ:Nat×rK:=(163,⟨[.v],noC,[],[],some a1E⟩)
theorem aCr:rT prog QZ:=aB2
end
end Bs
namespace Bs
noncomputable section
def slices_AppendSeq_api_Field_api_Field_F1_step1:w6→(List r5)→Option ((List r5)⊕(List r5)):=fun O Z=>if ((Z.length)+([O]:List r5).length)*32≤140737488355328 then some (.inl (Z++([O]:List r5))) else none
def slices_AppendSeq_api_Field_api_Field_F1 (O:(List r5)):Option (List r5):=if List.length O≤4611686018427387904 then uS (FC (slices_AppendSeq_api_Field_api_Field_F1_step1) (QV O) ([]:List r5)) fun Z=>some (Z) else none
section
variable (O:(List r5))
abbrev a1Q:List qM:=[(.nilS,none),(.val .clo (some (186,[(0,0)])),none)]
abbrev a1R:List qJ:=[.cells (.list (.pair .str (.pair .str .unit))) O []]
@[go_sem] def a1S:qY:=⟨[((slices_AppendSeq_api_Field_api_Field_F1 O)).isSome=true],[(.own 1 ((val (slices_AppendSeq_api_Field_api_Field_F1 O)).length),none)],[.cells (.list (.pair .str (.pair .str .unit))) O [],.row 110 (.pair .str (.pair .str .unit)) (val (slices_AppendSeq_api_Field_api_Field_F1 O)) ((val (slices_AppendSeq_api_Field_api_Field_F1 O)).length)]⟩
def aCs:List qM→List qJ→Option qY:=s5 (V:=(List r5)) (fun x=>a1Q) (a1R) fun x=>a1S x
@[go_sem] def aQM:aCs (no_index a1Q) (no_index (a1R O))=some (a1S O):=sA (fun a0 b0 h1 h2=>by cases h1;cases h2;rfl) O
end
@[go_sem] abbrev a1T:Nat×rK:=(203,⟨[.v,.f [((.list (.pair .str (.pair .str .unit))),[])]],aCs,[],[0],none⟩)
def a1U:rI prog [WC] (rJ []):=⟨⟨aCl,trivial⟩,rX,rM⟩
def WI:rI prog [WC,DG] (rJ []):=⟨⟨aCl,⟨IV,trivial⟩⟩,a1U.Γ,rM⟩
def aCt:rT prog a1T:=by
 refine sB a1U func203 (c:=_) rfl (N:=13) qD (ts:=[(4,none)]) rfl (fun _ _=>rfl) ?_;intro O hs hrow;dsimp only[a1Q,a1R,a1S,rY,r8,rG,rN,rZ,Nat.reduceAdd] at hs hrow|-;have hz:=hs;obtain⟨z0,d⟩:=aSs.1 hz
 try rw[sG d]
 clear hz hs;unfold slices_AppendSeq_api_Field_api_Field_F1 at d;refine qK a1U ?_;refine qZ (qK WI ?_);refine sJ ?_;obtain⟨hgF2,d⟩:=qR d;obtain⟨y1,hy1,d⟩:=yR d;refine aKS aKW aKV qE qE hgF2 hy1 [(2,.val .ref (some (1,0)),none)] (fun Z=>[(2,.val .ref (some (1,0)),none),(5,.val .ref (some (3,0)),none)]) (fun x=>[.cells (.list (.pair .str (.pair .str .unit))) O [],.cells (.rl 110 (.pair .str (.pair .str .unit))) (some (2,(x.length))) [],.row 110 (.pair .str (.pair .str .unit)) x (x.length)]) (fun Z x=>[.cells (.list (.pair .str (.pair .str .unit))) O [],.cells (.rl 110 (.pair .str (.pair .str .unit))) (some (2,(x.length))) [],.row 110 (.pair .str (.pair .str .unit)) x (x.length),.cells (.pair .str (.pair .str .unit)) Z []]) 2 ⟨[2],[(0,0),(1,1),(2,2)]⟩ qE qE (aTY qE) qE (aTY qE) (fun _=>aTY rfl) (fun _=>by rfl) (fun _ _=>by rfl) (fun _ _=>aTY rfl) (fun _=>rfl) qE ?_ ?_
 .intro Z aA w1 e g;refine⟨?_,?_⟩
  .dsimp only[NR,aCd,u7,r8,rG,Nat.reduceAdd,List.toList_toArray];refine rQ WI ?_;exact aKT ⟨[2,5],[(0,0),(1,1),(2,2),(3,3)]⟩ qE
  unfold slices_AppendSeq_api_Field_api_Field_F1_step1 at e;dsimp only[r8,rG,Nat.reduceAdd] at e|-;refine sJ ?_;obtain⟨X,e⟩:=qR e;refine rQ WI ?_ (hp:=by exact⟨qC,X⟩)
  refine sI ?_;cases e;exact aKU ⟨[],[(0,0),(1,1),(2,2)]⟩ _ rfl qE
 rintro aA rfl;dsimp only[r8,rG,Nat.reduceAdd] at d|-;refine sI (qU (qK WI ?_));refine qV ?_;cases d;exact pO [(0,0),(1,2)]
def slices_Collect_api_Field_api_Field_F1 (O:(List r5)):Option (List r5):=(slices_AppendSeq_api_Field_api_Field_F1 O).bind fun Z=>some (Z)
section
variable (O:(List r5))
abbrev a1V:List qM:=[(.val .clo (some (186,[(0,0)])),none)]
abbrev a1W:List qJ:=[.cells (.list (.pair .str (.pair .str .unit))) O []]
@[go_sem] def a1X:qY:=⟨[((slices_Collect_api_Field_api_Field_F1 O)).isSome=true],[(.own 1 ((val (slices_Collect_api_Field_api_Field_F1 O)).length),none)],[.cells (.list (.pair .str (.pair .str .unit))) O [],.row 110 (.pair .str (.pair .str .unit)) (val (slices_Collect_api_Field_api_Field_F1 O)) ((val (slices_Collect_api_Field_api_Field_F1 O)).length)]⟩
def aCu:List qM→List qJ→Option qY:=s5 (V:=(List r5)) (fun x=>a1V) (a1W) fun x=>a1X x
@[go_sem] def aQN:aCu (no_index a1V) (no_index (a1W O))=some (a1X O):=sA (fun a0 b0 h1 h2=>by cases h1;cases h2;rfl) O
end
@[go_sem] abbrev aCv:Nat×rK:=(184,⟨[.f [((.list (.pair .str (.pair .str .unit))),[])]],aCu,[],[0],none⟩)
def aCw:rI prog [zA] (rJ [a1T]):=⟨⟨BW,trivial⟩,qW aCt rX,rM⟩
def aK7:rI prog [] (rJ [a1T]):=⟨trivial,qW aCt rX,rM⟩
def aK8:rT prog aCv:=by
 refine sB aCw func184 (c:=_) rfl (N:=5) qD (ts:=[(2,none)]) rfl (fun _ _=>rfl) ?_;intro O hs hrow;dsimp only[a1V,a1W,a1X,rY,r8,rG,rN,rZ,Nat.reduceAdd] at hs hrow|-;have hz:=hs;obtain⟨z0,d⟩:=aSs.1 hz
 try rw[sG d]
 clear hz hs;unfold slices_Collect_api_Field_api_Field_F1 at d;refine qK aCw ?_;obtain⟨Z,hv1,hw1,d⟩:=rU d
 try simp only[go_sem] at hw1
 refine qK aK7 ?_ (hp:=by exact⟨qC,(rS hv1)⟩) (h:=by simp only[go_sem,hw1];rfl)
 refine qV ?_;cases d;exact pO [(0,0),(1,66)]
def aCx (O:(List r5)):Unit:=()
section
variable (O:(List r5))
abbrev a1Y:List qM:=[(.val (.list (.pair .str (.pair .str .unit))) O,none)]
abbrev a1Z:List qJ:=[]
@[go_sem] def a2a:qY:=⟨[],[(.val .clo (some (186,[(0,0)])),none)],[.cells (.list (.pair .str (.pair .str .unit))) O []]⟩
def aCy:List qM→List qJ→Option qY:=s5 (V:=(List r5)) (a1Y) (fun x=>a1Z) fun x=>a2a x
@[go_sem] def aQO:aCy (no_index (a1Y O)) (no_index a1Z)=some (a2a O):=sA (fun a0 b0 h1 h2=>by cases h1;cases h2;rfl) O
end
@[go_sem] abbrev aCz:Nat×rK:=(151,⟨[.v],aCy,[],[],none⟩)
def a2b:rI prog [zA] (rJ []):=⟨⟨BW,trivial⟩,rX,rM⟩
def aK9:rT prog aCz:=by
 refine sB a2b func151 (c:=_) rfl (N:=4) qD (ts:=[(2,none)]) rfl (fun _ _=>rfl) ?_;intro O hs hrow;dsimp only[a1Y,a1Z,a2a,rY,r8,rG,rN,rZ,Nat.reduceAdd] at hs hrow|-;obtain⟨z0,d⟩: ∃z,(aCx O)=z:=⟨_,rfl⟩
 try rw[d]
 unfold aCx at d;refine qK a2b ?_;refine qK a2b ?_;refine qV ?_;cases d;exact pO [(0,0)]
def slices_SortedFunc_api_Field_api_Field_F1_blocks_sortedF1 (O:(List r5)):Option ((List r5)×Nat):=(slices_Collect_api_Field_api_Field_F1 O).bind fun Z=>if List.length Z<4611686018427387904 then some (((vK Z),(Z.length))) else none
section
variable (O:(List r5))
abbrev a2c:List qM:=[(.val .clo (some (186,[(0,0)])),none),(.val .clo (some (152,[])),none)]
abbrev a2d:List qJ:=[.cells (.list (.pair .str (.pair .str .unit))) O []]
@[go_sem] def a2e:qY:=⟨[((slices_SortedFunc_api_Field_api_Field_F1_blocks_sortedF1 O)).isSome=true],[(.own 1 ((val (slices_SortedFunc_api_Field_api_Field_F1_blocks_sortedF1 O)).2),none)],[.cells (.list (.pair .str (.pair .str .unit))) O [],.row 110 (.pair .str (.pair .str .unit)) ((val (slices_SortedFunc_api_Field_api_Field_F1_blocks_sortedF1 O)).1) ((val (slices_SortedFunc_api_Field_api_Field_F1_blocks_sortedF1 O)).2)]⟩
def aCA:List qM→List qJ→Option qY:=s5 (V:=(List r5)) (fun x=>a2c) (a2d) fun x=>a2e x
@[go_sem] def aQP:aCA (no_index a2c) (no_index (a2d O))=some (a2e O):=sA (fun a0 b0 h1 h2=>by cases h1;cases h2;rfl) O
end
@[go_sem] abbrev aCB:Nat×rK:=(150,⟨[.f [((.list (.pair .str (.pair .str .unit))),[])],.v],aCA,[],[0],none⟩)
def R0:rI prog [zA] (rJ [aCv,aCp]):=⟨⟨BW,trivial⟩,qW aK8 (qW aK6 rX),rM⟩
def aLa:rT prog aCB:=by
 refine sB R0 func150 (c:=_) rfl (N:=12) qD (ts:=[(4,none)]) rfl (fun _ _=>rfl) ?_;intro O hs hrow;dsimp only[a2c,a2d,a2e,rY,r8,rG,rN,rZ,Nat.reduceAdd] at hs hrow|-;have hz:=hs;obtain⟨z0,d⟩:=aSs.1 hz
 try rw[sG d]
 clear hz hs;unfold slices_SortedFunc_api_Field_api_Field_F1_blocks_sortedF1 at d;refine qK R0 ?_;obtain⟨Z,hv1,hw1,d⟩:=rU d
 try simp only[go_sem] at hw1
 refine qK R0 ?_ (hp:=by exact⟨qC,(rS hv1)⟩) (h:=by simp only[go_sem,hw1];rfl)
 obtain⟨X,d⟩:=qR d;refine qK R0 ?_ (hp:=by exact⟨qC,X⟩)
 refine qK R0 ?_;refine qV ?_;cases d;exact pO [(0,0),(1,66)]
def blocks_sorted (O:(List r5)):Option ((List r5)×Nat):=(slices_SortedFunc_api_Field_api_Field_F1_blocks_sortedF1 O).bind fun Z=>some ((Z.1,Z.2))
section
variable (O:(List r5))
abbrev a2f:List qM:=[(.val (.list (.pair .str (.pair .str .unit))) O,none)]
abbrev a2g:List qJ:=[]
@[go_sem] def a2h:qY:=⟨[((blocks_sorted O)).isSome=true],[(.own 0 ((val (blocks_sorted O)).2),none)],[.row 110 (.pair .str (.pair .str .unit)) ((val (blocks_sorted O)).1) ((val (blocks_sorted O)).2)]⟩
def aCC:List qM→List qJ→Option qY:=s5 (V:=(List r5)) (a2f) (fun x=>a2g) fun x=>a2h x
@[go_sem] def blocks_sortedC_eq:aCC (no_index (a2f O)) (no_index a2g)=some (a2h O):=sA (fun a0 b0 h1 h2=>by cases h1;cases h2;rfl) O
end
@[go_sem] abbrev aLb:Nat×rK:=(116,⟨[.v],aCC,[],[],none⟩)
def a2i:rI prog [zA] (rJ [aCz,aCB]):=⟨⟨BW,trivial⟩,qW aK9 (qW aLa rX),rM⟩
def blocks_sorted_con:rT prog aLb:=by
 refine sB a2i func116 (c:=_) rfl (N:=6) qD (ts:=[(2,none)]) rfl (fun _ _=>rfl) ?_;intro O hs hrow;dsimp only[a2f,a2g,a2h,rY,r8,rG,rN,rZ,Nat.reduceAdd] at hs hrow|-;have hz:=hs;obtain⟨z0,d⟩:=aSs.1 hz
 try rw[sG d]
 clear hz hs;unfold blocks_sorted at d;refine qK a2i ?_;obtain⟨Z,hv1,hw1,d⟩:=rU d
 try simp only[go_sem] at hw1
 refine qK a2i ?_ (hp:=by exact⟨qC,(rS hv1)⟩) (h:=by simp only[go_sem,hw1];rfl)
 refine qV ?_;cases d;exact pO [(0,97)]
attribute [irreducible] slices_AppendSeq_api_Field_api_Field_F1 slices_Collect_api_Field_api_Field_F1 slices_SortedFunc_api_Field_api_Field_F1_blocks_sortedF1 blocks_sorted
end
end Bs
end Go.Proofs.YtcpbaddnmpeipaaGreatDoor
section
end
namespace Go.Proofs.YtcpbaddnmpeipaaGreatDoor
open Vc Go.RowKit
open Tryz
abbrev GW:Ty:= .pair .str (.pair .str .unit)
@[go_sem] def WJ (F:List w6->Option (List w6×Nat)):List qM->List qJ->Option qY
 |[(.own 0 n,none)],[.row 110 (.pair .str (.pair .str .unit)) l n2]=>some ⟨[n=n2,(F l).isSome=true],[(.own 1 (val (F l)).2,none)],[.dead,.row 110 (.pair .str (.pair .str .unit)) (val (F l)).1 (val (F l)).2]⟩
 |_,_=>none
theorem aLc {g g1:Gh}{w:q9}{b:Nat}{cur:Array qB}{e:TypeId}(hbk:w.heap[b]? =some (.cells cur e (0,0))) (l:List w6) (htk:cur.toList.take (l.length*2)=xX l) (hS: ∀o,o<l.length*2->g1.S b o):
  yC (Rd g1 w GW) w g1.S 2 b 0 l:=by
 refine IK (WA l) (fun j u hu=>?_) (fun j hj=>?_)
 .rw[aSU,Lib.cell_of_heap hbk];have hj:j<(xX l).length:=(aSD.1 hu).1;rw[IU] at hj;rw[<-htk,aTf hj,aTk] at hu;exact hu
 rw[aSU];exact hS j hj
theorem aLd {f:FuncId}{C:List qM->List qJ->Option qY}{F:List w6->Option (List w6×Nat)}(h:wP prog f C)
  (hC: ∀l,C [(.val (.list GW) l,none)] []=some ⟨[(F l).isSome=true],[(.own 0 (val (F l)).2,none)],[.row 110 GW (val (F l)).1 (val (F l)).2]⟩):wP prog f (WJ F):=by
 refine⟨h.1,fun g w args vals L r hH ha hC' hs=>?_⟩;unfold WJ at hC';split at hC'
 .rename_i n l n2;cases hC';obtain rfl:n=n2:=hs _ pS;have hsome:=hs ((F l).isSome=true) pS;clear hs;obtain⟨va,_,rfl,ra,hv⟩:=ha;cases hv;have hg0:qO (r8 0 [qJ.row 110 GW l n]) 0=some (.row 110 GW l n):=rfl;obtain⟨hl,v,xs,hcur,hown,hF,hnone,hseal⟩:=hH.blk 0 _ hg0;subst hl;have hva:va=v:=by
   have:=ra.1.1;rw[hcur] at this;exact(aSr this).symm
  subst hva;have hxs:=W9 hF;subst hxs
  let g1:Gh:=⟨fun b o=>va.ownBlock=some b/\o<l.length*2,fun _=>none,fun _ _=>none⟩
  have hH1:sE g1 w (r8 0 []):=⟨fun _ _ h=>(by cases h),fun _ _ _ _ _ _ _ h=>(by cases h),fun b o h=>KX hown h.1,⟨hH.tab.1,fun _ _ _ _ h=>(by cases h)⟩⟩;have hrd:tB g1 w (.list GW) l va:=by
   refine .inr ⟨rfl,?_⟩;obtain⟨hx,⟨rfl,h0⟩ |⟨b,cap,cur,rfl,hb0,hbk,hnc,hcm,hcs,htk⟩⟩:=hown
   .obtain rfl:l=[]:=aTj.1 h0;exact⟨none,0,rfl,aSJ _,.inl rfl⟩
   exact⟨some ⟨b,0,none⟩,cap,rfl,hnc,.inr ⟨b,0,rfl,aLc (g:=g) hbk l htk (fun o ho=>⟨rfl,ho⟩)⟩⟩
  have hcall:=h.2 g1 w [(.val (.list GW) l,none)] [va] [] _ hH1 ⟨_,_,rfl,⟨hrd,trivial⟩,rfl⟩ (hC l) (fun p hp=>by simp only[aSI] at hp;rw[hp];exact hsome);refine hcall.mono ?_;rintro en w' ⟨v',g',rfl,ho⟩;have hbel:Below w.heap.size w w':=⟨ho.fr.os,ho.fr.tape,ho.fr.output,ho.fr.size,fun b hb=>ho.fr.blk b hb fun o ⟨i,blk,h1,_⟩=>(by cases h1)⟩;have hret:rO g' w' (.own 0 (val (F l)).2,none) v':=ho.ret;have hg1:qO (r8 0 [qJ.row 110 GW (val (F l)).1 (val (F l)).2]) 0=some (.row 110 GW (val (F l)).1 (val (F l)).2):=rfl;obtain⟨kl,v2,xs2,kcur,kown,kF,knone,kseal⟩:=ho.heap.blk 0 _ hg1;have hv2:v2=v':=by
   have:=hret.1.1;rw[kcur] at this;exact aSr this
  subst hv2;have hxs2:=W9 kF;subst hxs2;generalize hfl:(val (F l)).1=l' at*;generalize hfn:(val (F l)).2=n' at*;have hnewb: ∀b,v2.ownBlock=some b->w.heap.size<=b:=fun b hb=>by
   rcases ho.perm 0 _ b 0 rfl ⟨v2,kcur,hb⟩ with h1|⟨i,blk,h1,_⟩
   .exact h1
   cases h1
  have hlt: ∀b o,g.S b o->v2.ownBlock≠some b:=fun b o h e1=>by have:=hH.sl b o h;have:=hnewb b e1;omega
  have hshape:=hret.1.2;refine⟨_,FD g 1 n' v2,rfl,fun b' o h=>⟨h,aSL (a:=⟨b',o,none⟩) (hbel.block b' (hH.sl b' o h))⟩,⟨fun i blk h=>?_,fun i j bi bj b' o hij hi hj h1 h2=>?_,fun b' o h=>aSY (hH.sl b' o h) hbel.size,I3 hH.tab.1 hbel.size fun b' h=>hbel.block b' (aSY h hH.tab.1.1),fun i blk b' o h h1=>?_⟩,
   ⟨⟨DE ..,hshape⟩,trivial⟩,⟨hbel.os,hbel.tape,hbel.output,hbel.size,fun b hb _=>hbel.block b hb,fun b o hb _=>⟨aSL (a:=⟨b,o,none⟩) (hbel.block b hb),aS9 (a:=⟨b,o,none⟩) (hbel.block b hb)⟩,fun b o hS=> .inl hS,fun b s h=> .inl ((BT (hbel.block b (BS h))).trans h)⟩,fun i blk b' o h h1=>?_,fun _ _ _ _ _=>rfl,fun i t x ts u y us h=>?_,fun i p hi h=>h,fun i q u hi h=>?_⟩
  .match i,h with
   |0,h=>cases h;trivial
   |1,h=>
    cases h;exact⟨kl,v2,_,DE ..,kown,WA _,fun q hq=>a1L g 1 n' _ hq,fun b' hb o hs=>hlt b' o hs hb⟩
   |i+2,h=>simp [r8,qO] at h
  .match i,j,hi,hj with
   |0,_,hi,_=>cases hi;exact h1
   |_,0,_,hj=>cases hj;exact h2
   |1,1,_,_=>exact hij rfl
   |i+2,_,hi,_=>simp [r8,qO] at hi
   |1,j+2,_,hj=>simp [r8,qO] at hj
  .match i,h with
   |0,h=>cases h;exact h1.elim
   |1,h=>
    cases h;obtain⟨v,h3,h4⟩:=h1;rw[DE] at h3;obtain rfl:=aSr h3;exact aTn hH.tab.1.1 (hnewb b' h4)
   |i+2,h=>simp [r8,qO] at h
  .match i,h with
   |0,h=>cases h;exact h1.elim
   |1,h=>
    cases h;obtain⟨v,h3,h4⟩:=h1;rw[DE] at h3;obtain rfl:=aSr h3;exact .inl (hnewb b' h4)
   |i+2,h=>simp at h
  .match i,h with
   |0,h=>cases h
   |i+1,h=>simp at h
  match i,hi with
  |0,_=>simpa[FD] using h
 cases hC'
theorem aLe:wP prog 116 (WJ Bs.blocks_sorted):=
 aLd Bs.blocks_sorted_con.1 (fun l=>Bs.blocks_sortedC_eq l)
end Go.Proofs.YtcpbaddnmpeipaaGreatDoor
namespace Go.Proofs.YtcpbaddnmpeipaaGreatDoor.Vc
open Go.RowKit
section
variable {P:Program}{R:Bool}
theorem aLf {c:Code}{s:St}{Q:Ex->St->Prop}(env':List (Nat×qM)) (h0: ∀(g:Gh) (w:q9) (i:Nat) (v:qB),rO g w (lk s.env i) v->rO g w (lk env' i) v)
  (h:Ev R P c ⟨env',s.H,s.nb,s.N,s.np⟩ Q):Ev R P c s Q:=by
 intro ro hro A L g0 w0 g a w B hB hr hg hn;exact h ro hro A L g0 w0 g a w B hB ⟨fun i=>h0 _ _ _ _ (hr.env i),hr.heap,hr.size,hr.nb,hr.def_,hr.np⟩ hg hn
@[go_sem] def WK:qM->qM
 |(.val .clo (some (f,[])),_)=>(.val .fn (some f),none)
 |(.val .clo none,_)=>(.val .fn none,none)
 |s=>s
@[go_sem] def R1 (i:Nat):List (Nat×qM)->List (Nat×qM)
 |[]=>[]
 |(j,s)::r=>(j,if j=i then WK s else s)::R1 i r
theorem aCD {i:Nat}: ∀{env:List (Nat×qM)}{j:Nat},lk (R1 i env) j=if j=i then WK (lk env j) else lk env j
 |[],j=>by simp only[R1,lk];split<;>rfl
 |(k,s)::r,j=>by
  simp only[R1,lk];split
  .rename_i h;subst h;rfl
  exact aCD
theorem aLg {g:Gh}{w:q9}{s:qM}{v:qB}(h:rO g w s v):rO g w (WK s) v:=by
 unfold WK;split
 .rename_i f k;refine⟨?_,trivial⟩;rcases h.1 with⟨h1,_⟩ |⟨_,vs,h2,h3⟩
  .cases h1
  rw[show vs=[] from h2] at h3;exact .inr ⟨rfl,h3⟩
 .rename_i k;refine⟨?_,trivial⟩;rcases h.1 with⟨h1,_⟩ |⟨_,h2⟩
  .cases h1
  exact .inr ⟨rfl,h2⟩
 exact h
theorem aCE {c:Code}{s:St}{Q:Ex->St->Prop}(i:Nat) (h:Ev R P c ⟨R1 i s.env,s.H,s.nb,s.N,s.np⟩ Q):Ev R P c s Q:=by
 refine aLf _ (fun g w j v hv=>?_) h;rw[aCD];split
 .exact aLg hv
 exact hv
@[go_sem] def aCF (q:Nat×(Nat×Nat)×(Nat×Nat)):Nat×Nat×(Nat×Nat)×(Nat×Nat)->Nat×Nat×(Nat×Nat)×(Nat×Nat)
 |(0,_)=>(0,q)
 |(n+1,x)=>(n+1,x)
@[go_sem] def CK (q:Nat×(Nat×Nat)×(Nat×Nat)):(t:Ty)->t.den->t.den
 | .ap,x=>aCF q x
 | .pair a b,x=>(CK q a x.1,CK q b x.2)
 | .bool,x=>x
 | .int _,x=>x
 | .str,x=>x
 | .list _,x=>x
 | .unit,x=>x
 | .ref,x=>x
 | .clo,x=>x
 | .mp,x=>x
 | .mref,x=>x
 | .fn,x=>x
 | .rl _ _,x=>x
theorem aLh {g:Gh}{w:q9}{q:Nat×(Nat×Nat)×(Nat×Nat)}: ∀{x:Nat×Nat×(Nat×Nat)×(Nat×Nat)}{cs:pX},F6 g w x cs->F6 g w (aCF q x) cs
 |(0,i,(k3,n3),(k4,n4)),cs,h=>by
  obtain⟨a,⟨b1,b2⟩,d1,d2⟩:=q;rcases h with⟨_,h⟩ |⟨h,_⟩
  .exact .inl ⟨rfl,h⟩
  .exact absurd rfl h
 |(n+1,x),cs,h=>h
theorem a2j {g:Gh}{w:q9}{q:Nat×(Nat×Nat)×(Nat×Nat)}: ∀{t:Ty}{x:t.den}{cs:pX},Rd g w t x cs->Rd g w t (CK q t x) cs
 | .ap,_,_,h=>aLh h
 | .pair a b,x,cs,⟨c1,c2,e,h1,h2⟩=>⟨c1,c2,e,a2j h1,a2j h2⟩
 | .bool,_,_,h=>h
 | .int _,_,_,h=>h
 | .str,_,_,h=>h
 | .list _,_,_,h=>h
 | .unit,_,_,h=>h
 | .ref,_,_,h=>h
 | .clo,_,_,h=>h
 | .mp,_,_,h=>h
 | .mref,_,_,h=>h
 | .fn,_,_,h=>h
 | .rl _ _,_,_,h=>h
theorem R2 (q:Nat×(Nat×Nat)×(Nat×Nat)) (u:Ty): ∀(t:Ty) (x:t.den) (o:Nat),r9 (.list u) t (CK q t x) o=r9 (.list u) t x o
 | .pair a b,x,0=>by
  have h: ¬(Ty.pair a b= .list u):=fun h=>by cases h
  unfold r9;rw[aTP h,aTP h];show (if 0<a.cells then r9 (.list u) a (CK q a x.1) 0 else r9 (.list u) b (CK q b x.2) 0)=_;rw[R2 q u a x.1 0,R2 q u b x.2 0]
 | .pair a b,x,o+1=>by
  show (if o+1<a.cells then r9 (.list u) a (CK q a x.1) (o+1) else r9 (.list u) b (CK q b x.2) (o+1-a.cells))=_;rw[R2 q u a x.1 (o+1),R2 q u b x.2 (o+1-a.cells)];rfl
 | .ap,x,0=>by
  have h: ¬(Ty.ap= .list u):=fun h=>by cases h
  unfold r9;rw[aTP h,aTP h]
 | .ap,x,o+1=>rfl
 | .bool,_,_=>rfl
 | .int _,_,_=>rfl
 | .str,_,_=>rfl
 | .list _,_,_=>rfl
 | .unit,_,_=>rfl
 | .ref,_,_=>rfl
 | .clo,_,_=>rfl
 | .mp,_,_=>rfl
 | .mref,_,_=>rfl
 | .fn,_,_=>rfl
 | .rl _ _,_,_=>rfl
@[go_sem] def aCG (q:Nat×(Nat×Nat)×(Nat×Nat)) (i:Nat):Option qJ->List (Nat×qJ)->List (Nat×qJ)
 |some (.cells t x ts),H=>(i,.cells t (CK q t x) ts)::H
 |_,H=>H
@[go_sem] def NV (i:Nat) (q:Nat×(Nat×Nat)×(Nat×Nat)) (s:St):St:=⟨s.env,aCG q i (qO s.H i) s.H,s.nb,s.N,s.np⟩
theorem aCH {B:Nat}{A:Nat->Nat->Prop}{L:List qJ}{g0 g:Gh}{w0 w:q9}{s:St}{a:Act}(hr:uK B g w s a) (hg:tE A L g0 w0 g w s.H) (i:Nat) (q:Nat×(Nat×Nat)×(Nat×Nat)):
  uK B g w (NV i q s) a/\tE A L g0 w0 g w (NV i q s).H:=by
 unfold NV;cases hb:qO s.H i with
 |none=>exact⟨hr,hg⟩
 |some blk=>
  cases blk with
  |cells t x ts=>
   simp only[aCG];have hget: ∀j b,qO ((i,qJ.cells t (CK q t x) ts)::s.H) j=some b->(j=i/\b= .cells t (CK q t x) ts)\/(j≠i/\qO s.H j=some b):=by
    intro j b hjb;simp only[qO] at hjb;split at hjb
    .rename_i e1;exact .inl ⟨e1.symm,(aSr hjb).symm⟩
    rename_i e1;exact .inr ⟨Ne.symm e1,hjb⟩
   have howns: ∀j b bb o,qO ((i,qJ.cells t (CK q t x) ts)::s.H) j=some b->s9 g j b bb o->∃b0,qO s.H j=some b0/\s9 g j b0 bb o:=by
    intro j b bb o hj ho;rcases hget j b hj with⟨rfl,rfl⟩ |⟨_,h1⟩
    .exact⟨_,hb,ho⟩
    exact⟨b,h1,ho⟩
   refine⟨⟨hr.env,⟨fun j b hj=>?_,fun j k bj bk b o hjk h1 h2 o1 o2=>?_,hr.heap.sl,hr.heap.tab.1,fun j blk b o hj ho=>?_⟩,hr.size,hr.nb,hr.def_,hr.np⟩,⟨hg.shut,hg.fr,fun j b bb o hj ho=>?_,hg.J,hg.live,fun j u y us hj hb'=>?_,hg.cur⟩⟩
   .rcases hget j b hj with⟨rfl,rfl⟩ |⟨_,h1⟩
    .obtain⟨p,cs,h1,h2,h3,h4,h5,h6⟩:=hr.heap.blk j _ hb;refine⟨p,cs,h1,a2j h2,h3,h4,h5,fun o k hk=>?_⟩;obtain⟨u,l,v,k1,k2,k3⟩:=h6 o k hk;exact⟨u,l,v,(R2 q u t x o).trans k1,k2,k3⟩
    exact hr.heap.blk j b h1
   .obtain⟨c1,k1,k2⟩:=howns j bj b o h1 o1;obtain⟨c2,k3,k4⟩:=howns k bk b o h2 o2;exact hr.heap.dis j k c1 c2 b o hjk k1 k3 k2 k4
   .obtain⟨c1,k1,k2⟩:=howns j blk b o hj ho;exact hr.heap.tab.2 j c1 b o k1 k2
   .obtain⟨c1,k1,k2⟩:=howns j b bb o hj ho;exact hg.perm j c1 bb o k1 k2
   .rcases hget j _ hb' with⟨rfl,h1⟩ |⟨_,h1⟩
    .cases h1;exact hg.ty j t x ts hj hb
    .exact hg.ty j u y us hj h1
  |_=>exact⟨hr,hg⟩
theorem aLi {c:Code}{s:St}{Q:Ex->St->Prop}(i:Nat) (q:Nat×(Nat×Nat)×(Nat×Nat)) (h:Ev R P c (NV i q s) Q):Ev R P c s Q:=by
 intro ro hro A L g0 w0 g a w B hB hr hg hn;obtain⟨h1,h2⟩:=aCH hr hg i q;exact h ro hro A L g0 w0 g a w B hB h1 h2 hn
theorem aCI {c:Code}{s:St}{Q:Ex->St->Prop}(i:Nat) (q:Nat×(Nat×Nat)×(Nat×Nat)) (h:Ev R P c s (fun e s=>Q e (NV i q s))):Ev R P c s Q:=by
 intro ro hro A L g0 w0 g a w B hB hr hg hn;refine aT6 (h ro hro A L g0 w0 g a w B hB hr hg hn) fun x a' w' hp=>?_;obtain⟨e,g',s',h1,h2,h3,h4,h5⟩:=hp;obtain⟨k1,k2⟩:=aCH h3 h4 i q;exact⟨e,g',_,h1,h2,k1,k2,h5⟩
theorem zB {c:Code}{s:St}{Q:Ex->St->Prop}(i:Nat) (q:Nat×(Nat×Nat)×(Nat×Nat)) {t:Ty}{x x2:t.den}{ts:pV}(hb:qO s.H i=some (.cells t x ts)) (hx:CK q t x=x2)
  (h:Ev R P c ⟨s.env,(i,.cells t x2 ts)::s.H,s.nb,s.N,s.np⟩ Q):Ev R P c s Q:=by
 refine aLi i q ?_;unfold NV;rw[hb];subst hx;exact h
end
def s8 (e:TypeId) (t:Ty) (o:Option (List t.den)) (n:Nat):qJ:=match o with
 |some l=> .row e t l n
 |none=> .grow e t.cells n
@[go_sem high] theorem aQQ (e:TypeId) (t:Ty) (l:List t.den) (n:Nat):s8 e t (some l) n= .row e t l n:=rfl
@[go_sem high] theorem aQR (e:TypeId) (t:Ty) (n:Nat):s8 e t none n= .grow e t.cells n:=rfl
theorem A6 {e:TypeId}{t:Ty}{o o2:Option (List t.den)}{n n2:Nat}(h:s8 e t o n=s8 e t o2 n2):o=o2/\n=n2:=by
 cases o<;>cases o2<;>simp only[s8] at h<;>cases h<;>exact⟨rfl,rfl⟩
@[go_sem high] theorem aLj {e:TypeId}{t:Ty}(ht:t.pure=true) (k n:Nat) (a:t6) (o:Option (List t.den)) (m:Nat):
  xM k n a (some (s8 e t o m))=if (!zY k (sF a.ws))=true then some ⟨(.own a.n n,none)::a.args,s8 e t o m::a.H,.tok k::a.ws,a.n+1⟩ else none:=by
 cases o<;>simp [s8,xM,ht]
@[go_sem high] theorem aQS (W:List rP) (e:TypeId) (t:Ty) (o:Option (List t.den)) (n:Nat):K9 W (s8 e t o n)=some (s8 e t o n):=by
 cases o<;>rfl
@[go_sem high] theorem aLk (base m c:Nat) (W:List rP) {e:TypeId}{t:Ty}(ht:t.pure=true) (o:Option (List t.den)) (n:Nat):yA base m c W (s8 e t o n)=some (base+c,s8 e t o n):=by
 cases o<;>simp [s8,yA,ht]
@[go_sem high] theorem aLl (k:Nat) {e:TypeId}{t:Ty}(ht:t.pure=true) (o:Option (List t.den)) (n:Nat):wB k (s8 e t o n)=some (k,s8 e t o n):=by
 cases o<;>simp [s8,wB,ht]
@[go_sem high] theorem aLm (m:pV) {e:TypeId}{t:Ty}(ht:t.pure=true) (o:Option (List t.den)) (n:Nat):z7 m (some (s8 e t o n))=s8 e t o n:=by
 cases o<;>simp [s8,z7,ht]
theorem A7 {α β:Type}{o:Option α}{f:α->Option β}{y:β}(h:o.bind f=some y): ∃x,o=some x/\f x=some y:=by
 cases o with
 |none=>cases h
 |some x=>exact⟨x,rfl,h⟩
theorem A8 {P:Program}{R:Bool}{c:Code}{s:St}{Q:Ex->St->Prop}(k:Nat) {e:TypeId}{t:Ty}{l:List t.den}{n:Nat}(hk:qO s.H k=some (.row e t l n)) (h:l.length=n->Ev R P c s Q):Ev R P c s Q:=by
 intro ro hro A L g0 w0 g a w B hB hr hg hn;exact h (hr.heap.blk k _ hk).1 ro hro A L g0 w0 g a w B hB hr hg hn
@[go_sem high] theorem aQT (m:pV) (e:TypeId) (o:Option (List (Ty.str.den))) (n:Nat):z7 m (some (s8 e .str o n))=s8 e .str o n:=aLm m rfl o n
@[go_sem high] theorem aQU (e:TypeId) (k n:Nat) (a:t6) (o:Option (List (Ty.str.den))) (m:Nat):
  xM k n a (some (s8 e .str o m))=if (!zY k (sF a.ws))=true then some ⟨(.own a.n n,none)::a.args,s8 e .str o m::a.H,.tok k::a.ws,a.n+1⟩ else none:=aLj rfl k n a o m
@[go_sem high] theorem aQV (base m c:Nat) (W:List rP) (e:TypeId) (o:Option (List (Ty.str.den))) (n:Nat):yA base m c W (s8 e .str o n)=some (base+c,s8 e .str o n):=aLk base m c W rfl o n
@[go_sem high] theorem aQW (k:Nat) (e:TypeId) (o:Option (List (Ty.str.den))) (n:Nat):wB k (s8 e .str o n)=some (k,s8 e .str o n):=aLl k rfl o n
theorem IW {m:pV}{e:TypeId}{t:Ty}{o:Option (List t.den)}{n:Nat}{r:List qJ}(ht:t.pure=true) (h:LB m r):LB m (s8 e t o n::r):=by
 cases o with
 |none=>exact⟨rfl,h⟩
 |some l=>exact⟨by simp [s8,z7,ht],h⟩
attribute [go_sem] YJ
end Go.Proofs.YtcpbaddnmpeipaaGreatDoor.Vc
namespace Go.Proofs.YtcpbaddnmpeipaaGreatDoor
open Vc Go.RowKit
open Tryz
theorem aLn (w:q9) (p:Option Addr):Calls prog I2 #[.pointer p] w fun e w'=> ∃b,e= .returned (.func (.func I1) #[] #[.pointer (some ⟨b,0,none⟩)])/\w.heap.size<=b/\b<w'.heap.size/\w'.cell? ⟨b,0,none⟩=some (.pointer p)/\Below w.heap.size w w':=by
 show Calls prog 155 #[.pointer p] w _
 go_enter func155,Tryz.ntmps155
 go_wp2
 go_ret
 refine⟨w.heap.size,rfl,aSJ _,by simp,?_,(Below.refl _ _).alloc (aSJ _) _⟩;exact Lib.cell_of_heap (World.alloc_heap_new w _) 0
theorem aLo (w:q9) (b:Nat) (α:Addr) (y s:pM) (ok:Bool) (hb:w.cell? ⟨b,0,none⟩=some (.pointer (some α))) (hy:w.cell? α=some (.string ⟨y.toArray⟩)) (hf:w.frozen? α=false) (hsp:α.spot=none)
  (hl:((y++s).length:Int)<=9223372036854775807) (hV: ∀w1,Below w.heap.size w w1->Calls prog G8 #[.string ⟨(y++s).toArray⟩] w1 fun e w'=>e= .returned (.bool ok)/\Below w1.heap.size w1 w'):
  Calls prog I1 #[.string ⟨s.toArray⟩,.pointer (some ⟨b,0,none⟩)] w fun e w'=>e= .returned (.bool ok)/\∃w1,Below w.heap.size w w1/\w'=if ok=true then w1.setCells α.block α.off [.string ⟨(y++s).toArray⟩] else w1:=by
 show Calls prog 188 #[.string ⟨s.toArray⟩,.pointer (some ⟨b,0,none⟩)] w _;obtain⟨ab,ao,asp⟩:=α;obtain rfl:asp=none:=hsp;have hext:((⟨y.toArray⟩:ByteArray)++⟨s.toArray⟩)=⟨(y++s).toArray⟩:=by
  apply ByteArray.ext;simp
 have hVw:=hV w (Below.refl _ _);have hbb:b<w.heap.size:=World.block_lt_of_cell? _ _ hb;have hab:ab<w.heap.size:=World.block_lt_of_cell? _ _ hy;clear hV;cases ok
 .go_enter func188,Tryz.ntmps188
  go_wp2_with (go_at_call 98;refine hVw.mono ?_;rintro e w' ⟨rfl,hbl⟩)
  all_goals first
   |(exfalso;simp at hl;omega)
   |(go_ret;exact⟨rfl,hbl⟩)
 go_enter func188,Tryz.ntmps188
 go_wp2_with (go_at_call 98;refine hVw.mono ?_;rintro e w' ⟨rfl,hbl⟩;have hb':=(aSL (a:=⟨b,0,none⟩) (hbl.block b hbb)).trans hb;have hy':=(aSL (a:=⟨ab,ao,none⟩) (hbl.block ab hab)).trans hy;have hf':=(hbl.frozen (p:=⟨ab,ao,none⟩) hab).trans hf)
 all_goals first
  |(exfalso;simp at hl;omega)
  |(go_ret;exact⟨rfl,_,hbl,rfl⟩)
theorem aLp:a9E prog:=⟨aLn,fun _ _=>rfl,fun _ _=>rfl,aLo⟩
end Go.Proofs.YtcpbaddnmpeipaaGreatDoor
namespace Go.Proofs.YtcpbaddnmpeipaaGreatDoor
open Tryz
section
open Go.Shelf Go.RowKit Go.Lib
variable {P:Program}{ρ:Ren}
def xY:ByteArray:=⟨#[32,9,34]⟩
theorem aLq {r:Int}(h0:128<=r) (h1:r<=1114111) (hv:r<55296\/57343<r): ∃n,1<=n/\n<=3/\(Utf8.encode r).size=n+1/\∃b:UInt8,(Utf8.encode r).data.toList[n]? =some b/\128<=b.toNat:=by
 have hval:Utf8.valid r=true:=by
  unfold Utf8.valid;simp;omega
 have hb: ∀k:Nat,k<64->128<=(UInt8.ofNat (0x80+k)).toNat:=fun k hk=>by
  rw[UInt8.toNat_ofNat'];omega
 unfold Utf8.encode;simp only[hval,aTW];have ha: ¬r.toNat<0x80:=by omega
 rw[aSo ha];by_cases h2:r.toNat<0x800
 .rw[aSn h2];exact⟨1,pQ,pQ,rfl,_,rfl,hb _ pQ⟩
 rw[aSo h2];by_cases h3:r.toNat<0x10000
 .rw[aSn h3];exact⟨2,pQ,pQ,rfl,_,rfl,hb _ pQ⟩
 rw[aSo h3];exact⟨3,pQ,pQ,rfl,_,rfl,hb _ pQ⟩
set_option maxRecDepth 1000000 in
theorem AnyL.IndexRune_err (L:Lays.n152 P ρ) (w:q9):
  Calls P (ρ.f 152) #[.string xY,.int .i32 65533] w fun e w'=>e= .returned (.int .i64 (-1))/\Below w.heap.size w w':=by
 have t3:=L.t3;have a3:=L.a3;have z3:=L.z3;have v3:=L.v3;have t4:=L.t4;have a4:=L.a4;have z4:=L.z4;have v4:=L.v4;have t5:=L.t5;have a5:=L.a5;have z5:=L.z5;have v5:=L.v5;have t9:=L.t9;have a9:=L.a9;have z9:=L.z9;have v9:=L.v9;have t21:=L.t21;have a21:=L.a21;have z21:=L.z21;have v21:=L.v21
 go_enter L.f152,Body.n152_ntmps ρ
 go_wp2
 go_loopg [5,6] 3 (fun g _ _ wx=> ∃i:Nat,i+g=3/\wx=w.iter xY i)
 case atStart=>exact⟨0,pQ,rfl⟩
 case round=>
  obtain⟨i,hig,rfl⟩:=hrel;cases gk with
  |zero=>
   obtain rfl:i=3:=by omega
   have hnx:=fun ty=>run_next_end (P:=P) w xY 3 ty pR
   go_wp2
   go_ret
   exact⟨rfl,(Below.refl _ _).alloc (aSJ _) _⟩
  |succ g=>
   have hi:i<xY.size:=by show i<3;omega
   obtain⟨x,hx⟩: ∃x:UInt8,xY[i]'hi=x:=⟨_,rfl⟩;have hx128:x.toNat<128:=by
    have:i=0\/i=1\/i=2:=by omega
    rcases this with rfl|rfl|rfl<;>rw[<-hx]
    .exact(by decide:(32:UInt8).toNat<128)
    .exact(by decide:(9:UInt8).toNat<128)
    exact(by decide:(34:UInt8).toNat<128)
   have hxe:(((x.toNat:Nat):Int)==65533)=false:=beq_eq_false_iff_ne.2 pQ;have hnx:=fun ty=>run_next_ascii (P:=P) w xY i ty hi (by rw[hx];exact hx128);rw[hx] at hnx;clear hx
   go_wp2
   go_roundg g
   case measure=>omega
   case rel=>exact⟨i+1,pQ,rfl⟩
set_option maxRecDepth 1000000 in
theorem AnyL.IndexRune_big (L:Lays.n152 P ρ) (w:q9) (r:Int) (h0:128<=r) (h1:r<=1114111) (hv:r<55296\/57343<r) (hne:r≠65533):
  Calls P (ρ.f 152) #[.string xY,.int .i32 r] w fun e w'=>e= .returned (.int .i64 (-1))/\Below w.heap.size w w':=by
 have t3:=L.t3;have a3:=L.a3;have z3:=L.z3;have v3:=L.v3;have t4:=L.t4;have a4:=L.a4;have z4:=L.z4;have v4:=L.v4;have t5:=L.t5;have a5:=L.a5;have z5:=L.z5;have v5:=L.v5;have t9:=L.t9;have a9:=L.a9;have z9:=L.z9;have v9:=L.v9;have t21:=L.t21;have a21:=L.a21;have z21:=L.z21;have v21:=L.v21;have e137: ∀args w,(callFunc (ρ.f 137) args).run P w= .ok (.enter (ρ.f 137) args) w:=enters_of L.f137 qD rfl;have e119: ∀args w,(callFunc (ρ.f 119) args).run P w= .ok (.enter (ρ.f 119) args) w:=enters_of L.f119 qD rfl;have hval:Lib.validRune r=true:=by unfold Lib.validRune;simp;omega
 obtain⟨n,hn1,hn3,hsz,b,hb,hb128⟩:=aLq h0 h1 hv;have hcv: ∀w,(convert (ρ.t 21) (ρ.t 9) (.int .i32 r)).run P w= .ok (.string (Utf8.encode r)) w:=fun w=>run_convert_int_string w _ _ .i32 r (by rw[t21];rfl) t9;generalize Utf8.encode r=rs at hsz hb hcv;have hsz':(rs.size:Int)=n+1:=by omega
 have hbn: ∀h,rs[n]'h=b:=fun h=>by
  have:=Lib.data_getElem? rs n h;rw[hb] at this;exact(aSr this).symm
 have hne9:((9:Int)==(b.toNat:Int))=false:=beq_eq_false_iff_ne.2 pQ;have hne34:((34:Int)==(b.toNat:Int))=false:=beq_eq_false_iff_ne.2 pQ;have hix: ∀w,(Instr.index (ρ.t 9) (.string rs) (.int .i64 (n:Int))).run P w= .ok (.int .u8 (b.toNat:Int)) w:=fun w=>by
  rw[run_index_string _ _ _ _ _ t9];rw[aUm pQ];simp [hbn]
 have hl1: ∀w,(Instr.index (ρ.t 9) (.string xY) (.int .i64 1)).run P w= .ok (.int .u8 9) w:=fun w=>by
  rw[run_index_string _ _ _ _ _ t9];rfl
 have hl2: ∀w,(Instr.index (ρ.t 9) (.string xY) (.int .i64 2)).run P w= .ok (.int .u8 34) w:=fun w=>by
  rw[run_index_string _ _ _ _ _ t9];rfl
 have hls:(xY.size:Int)=3:=rfl;clear hb
 go_enter L.f152,Body.n152_ntmps ρ
 go_wp2_with (go_at_fn (ρ.f 119);refine(Any.utf8_ValidRune {L with} _ _).mono ?_;rintro e w' ⟨rfl,hw⟩;rw[hw,hval])
 have mixed:=L.mixed;obtain rfl|rfl|rfl:n=1\/n=2\/n=3:=by omega
 .have hq:((9:Int) != ((rs[1]'pQ).toNat:Int))=true:=by rw[hbn];exact bne_iff_ne.2 pQ
  have hneg:Lib.indexByte (List.take (xY.size-2) (List.drop 2 xY.data.toList)) b= -1:=by
   have hz: ∀x:UInt8,x.toNat<128->(x==b)=false:=fun x hx=>beq_eq_false_iff_ne.2 fun e=>by rw[e] at hx;omega
   first|rfl|(show Lib.indexByte [34] b= -1;simp [Lib.indexByte,hz 34 pR])
  go_step3
  go_wp2
  refine wp_loop_rounds 1 ?_;rw[rounds_succ]
  go_wp2
  go_step3
  go_wp2
  go_region_o
  all_goals
   go_wp2
   go_region_with_o (go_at_fn (ρ.f 137);refine(Any.strings_IndexByte {L with} _ _ _).mono ?_;rintro e w' ⟨rfl,hw⟩;rw[hw])
   all_goals
    go_wp2
    simp only[Exit.noGoto_ret,go_sem]
    go_ret
    exact⟨rfl,by go_grown⟩
 .have hq:((34:Int) != ((rs[2]'pQ).toNat:Int))=true:=by rw[hbn];exact bne_iff_ne.2 pQ
  have hneg:Lib.indexByte (List.take (xY.size-3) (List.drop 3 xY.data.toList)) b= -1:=by
   have hz: ∀x:UInt8,x.toNat<128->(x==b)=false:=fun x hx=>beq_eq_false_iff_ne.2 fun e=>by rw[e] at hx;omega
   first|rfl|(show Lib.indexByte [34] b= -1;simp [Lib.indexByte,hz 34 pR])
  go_step3
  go_wp2
  refine wp_loop_rounds 1 ?_;rw[rounds_succ]
  go_wp2
  go_step3
  go_wp2
  go_region_o
  all_goals
   go_wp2
   go_region_with_o (go_at_fn (ρ.f 137);refine(Any.strings_IndexByte {L with} _ _ _).mono ?_;rintro e w' ⟨rfl,hw⟩;rw[hw])
   all_goals
    go_wp2
    simp only[Exit.noGoto_ret,go_sem]
    go_ret
    exact⟨rfl,by go_grown⟩
 go_step3
 go_wp2
 refine wp_loop_rounds 1 ?_;rw[rounds_succ]
 go_wp2
 simp only[Exit.noGoto_ret]
 go_ret
 exact⟨rfl,Below.refl _ _⟩
theorem aCJ {s:ByteArray}{j:Nat}{b:UInt8}(h:s.data.toList[j]? =some b):s.get! j=b:=by
 rw[aTk] at h;show s.data[j]! =b;rw[getElem!_def,h]
theorem aLr (s:ByteArray) (i:Nat) (hi:i<s.size) (hb:128<=(s.get! i).toNat): ∃c k:Nat,Utf8.decode s i=(c,k)/\1<=k/\i+k<=s.size/\128<=c/\c<=1114111/\(c<55296\/57343<c)/\
  ∀j,i<=j->j<i+k->128<=(s.get! j).toNat:=by
 have one: ∀j,i<=j->j<i+1->128<=(s.get! j).toNat:=fun j h1 h2=>by
  obtain rfl:j=i:=by omega
  exact hb
 have e65: ∀r,r=(Utf8.runeError,1)->∃c k:Nat,r=(c,k)/\1<=k/\i+k<=s.size/\128<=c/\c<=1114111/\(c<55296\/57343<c)/\∀j,i<=j->j<i+k->128<=(s.get! j).toNat:=
  fun r hr=>⟨65533,1,hr,pQ,pQ,pQ,pQ,pQ,one⟩
 have hval: ∀c:Nat,Utf8.valid (c:Int)=true->c<=1114111/\(c<55296\/57343<c):=fun c h=>by
  unfold Utf8.valid at h;simp only[aTN,aSA,aSx] at h;omega
 unfold Utf8.decode;simp only[aTv,aSA,aSx,aT2];rw[aSo pQ];by_cases h2:(s.get! i).toNat/32=6/\i+1<s.size/\(s.get! (i+1)).toNat/64=2
 .rw[aSn h2];obtain⟨h2,h3,h4⟩:=h2;split
  .refine⟨_,2,rfl,pQ,pQ,pQ,pQ,pQ,fun j h5 h6=>?_⟩;obtain rfl|rfl:j=i\/j=i+1:=by omega
   .exact hb
   omega
  exact e65 _ rfl
 rw[aSo h2];by_cases h3:((s.get! i).toNat/16=14/\i+1<s.size/\(s.get! (i+1)).toNat/64=2)/\i+2<s.size/\(s.get! (i+2)).toNat/64=2
 .rw[aSn h3];obtain⟨⟨h3,h4,h5⟩,h6,h7⟩:=h3;split
  .rename_i hc;have hv:=hval _ hc.2;refine⟨_,3,rfl,pQ,pQ,pQ,hv.1,hv.2,fun j h8 h9=>?_⟩;obtain rfl|rfl|rfl:j=i\/j=i+1\/j=i+2:=by omega
   .exact hb
   .omega
   omega
  exact e65 _ rfl
 rw[aSo h3];by_cases h4:(((s.get! i).toNat/8=30/\i+1<s.size/\(s.get! (i+1)).toNat/64=2)/\i+2<s.size/\(s.get! (i+2)).toNat/64=2)/\i+3<s.size/\(s.get! (i+3)).toNat/64=2
 .rw[aSn h4];obtain⟨⟨⟨h4,h5,h6⟩,h7,h8⟩,h9,h10⟩:=h4;split
  .rename_i hc;have hv:=hval _ hc.2;refine⟨_,4,rfl,pQ,pQ,pQ,hv.1,hv.2,fun j h11 h12=>?_⟩;obtain rfl|rfl|rfl|rfl:j=i\/j=i+1\/j=i+2\/j=i+3:=by omega
   .exact hb
   .omega
   .omega
   omega
  exact e65 _ rfl
 rw[aSo h4];exact e65 _ rfl
theorem aLs {P:Program}(w:q9) (r:Nat) (s:ByteArray) (i:Nat) (ty:TypeId) (hh:w.heap[r]? =some (.stringIter s i)) (hi:i<s.size) {c k:Nat}(hd:Utf8.decode s i=(c,k)):
  (Instr.next (.pointer (some ⟨r,0,none⟩)) true ty).run P w= .ok (.tuple #[.bool true,.int .i64 i,.int .i32 c]) {w with heap:=w.heap.setIfInBounds r (.stringIter s (i+k))}:=by
 simp [Instr.next,getObj,setObj,Sem.run,hh,hi,hd,goInt]
theorem aLt {P:Program}(w:q9) (r:Nat) (s:ByteArray) (i:Nat) (ty:TypeId) (hh:w.heap[r]? =some (.stringIter s i)) (hi: ¬i<s.size):
  (Instr.next (.pointer (some ⟨r,0,none⟩)) true ty).run P w= .ok (.tuple #[.bool false]) w:=by
 simp [Instr.next,getObj,Sem.run,hh,hi]
theorem aLu {l:pM}{i k:Nat}(h:Lib.NoAny l [32,9,34] i) (hb: ∀j,i<=j->j<i+k->∀b,l[j]? =some b->128<=b.toNat):Lib.NoAny l [32,9,34] (i+k):=fun j b hj hs=>by
 by_cases hji:j<i
 .exact h j b hji hs
 have hx:=hb j pQ hj b hs;cases hc:([32,9,34]:pM).contains b with
 |false=>rfl
 |true=>
  simp only[List.contains_cons,List.contains_nil,Bool.or_false,aTN,aT2] at hc;rcases hc with rfl|rfl|rfl<;>exact absurd hx pR
theorem aLv {B r:Nat}{a w:q9}{o:Obj}(h:Below B a w) (hr:B<=r):Below B a {w with heap:=w.heap.setIfInBounds r o}:=
 ⟨h.os,h.tape,h.output,by simpa using h.size,fun k hk=>by
  show (w.heap.setIfInBounds r o)[k]? =_;rw[aTD pQ];exact h.block k hk⟩
theorem AnyL.IndexRune_lit (L:Lays.n152 P ρ) (w:q9) (r:Int) (h0:128<=r) (h1:r<=1114111) (hv:r<55296\/57343<r):
  Calls P (ρ.f 152) #[.string xY,.int .i32 r] w fun e w'=>e= .returned (.int .i64 (-1))/\Below w.heap.size w w':=by
 by_cases he:r=65533
 .rw[he];exact AnyL.IndexRune_err L w
 exact AnyL.IndexRune_big L w r h0 h1 hv he
set_option maxRecDepth 1000000 in
theorem AnyL.IndexAny_lit8 (L:Lays.n153 P ρ) (s:ByteArray) (w:q9) (h8:s.size<=8):
  Calls P (ρ.f 153) #[.string s,.string xY] w fun e w'=>e= .returned (.int .i64 (Lib.indexAny s.data.toList [32,9,34]))/\Below w.heap.size w w':=by
 have hemp:xY.toList.isEmpty=false:=by rw[Lib.toList_data];rfl
 have hn1:((xY.size:Int)==1)=false:=rfl;have h8z:decide ((8:Int)<(s.size:Int))=false:=decide_eq_false pQ;have t3:=L.t3;have a3:=L.a3;have z3:=L.z3;have v3:=L.v3;have t4:=L.t4;have a4:=L.a4;have z4:=L.z4;have v4:=L.v4;have t5:=L.t5;have a5:=L.a5;have z5:=L.z5;have v5:=L.v5;have t9:=L.t9;have a9:=L.a9;have z9:=L.z9;have v9:=L.v9;have t21:=L.t21;have a21:=L.a21;have z21:=L.z21;have v21:=L.v21;have e152: ∀args w,(callFunc (ρ.f 152) args).run P w= .ok (.enter (ρ.f 152) args) w:=enters_of L.f152 qD rfl;have e226: ∀args w,(callFunc (ρ.f 226) args).run P w= .ok (.enter (ρ.f 226) args) w:=enters_of L.f226 qD rfl
 go_enter L.f153,Body.n153_ntmps ρ
 go_wp2_with (go_at_fn (ρ.f 226);refine(Any.strings_shouldUseASCIISet {L with} _ _).mono ?_;rintro e w' ⟨rfl,hw⟩;rw[hw,h8z])
 go_loopg [9,10] s.size (fun g _ _ wx=> ∃i:Nat,i+g=s.size/\Below w.heap.size w wx/\wx.heap[w.heap.size]? =some (.stringIter s i)/\Lib.NoAny s.data.toList [32,9,34] i)
 case atStart=>exact⟨0,pQ,(Below.refl _ _).alloc (aSJ _) _,World.iter_heap w s 0,Lib.NoAny.zero _ _⟩
 case round=>
  obtain⟨i,hig,hbel,hheap,hno⟩:=hrel;have HN:Aside (Lib.NoAny s.data.toList [32,9,34] i):=hno;have HB:Aside (Below w.heap.size w _):=hbel;clear hno;have hlt:w.heap.size<wr.heap.size:=by
   rcases aTE w.heap.size wr.heap.size with h|h
   .exact h
   rw[Array.getElem?_eq_none h] at hheap;cases hheap
  by_cases hi:i<s.size
  .obtain⟨x,hx⟩: ∃x:UInt8,s[i]'hi=x:=⟨_,rfl⟩;have hxl:s.data.toList[i]? =some x:=by rw[<-hx];exact Lib.data_getElem? s i hi
   have hgx:s.get! i=x:=aCJ hxl;have key: ∀k c,Utf8.decode s i=(c,k)->∃w1:q9,(∀ty,(Instr.next (.pointer (some ⟨w.heap.size,0,none⟩)) true ty).run P wr= .ok (.tuple #[.bool true,.int .i64 i,.int .i32 c]) w1)/\
     Below w.heap.size w w1/\w1.heap[w.heap.size]? =some (.stringIter s (i+k))/\w.heap.size<w1.heap.size:=fun k c hd=>
    ⟨{wr with heap:=wr.heap.setIfInBounds w.heap.size (.stringIter s (i+k))},fun ty=>aLs wr _ s i ty hheap hi hd,aLv hbel (aSJ _),by simp [hlt],by simpa using hlt⟩
   clear hbel hheap hlt;by_cases h128:x.toNat<128
   .obtain⟨w1,hnx,hb1,hh1,hl1⟩:=key 1 x.toNat (by have:=decode_ascii s i hi (by rw[hx];exact h128);rw[this,hx]);clear key;have HX:Aside (s.data.toList[i]? =some x):=hxl;have H1:Aside (Below w.heap.size w w1/\w1.heap[w.heap.size]? =some (.stringIter s (i+1))):=⟨hb1,hh1⟩;have hcon:=Lib.contains_iff_indexByte [32,9,34] x;have hback:((x.toNat:Int)).toNat.toUInt8=x:=by simp
    have hll:xY.data.toList=[32,9,34]:=rfl;clear hxl hgx hx hb1 hh1 hl1;cases hin:([32,9,34]:pM).contains x
    .rw[hin] at hcon;have hlt: ¬((0:Int)<=Lib.indexByte [32,9,34] x):=of_decide_eq_false hcon.symm;clear hcon
     go_wp2_with (go_at_fn (ρ.f 152);refine(Any.strings_IndexRune_ascii {L with} _ _ _ pQ pQ).mono ?_;rintro e w' ⟨rfl,hw⟩;rw[hw,hback,hll])
     go_roundg (gk-1)
     case measure=>omega
     case rel=>exact⟨i+1,pQ,H1.out.1,H1.out.2,HN.out.succ HX.out hin⟩
    rw[hin] at hcon;have hge:(0:Int)<=Lib.indexByte [32,9,34] x:=aSZ hcon.symm;clear hcon
    go_wp2_with (go_at_fn (ρ.f 152);refine(Any.strings_IndexRune_ascii {L with} _ _ _ pQ pQ).mono ?_;rintro e w' ⟨rfl,hw⟩;rw[hw,hback,hll])
    go_ret
    exact⟨by rw[Lib.indexAny_hit HN.out HX.out hin];rfl,H1.out.1⟩
   obtain⟨c,k,hd,hk1,hk2,hc1,hc2,hc3,hall⟩:=aLr s i hi (by rw[hgx];omega);obtain⟨w1,hnx,hb1,hh1,hl1⟩:=key k c hd;clear key;have H1:Aside (Below w.heap.size w w1/\w1.heap[w.heap.size]? =some (.stringIter s (i+k))/\w.heap.size<w1.heap.size):=⟨hb1,hh1,hl1⟩;have HA:Aside (∀j,i<=j->j<i+k->128<=(s.get! j).toNat):=hall;clear hall hxl hgx hx hb1 hh1 hl1 hd
   go_wp2_with (go_at_fn (ρ.f 152);refine(AnyL.IndexRune_lit {L with} _ _ pQ pQ pQ).mono ?_;rintro e w' ⟨rfl,hw⟩)
   go_roundg (gk-k)
   case measure=>omega
   case rel=>exact⟨i+k,pQ,H1.out.1.trans (hw.mono (by have:=H1.out.2.2;omega)),by rw[hw.block _ H1.out.2.2];exact H1.out.2.1,aLu HN.out fun j h1 h2 b hb=>by rw[<-aCJ hb];exact HA.out j h1 h2⟩
  have hnx:=fun ty=>aLt (P:=P) wr w.heap.size s i ty hheap hi;clear hbel hheap
  go_wp2
  go_ret
  obtain rfl:i=s.size:=by omega
  exact⟨by rw[Lib.indexAny_none (by rw[<-Lib.size_eq];exact HN.out)];rfl,HB.out⟩
theorem AnyL.IndexAny_lit (L:Lays.n153 P ρ) (h116:(P.info? (ρ.t 116)).map (fun i=>(i.zero,i.size))=some (some (.agg (Array.replicate 256 (.bool false))),256)) (s:ByteArray) (w:q9) (hs:s.size<4294967281):
  Calls P (ρ.f 153) #[.string s,.string xY] w fun e w'=>e= .returned (.int .i64 (Lib.indexAny s.data.toList [32,9,34]))/\Below w.heap.size w w':=by
 by_cases h8:s.size<=8
 .exact AnyL.IndexAny_lit8 L s w h8
 refine(Any.strings_IndexAny_long L (zero_of_info h116).1 (zero_of_info h116).2 s xY w pR pQ hs pR (fun j b h=>?_)).mono fun e w' ⟨h1,h2⟩=>⟨h1,?_⟩
 .have hb:b∈([32,9,34]:pM):=List.mem_of_getElem? (show ([32,9,34]:pM)[j]? =some b from h);simp only[aSC,aTQ,or_false] at hb;rcases hb with rfl|rfl|rfl<;>decide
 rw[h2];exact((Below.refl _ _).alloc (aSJ _) _).alloc pS _
end
open Vc Go.RowKit
def NW (s c:pM):Int:=Lib.indexAny s c
@[go_sem] def a2k:List qM->List qJ->Option qY
 |[(.val .str O,none),(.val .str Z,none)],[]=>if Z=[32,9,34] then some ⟨[List.length O<4294967281],[(.val (.int .i64) (NW O Z),none)],[]⟩ else none
 |_,_=>none
theorem aLw:wP prog 146 a2k:=by
 refine GU (fun _ _=>rfl) fun g w args vals L r hT ha hC hs=>?_;unfold a2k at hC;split at hC
 .rename_i s c;split at hC
  .rename_i hc;subst hc;cases hC;have h1:=hs _ aSH;obtain⟨va,_,rfl,ra,vb,_,rfl,rb,hv⟩:=ha;obtain rfl:=wI ra.1;obtain rfl:=wI rb.1;cases hv;exact⟨rfl,rfl,(AnyL.IndexAny_lit Tryz.lays153 qD ⟨List.toArray s⟩ w h1).mono fun e w' ⟨he,hb⟩=>⟨_,he,hb,wF _ _ _ _,trivial⟩⟩
  cases hC
 cases hC
end Go.Proofs.YtcpbaddnmpeipaaGreatDoor
namespace Go.Proofs.YtcpbaddnmpeipaaGreatDoor
open Go.RowKit Go.Shelf Go.Lib
theorem aLx {w:q9}(hc:w.cell? ⟨5,15,none⟩=some (.int .u8 4)):
  Calls Tryz.prog 254 #[.int .u64 16] w fun e w'=>e= .returned (.int .i64 4)/\w'=w:=by
 go_enter Tryz.func254,Tryz.ntmps254
 have k0:bits BinOp.and IntKind.u64 16 (IntKind.u64.wrap (-16))=16:=by decide+kernel
 have k1:IntKind.u64.wrap (16*285870213051353865) /288230376151711744=15:=by decide+kernel
 go_wp2
 go_ret
 exact⟨rfl,rfl⟩
theorem tzU {w:q9}(hc:w.cell? ⟨5,15,none⟩=some (.int .u8 4)):
  Calls Tryz.prog 246 #[.int .u64 16] w fun e w'=>e= .returned (.int .i64 4)/\w'=w:=by
 go_enter Tryz.func246,Tryz.ntmps246
 go_wp2_with fail
 refine(aLx hc).mono ?_;rintro e w' ⟨rfl,rfl⟩
 go_wp2
 go_ret
 exact⟨rfl,rfl⟩
theorem aCL {w:q9}:
  Calls Tryz.prog 245 #[.int .i64 16] w fun e w'=>e= .returned (.bool true)/\w'=w:=by
 have k0:bits BinOp.and IntKind.i64 16 15=0:=by decide+kernel
 go_enter Tryz.func245,Tryz.ntmps245
 go_wp2
 go_ret
 exact⟨rfl,rfl⟩
theorem aCM {w:q9}{a:Addr}{v:qB}(h:w.cell? a=some v):a.block<w.heap.size:=by
 unfold World.cell? at h;split at h
 .rename_i hb;exact(aSP.1 hb).1
 cases h
def LK (n:Nat):UInt8:=if n<10 then(48+n).toUInt8 else(87+n).toUInt8
theorem aLy (w:q9) (d:UInt8):(convert 80 9 (.slice (some ⟨w.heap.size,64,none⟩) 1 1)).run Tryz.prog (w.alloc (.cells (Tryz.zeroCells264.setIfInBounds 64 (.int .u8 (d.toNat:Int))) 264))= .ok (.string ⟨#[d]⟩) (w.alloc (.cells (Tryz.zeroCells264.setIfInBounds 64 (.int .u8 (d.toNat:Int))) 264)):=by
 refine run_convert_bytes_back _ _ _ 5 ⟨w.heap.size,64,none⟩ 1 [d] Tryz.underlying80 Tryz.underlying5 Tryz.underlying9 fun j hj=>?_;have:j=0:=by simpa using hj
 subst this;simp [Addr.add,aTL]
theorem a2l: ∀u:Fin 16,(⟨#[48,49,50,51,52,53,54,55,56,57,97,98,99,100,101,102,103,104,105,106,107,108,109,110,111,112,113,114,115,116,117,118,119,120,121,122]⟩:ByteArray).data[u.val]? =some (LK u.val):=by decide+kernel
theorem aLz {w:q9}(hc:w.cell? ⟨5,15,none⟩=some (.int .u8 4)) (u:Nat) (hu:u<16):
  Calls Tryz.prog 223 #[.slice none 0 0,.int .u64 u,.int .i64 16,.bool false,.bool false] w fun e w'=>e= .returned (.tuple #[.slice none 0 0,.string ⟨#[LK u]⟩])/\Below w.heap.size w w':=by
 have hc2:(w.alloc (.cells Tryz.zeroCells264 264)).cell? ⟨5,15,none⟩=some (.int .u8 4):=by
  rw[aSL (a:=⟨5,15,none⟩) (aST _ _ _ (aCM hc))];exact hc
 go_enter Tryz.func223,Tryz.ntmps223
 go_wp2_with fail
 refine aCL.mono ?_;rintro e w' ⟨rfl,rfl⟩
 go_wp2_with fail
 refine(tzU hc2).mono ?_;rintro e w' ⟨rfl,rfl⟩
 go_wp2_with fail
 go_rounds 1
 rw[aLy];simp only[Result.andThen];rw[Oper.upon_value]
 go_wp2
 go_ret2
 refine⟨?_,(Below.refl _ _).alloc (aSJ _) _⟩;have h:=a2l ⟨u,hu⟩;obtain⟨h1,h2⟩:=aSP.1 h;rw[<-h2];rfl
theorem aLA (w:q9) (d e:UInt8):(convert 80 9 (.slice (some ⟨w.heap.size,63,none⟩) 2 2)).run Tryz.prog (w.alloc (.cells ((Tryz.zeroCells264.setIfInBounds 64 (.int .u8 (e.toNat:Int))).setIfInBounds 63 (.int .u8 (d.toNat:Int))) 264))= .ok (.string ⟨#[d,e]⟩) (w.alloc (.cells ((Tryz.zeroCells264.setIfInBounds 64 (.int .u8 (e.toNat:Int))).setIfInBounds 63 (.int .u8 (d.toNat:Int))) 264)):=by
 refine run_convert_bytes_back _ _ _ 5 ⟨w.heap.size,63,none⟩ 2 [d,e] Tryz.underlying80 Tryz.underlying5 Tryz.underlying9 fun j hj=>?_
 match j,hj with
 |0,_=>simp [Addr.add,aTL]
 |1,_=>simp [Addr.add,aTL]
theorem aLB: ∀u:Fin 256,bits BinOp.and IntKind.u64 (u.val:Int) 15=((u.val%16:Nat):Int):=by decide+kernel
theorem aLC {w:q9}(hc:w.cell? ⟨5,15,none⟩=some (.int .u8 4)) (u:Nat) (hu:16<=u) (hu2:u<256):
  Calls Tryz.prog 223 #[.slice none 0 0,.int .u64 u,.int .i64 16,.bool false,.bool false] w fun e w'=>e= .returned (.tuple #[.slice none 0 0,.string ⟨#[LK (u/16),LK (u%16)]⟩])/\Below w.heap.size w w':=by
 have hc2:(w.alloc (.cells Tryz.zeroCells264 264)).cell? ⟨5,15,none⟩=some (.int .u8 4):=by
  rw[aSL (a:=⟨5,15,none⟩) (aST _ _ _ (aCM hc))];exact hc
 have h15:=aLB ⟨u,hu2⟩;have hm:u%16<16:=Nat.mod_lt _ pR;have hq:u/16<16:=by omega
 have hq2:((u:Int)) /16=((u/16:Nat):Int):=rfl;dsimp only at h15;have H15:=Lib.hid h15;clear h15;obtain⟨m,hmm⟩: ∃m,u%16=m:=⟨_,rfl⟩;obtain⟨q,hqq⟩: ∃q,u/16=q:=⟨_,rfl⟩;rw[hmm] at hm;rw[hqq] at hq hq2;have h15:=H15.out;rw[hmm] at h15;have HM:=Lib.hid hmm;have HQ:=Lib.hid hqq;clear hmm hqq H15
 go_enter Tryz.func223,Tryz.ntmps223
 go_wp2_with fail
 refine aCL.mono ?_;rintro e w' ⟨rfl,rfl⟩
 go_wp2_with fail
 refine(tzU hc2).mono ?_;rintro e w' ⟨rfl,rfl⟩
 go_wp2_with fail
 go_rounds 2
 rw[aLA];simp only[Result.andThen];rw[Oper.upon_value]
 go_wp2
 go_ret2
 refine⟨?_,(Below.refl _ _).alloc (aSJ _) _⟩;have h:=a2l ⟨m,hm⟩;obtain⟨h1,h2⟩:=aSP.1 h;have k:=a2l ⟨q,hq⟩;obtain⟨k1,k2⟩:=aSP.1 k;rw[HM.out,HQ.out,<-h2,<-k2];rfl
def wS (c _b:Int):pM:=if c<16 then[LK c.toNat] else[LK (c.toNat/16),LK (c.toNat%16)]
theorem fb {w:q9}(hc:w.cell? ⟨5,15,none⟩=some (.int .u8 4)) (u:Nat) (hu2:u<256):
  Calls Tryz.prog 223 #[.slice none 0 0,.int .u64 u,.int .i64 16,.bool false,.bool false] w fun e w'=>e= .returned (.tuple #[.slice none 0 0,.string ⟨(wS u 16).toArray⟩])/\Below w.heap.size w w':=by
 unfold wS;by_cases h:(u:Int)<16
 .rw[aSn h];exact aLz hc u pQ
 rw[aSo h];exact aLC hc u pQ hu2
theorem aLD {w:q9}(hc:w.cell? ⟨5,15,none⟩=some (.int .u8 4)) (u:Nat) (hu2:u<256):
  Calls Tryz.prog 196 #[.int .i64 u,.int .i64 16] w fun e w'=>e= .returned (.string ⟨(wS u 16).toArray⟩)/\Below w.heap.size w w':=by
 obtain⟨s,hs⟩: ∃s,wS u 16=s:=⟨_,rfl⟩;have hfb:=fb hc u hu2;rw[hs] at hfb|-;clear hs;have hk:IntKind.u64.wrap (u:Int)=u:=by rw[IntKind.wrap_u64];omega
 have hn: ¬(u:Int)<0:=by omega
 go_enter Tryz.func196,Tryz.ntmps196
 go_wp2_with fail
 refine hfb.mono ?_;rintro e w' ⟨rfl,hb⟩
 go_wp2
 go_ret
 exact⟨rfl,hb⟩
theorem aCN {w:q9}(hc:w.cell? ⟨5,15,none⟩=some (.int .u8 4)) (u:Nat) (hu2:u<256):
  Calls Tryz.prog 170 #[.int .i64 u,.int .i64 16] w fun e w'=>e= .returned (.string ⟨(wS u 16).toArray⟩)/\Below w.heap.size w w':=by
 obtain⟨s,hs⟩: ∃s,wS u 16=s:=⟨_,rfl⟩;have hfb:=aLD hc u hu2;rw[hs] at hfb|-;clear hs
 go_enter Tryz.func170,Tryz.ntmps170
 go_wp2_with fail
 refine hfb.mono ?_;rintro e w' ⟨rfl,hb⟩
 go_wp2
 go_ret
 exact⟨rfl,hb⟩
#print axioms aCN
end Go.Proofs.YtcpbaddnmpeipaaGreatDoor
