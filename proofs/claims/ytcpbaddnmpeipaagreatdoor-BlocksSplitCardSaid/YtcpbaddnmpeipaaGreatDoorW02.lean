/- Packed by a program of mine (wip/tools/pack.py): the same texts with short names and few blanks. -/
import Derived.Handy
import Derived.KernelRfl
import Derived.Laws.Runes
import Derived.Lib.RowBridge
import Derived.LoopIn
import Derived.LoopN
import Derived.LoopNIn
import Derived.OrdersIn
import Derived.OwnWalkIn
import Derived.RangeFuncBox
import Derived.RangeFuncLeaves
import Derived.Scope
import Derived.Shelf.Abstract
import Derived.Shelf.SlSortCmp.NoneTotal
import Derived.Shelf.Slices.Clone
import Derived.Shelf.Slices.CompactS
import Derived.Shelf.Slices.In.SortNone
import Derived.Shelf.Small.Strs
import Derived.Shelf.Small.Utf8
import Derived.Shelf.Sort.Plain
import Derived.Shelf.Strings.Builder1
import Derived.Shelf.Strings.IndexAny
import Derived.Shelf.Strings.IndexAnyAll
import Derived.Shelf.Strings.OnBuilder
import Derived.Shelf.Strings.Runes
import Derived.Shelf.Strings.Search1
import Derived.Shelf.Strings.Search2
import Derived.Shelf.Strings.Search3
import Derived.Shelf.Strings.SlTrimAscii
import Derived.Shelf.Strings.Trim
import Derived.Shelf.Unicode.DecodeAny
import Derived.Shelf.Unicode.ValidAny
import Derived.TacticsInMore
import Derived.Test.YtcpbaddnmpeipaaGreatDoorChecked
import Derived.Test.YtcpbaddnmpeipaaGreatDoorProg
import Derived.WalkKit
import Derived.WalkMore
import Derived.Test.YtcpbaddnmpeipaaGreatDoorW01
set_option linter.defProp false
set_option linter.unusedVariables false
set_option linter.unusedSimpArgs false
set_option linter.unusedSectionVars false
set_option maxRecDepth 100000
set_option maxHeartbeats 4000000
namespace Go.Proofs.YtcpbaddnmpeipaaGreatDoor.Vc
open Go.RowKit
theorem a03 {g g':Gh}{w w':pM}{env:List (Nat×pW)}{a:Act}{o:Oper}{sl:pW}{v:pN}(h:AL g w env a.tmps) (le:Le g w g' w') (hs:rH g' w' sl v) {N:Nat}(hN:a.tmps.size=N) (hd:HT N o.dst=true):AL g' w' (uJ o.dst sl env) (a.put o.dst v).tmps:=by
  intro t;cases ho:o.dst with
  |none=>exact CV le (h t)
  | some d=>
    rw[ho] at hd;simp only[HT,aSL] at hd;simp only[uJ,lk,Act.put];by_cases hdt:d=t
    · subst hdt
      rw[aSB rfl];have hlt:d<a.tmps.size:=by rw[hN];exact hd
      have:(a.tmps.setIfInBounds d v).getD d undef=v:=by
        rw[aTb,Array.getElem?_setIfInBounds_self_of_lt hlt];rfl
      rw[this];exact hs
    rw[aSD hdt]
    have:(a.tmps.setIfInBounds d v).getD t undef=a.tmps.getD t undef:=by
      rw[aTb,aTN hdt,←aTb]
    rw[this];exact CV le (h t)
theorem QH {n:Nat}: ∀{u:List (Nat×pV)},HU n u=true→∀{i:Nat},i∈q9 u→i<n
  | (k,b)::u,h,i,hi=>by
    simp only[HU,aSV,aSL] at h;simp only[q9,aSP] at hi;rcases hi with rfl|hi
    .exact h.1
    exact QH h.2 hi
theorem aBB (a:Act) (d:Option Tmp) (v:pN):(a.put d v).tmps.size=a.tmps.size:=by
  cases d<;>simp [Act.put]
theorem aBC (a:Act) (d:Option Tmp) (v:pN):(a.put d v).defers=a.defers:=by
  cases d<;>simp [Act.put]
theorem uM.step {B:Nat}{g g':Gh}{w w':pM}{s:St}{a:Act}{o:Oper}{e:qI}{v:pN}(h:uM B g w s a) (k:zK g w s.H e g' w' v) (hd:HT s.N o.dst=true) (hi:HU (s.nb+32) e.upd=true):
    uM B g' w' ⟨uJ o.dst e.slot s.env,qS e.upd s.H,s.nb+32,s.N,s.np⟩ (a.put o.dst v):=by
  refine⟨a03 h.env k.le k.slot h.size hd,k.heap,(aBB _ _ _).trans h.size,fun i hn=>?_,by rw[aBC];exact h.def_.eff h.heap k,aTA h.np (Nat.le_add_right _ _)⟩;have:i∉q9 e.upd:=fun hm=>by have:=QH hi hm;simp only at hn;omega
  have hk:=k.gho i this;have hb:=h.nb i (by simp only at hn;omega);exact⟨hk.1.trans hb.1,fun n=>by rw[hk.2];exact hb.2 n⟩
theorem aBD {T:sG}{Γ:sV}{ops:List Oper}: ∀(l:List Oper),uL T Γ ops l none=none
  |[]=>rfl
  |_::_=>rfl
theorem a04 {T:sG}{Γ:sV}{ops:List Oper}{o:Oper}{l:List Oper}{x y:vS}(h:uL T Γ ops (o::l) (some x)=some y):
    ∃ e,zJ T Γ ops o x.s=some e∧HT x.s.N o.dst=true∧HU (x.s.nb+32) e.upd=true∧
      uL T Γ ops l (some ⟨⟨uJ o.dst e.slot x.s.env,qS e.upd x.s.H,x.s.nb+32,x.s.N,x.s.np⟩,qS x.side (qS (KB x.s.H e.upd e.rds e.upd) e.side),e::x.es⟩)=some y:=by
  simp only[uL] at h;cases he:zJ T Γ ops o x.s with
  |none=>rw[he] at h;simp only[UI] at h;rw[aBD] at h;cases h
  | some e=>
    rw[he] at h;simp only[UI] at h;by_cases hc:(HT x.s.N o.dst&&HU (x.s.nb+32) e.upd)=true
    · rw[aSB hc] at h
      simp only[aSV] at hc;exact⟨e,rfl,hc.1,hc.2,h⟩
    rw[aSD hc,aBD] at h;cases h
theorem G8 {T:sG}{Γ:sV}{ops:List Oper}: ∀{l:List Oper}{x y:vS},uL T Γ ops l (some x)=some y→(∀p∈x.side,p∈y.side)∧y.s.N=x.s.N∧y.s.np=x.s.np
  | [],x,y,h=>by
    simp only[uL,aSC] at h;subst h;exact⟨fun _ h=>h,rfl,rfl⟩
  | o::l,x,y,h=>by
    obtain⟨e,_,_,_,h4⟩:=a04 h;obtain⟨h5,h6,h7⟩:=G8 h4;exact⟨fun p hp=>h5 p (wH.2 (.inl hp)),h6,h7⟩
def EW (ro:pK):Fence:={Fence.wide with round:=ro}
theorem aBE {ro:pK}{n:Nat}{P:Program}{f:FuncId}{args:Array pN}{w:pM}{R:Ending→pM→Prop}(h:Calls P f args w R):CallsIn (EW ro) n P f args w R:=callsIn_wide.2 h
section
variable {B:Nat}{P:Program}{T:sG}{Γ:sV}(hT:wW P T) (hΓ:DG P Γ) {A:Nat→Nat→Prop}{L:List pV}{g0:Gh}{w0:pM}{Q:Exit→Act→pM→Prop}
include hT hΓ
theorem aKT {g:Gh}{w:pM}{s:St}{a:Act}(h:uM B g w s a) (e:qI):xO g s.nb e:=fun i _ hb=>h.nb i hb
omit hT hΓ in
theorem aBF {ops:List Oper}{o:Oper}{s:St}{e:qI}(h:zJ T Γ ops o s=some e): ∀c,o.op≠.defer c:=by
  intro c hc;replace h:=(QF h).1;unfold N4 at h;cases hg:o.guard with
  |none=>rw[hg,hc] at h;simp [N3,u6,N1] at h
  | some jb=>
    rw[hg,hc] at h;simp only at h;cases hk:Γ (UH jb.1 jb.2) with
    |some _=>rw[hk] at h;cases h
    | none=>
      rw[hk] at h;simp only[PS] at h;cases hG:FX s.env jb.2 (zW ops jb.1)<;>rw[hG] at h<;>simp [N2,u6,HR] at h
omit hT hΓ in
theorem aBG {ro:pK}{o:Oper}{a:Act}{w:pM}{K:Act→pM→Prop}(hd: ∀c,o.op≠.defer c) (h:o.wp P a w K Q):o.wpIn (EW ro) 0 P a w K Q:=by
  refine⟨fun _ _=>trivial,?_⟩;rw[Oper.semAt_eq _ _ _ hd];unfold Oper.wp at h;generalize (execOp a.eval o).run P w=r at h|-;unfold Oper.upon at h;unfold Oper.uponIn;split at h
  .exact h
  .exact h
  .exact h
  .exact⟨fun h0=>(by cases h0),aBE h⟩
  .exact⟨fun h0=>(by cases h0),fun c cs _=>let ⟨v,w',r,s⟩:=h c cs;⟨v,w',r,stepsIn_wide.2 s⟩⟩
  .exact h
  exact h.elim
theorem aBH {ro:pK}{ops:Array Oper}: ∀{l:List Oper}{x y:vS}{a:Act}{w:pM}{g:Gh},uL T Γ ops.toList l (some x)=some y→(∀p∈y.side,p)→uM B g w x.s a→sX A L g0 w0 g w x.s.H→L.length=x.s.np→
    (∀g' a' w',uM B g' w' y.s a'→sX A L g0 w0 g' w' y.s.H→Q .normal a' w')→wpListIn (EW ro) 0 P ops Q l a w
  | [],x,y,a,w,g,h,hs,hr,hg,hn,hQ=>by
    simp only[uL,aSC] at h;subst h;exact hQ g a w hr hg
  | o::l,x,y,a,w,g,h,hs,hr,hg,hn,hQ=>by
    obtain⟨e,h1,h2,h3,h4⟩:=a04 h;have hside: ∀p∈e.side,p:=fun p hp=>hs p ((G8 h4).1 p (wH.2 (.inr (wH.2 (.inr hp)))));have key:=aBx hT hΓ (ops:=ops.toList) (o:=o) (a:=a) (K:=wpListIn (EW ro) 0 P ops Q l) (Q:=Q) hr.env hr.heap h1 hside (aKT hT hΓ hr e) (fun g' w' v k=>aBH h4 hs (hr.step k h2 h3) (hg.eff k (hn▸(QF h1).2)) hn hQ);simp only[aUb] at key;unfold wpListIn;split at key
    .rename_i hw;rw[aSB hw];exact aBG (aBF h1) key
    rename_i hw;rw[aSD hw];exact⟨fun _ _=>trivial,key⟩
theorem aKU {ro:pK}{id:Nat}{ops:Array Oper}{s:St}{y:vS}{a:Act}{w:pM}{g:Gh}(h:uL T Γ ops.toList ops.toList (some ⟨s,[],[]⟩)=some y) (hs: ∀p∈y.side,p) (hr:uM B g w s a) (hg:sX A L g0 w0 g w s.H) (hn:L.length=s.np)
    (hQ: ∀g' a' w',uM B g' w' y.s a'→sX A L g0 w0 g' w' y.s.H→Q .normal a' w'):(Code.region id ops false).wpIn (EW ro) 0 P Q a w:=
  wpIn_region_list (aBH hT hΓ h hs hr hg hn hQ)
end
theorem aKV {H H':List (Nat×pV)}{t:Ty}{i off:Nat}{e:qI}(h:HO H t i off (pY H i)=some e) (hl: ∀id∈e.rds,pY H' id=pY H id):i∈e.rds∧HO H' t i off (pY H' i)=some e:=by
  have key: ∃k n v x ts,pY H i=some (.cells v x ts)∧BD v x=some (k,n)∧TJ t i off k n v x (pY H k)=some e∧e.rds=[1000000000,i,k]:=by
    unfold HO at h;split at h
    case h_2=>cases h
    rename_i v x ts hb;cases hf:BD v x with
    |none=>rw[hf] at h;cases h
    | some q=>
      obtain⟨k,n⟩:=q;rw[hf] at h;refine⟨k,n,v,x,ts,hb,hf,h,?_⟩;simp only[TK] at h;unfold TJ at h;split at h
      case h_2=>cases h
      generalize zH _ _ _ _=z at h;cases z with
      |none=>cases h
      | some z=>
        obtain⟨v',x'⟩:=z;simp only[YZ] at h;unfold YY at h;split at h
        .simp only[aSC] at h;rw[←h]
        cases h
  obtain⟨k,n,v,x,ts,h1,h2,h3,h4⟩:=key;refine⟨by rw[h4];simp,?_⟩;rw[hl i (by rw[h4];simp),h1];simp only[HO,h2,TK];rw[hl k (by rw[h4];simp)];exact h3
theorem a05 {ρ ρ':Operand→pW}: ∀{xs:List Operand},(∀x∈xs,ρ' x=ρ x)→vL ρ' xs=vL ρ xs
  |[],_=>rfl
  |x::xs,h=>by simp only[vL,h x pD,a05 (fun y hy=>h y (aSQ _ hy))]
theorem a06 {ρ ρ':Operand→pW}: ∀{xs:List (Nat×Operand)},(∀x∈xs,ρ' x.2=ρ x.2)→u1 ρ' xs=u1 ρ xs
  |[],_=>rfl
  |(i,x)::xs,h=>by simp only[u1,h (i,x) pD,a06 (fun y hy=>h y (aSQ _ hy))]
theorem aBI {T:sG}{ρ ρ':Operand→pW}: ∀{xs:List Operand}{ts:List TypeId},(∀x∈xs,ρ' x=ρ x)→BF T ρ' xs ts=BF T ρ xs ts
  |[],_,_=>by simp [BF]
  |_::_,[],_=>by simp [BF]
  |x::xs,t::ts,h=>by simp only[BF,h x pD,aBI (fun y hy=>h y (aSQ _ hy))]
theorem aKW {T:sG}{Γ:sV}{ty:TypeId}{ρ ρ':Operand→pW}{base:Nat}{H:List (Nat×pV)}(op:Op) (h: ∀x∈op.operands,ρ' x=ρ x):u6 T Γ ty ρ' base H op=u6 T Γ ty ρ base H op:=by
  cases op
  case slice t x lo hi mx=>
    cases mx with
    |some m=>rfl
    | none=>
      have h1:=h x (by simp [Op.operands])
      have h2:zI ρ' lo=zI ρ lo:=by
        cases lo with
        |none=>rfl
        |some l=>simp only[zI,h l (by simp [Op.operands])]
      have h3:zI ρ' hi=zI ρ hi:=by
        cases hi with
        |none=>rfl
        |some l=>simp only[zI,h l (by simp [Op.operands])]
      simp only[u6,h1,h2,h3]
  case call c=>
    obtain⟨callee,args,tys⟩:=c
    have ha: ∀x∈args.toList,ρ' x=ρ x:=fun x hx=>h x (by
      have:x∈args:=by simpa using hx
      simp only[Op.operands,Call.operands];split<;>simp [this])
    cases callee with
    |builtin b=>cases b<;>simp only[u6,K9,a05 ha]
    | value f=>
      have hf:=h f (by simp [Op.operands,Call.operands]);simp only[u6,K9,hf];cases K5 args.toList tys.toList with
      |false=>rfl
      |true=>simp only[ZQ,aBI ha]
    |_=>rfl
  case build t ps=>simp only[u6,a06 (fun x hx=>h x.2 (by simp only[Op.operands,aUr];exact List.mem_map_of_mem hx))]
  case buildSlice t n ps=>simp only[u6,a06 (fun x hx=>h x.2 (by simp only[Op.operands,aUr];exact List.mem_map_of_mem hx))]
  case makeFunc f first caps=>
    cases f with
    | func f=>
      have hc: ∀x∈caps.toList,ρ' x=ρ x:=fun x hx=>h x (by
        have:x∈caps:=by simpa using hx
        simp [Op.operands,this])
      simp only[u6,a05 hc]
    |_=>rfl
  all_goals first
    |rfl
    |(simp only[Op.operands,aUr,aSP,aT2,or_false,forall_eq,forall_eq_or_imp] at h;simp only[u6,h])
    |(simp [Op.operands] at h;simp only[u6,h])
theorem a07: ∀{l acc:List rJ}{i:Nat},i∈s7 (yQ l acc)↔i∈s7 l∨i∈s7 acc
  |[],_,_=>by simp [yQ,s7]
  | w::l,acc,i=>by
    simp only[yQ,a07,s7,aSP];constructor
    · rintro(h|h|h)
      .exact .inl (.inr h)
      .exact .inl (.inl h)
      exact .inr h
    rintro((h|h) |h)
    .exact .inr (.inl h)
    .exact .inl h
    exact .inr (.inr h)
section
variable {H H':List (Nat×pV)}
theorem aKX {k:pK}{a b:sQ}(h:zE H k (some a)=some b):(∀i,i∈s7 a.ws→i∈s7 b.ws)∧((∀i,i∈s7 b.ws→pY H' i=pY H i)→zE H' k (some a)=some b):=by
  cases k with
  | none=>
    have h:none=some b:=h;cases h
  | some k=>
    simp only[zE] at h|-
    have:(∃e c m,pY H k=some (.grow e c m)):=by
      cases hg:pY H k with
      |none=>rw[hg] at h;cases h
      | some bl=>cases bl with
        |grow e c m=>exact⟨_,_,_,rfl⟩
        |_=>rw[hg] at h;cases h
    obtain⟨e,c,m,hg⟩:=this;rw[hg] at h;simp only[BX] at h;split at h
    .cases h
    rename_i hm
    simp only[aSC] at h;subst h;refine⟨fun i hi=>by simp only[s7,aSP];exact .inr hi,fun hl=>?_⟩;rw[hl k (by simp [s7,rJ.id]),hg];simp only[BX];rw[aSD hm]
theorem aKY (H:List (Nat×pV)) (k:pK):zE H k none=none:=by
  cases k with
  |none=>rfl
  | some k=>
    simp only[zE];cases pY H k with
    |none=>rfl
    |some bl=>cases bl<;>rfl
theorem aBJ (H:List (Nat×pV)) (toks:pG) (o:Nat): ∀(qs:pL),yF H toks o qs none=none
  |[]=>rfl
  |q::qs=>by simp only[yF,aKY,aBJ H toks o qs]
theorem aBK {H H':List (Nat×pV)}{toks:pG}{o:Nat}: ∀{qs:pL}{a b:sQ},yF H toks o qs (some a)=some b→(∀i,i∈s7 a.ws→i∈s7 b.ws)∧((∀i,i∈s7 b.ws→pY H' i=pY H i)→yF H' toks o qs (some a)=some b)
  |[],a,b,h=>by simp only[yF,aSC] at h;subst h;exact⟨fun _ h=>h,fun _=>rfl⟩
  | q::qs,a,b,h=>by
    simp only[yF] at h|-;cases hm:zE H (wR toks (o+q)) (some a) with
    |none=>rw[hm,aBJ] at h;cases h
    | some m=>
      rw[hm] at h;obtain⟨h1,h2⟩:=aKX (H':=H') hm;obtain⟨h3,h4⟩:=aBK (H':=H') h;exact⟨fun i hi=>h3 i (h1 i hi),fun hl=>by rw[h2 (fun i hi=>hl i (h3 i hi))];exact h4 hl⟩
theorem aKZ (H H':List (Nat×pV)) (a:sQ) (s:pW):xI H' a .v s=xI H a .v s:=by
  obtain⟨d,k⟩:=s;cases d with
  | val t x=>
    cases t with
    | clo=>
      cases x with
      |none=>rfl
      |some q=>obtain⟨f,l⟩:=q;cases l<;>rfl
    |_=>rfl
  |_=>rfl
theorem aBL {H H':List (Nat×pV)}{t:Ty}{os:pL}{i o:Nat}{a b:sQ}(h:vQ H t os i o a (pY H i)=some b):(∀i,i∈s7 a.ws→i∈s7 b.ws)∧((∀i,i∈s7 b.ws→pY H' i=pY H i)→vQ H' t os i o a (pY H' i)=some b):=by
  cases hg:pY H i with
  |none=>rw[hg] at h;simp [vQ] at h
  | some bl=>
    rw[hg] at h;cases bl with
    | cells u x toks=>
      simp only[vQ] at h;cases hy:qT t u x o with
      |none=>rw[hy] at h;simp [EJ] at h
      | some y=>
        rw[hy] at h;simp only[EJ] at h;split at h
        · rename_i hc
          obtain⟨h3,h4⟩:=aBK (H':=H') h;refine⟨fun j hj=>h3 j (by simp only[s7,aSP];exact .inr hj),fun hl=>?_⟩;rw[hl i (h3 i (by simp [s7,rJ.id])),hg];simp only[vQ,hy,EJ];rw[aSB hc];exact h4 hl
        .cases h
    |_=>simp [vQ] at h
theorem aK0 (H:List (Nat×pV)) (f:FuncId) (args:List pW) (ks:List (Ty×pL)) (cs ids:pG):xH H f args ks cs ids none=none:=by cases ks<;>cases cs<;>rfl
theorem aBM {H H':List (Nat×pV)}{f:FuncId}{args:List pW}: ∀{ks:List (Ty×pL)}{cs ids:pG}{a b:sQ},xH H f args ks cs ids (some a)=some b→(∀i,i∈s7 a.ws→i∈s7 b.ws)∧((∀i,i∈s7 b.ws→pY H' i=pY H i)→xH H' f args ks cs ids (some a)=some b)
  | [],[],ids,a,b,h=>by
    simp only[xH,aSC] at h|-;subst h;exact⟨fun _ h=>h,fun _=>rfl⟩
  |[],_::_,_,_,_,h=>by simp [xH] at h
  |_::_,[],_,_,_,h=>by simp [xH] at h
  | (t,os)::ks,(i,o)::cs,ids,a,b,h=>by
    simp only[xH] at h|-;cases hb:vQ H t os i o a (pY H i) with
    |none=>rw[hb,aK0] at h;cases h
    | some m=>
      rw[hb] at h;obtain⟨h1,h2⟩:=aBL (H':=H') hb;obtain⟨h3,h4⟩:=aBM (H':=H') h;exact⟨fun i hi=>h3 i (h1 i hi),fun hl=>by rw[h2 (fun i hi=>hl i (h3 i hi))];exact h4 hl⟩
theorem aBN {p:PK}{s:pW}{a b:sQ}(h:xI H a p s=some b):(∀i,i∈s7 a.ws→i∈s7 b.ws)∧((∀i,i∈s7 b.ws→pY H' i=pY H i)→xI H' a p s=some b):=by
  by_cases hpv:p= .v
  · subst hpv
    refine⟨?_,fun _=>by rw[aKZ H H'];exact h⟩;unfold xI at h;split at h
    .simp only[SY,aSC] at h;subst h;exact fun _ h=>h
    · simp only[SX] at h
      split at h
      .simp only[aSC] at h;subst h;exact fun _ h=>h
      cases h
    .simp only[SZ,aSC] at h;subst h;exact fun _ h=>h
    .rename_i h1;cases h1
    .rename_i h1;cases h1
    .rename_i h1;cases h1
    .rename_i h1;cases h1
    .rename_i h1;cases h1
    .rename_i h1;cases h1
    cases h
  unfold xI at h;split at h
  .exact absurd rfl hpv
  .exact absurd rfl hpv
  .exact absurd rfl hpv
  · rename_i t x k
    simp only[xI];cases hg:pY H k with
    |none=>rw[hg] at h;simp [BY] at h
    | some bl=>
      rw[hg] at h;cases bl with
      | grow e c m=>
        simp only[BY] at h;split at h
        · rename_i hc
          simp only[aSC] at h;subst h;refine⟨fun i hi=>by simp only[s7,aSP];exact .inr hi,fun hl=>?_⟩;rw[hl k (by simp [s7,rJ.id]),hg];simp only[BY];rw[aSB hc]
        .cases h
      |_=>simp [BY] at h
  · rename_i t os i o k
    simp only[xI];exact aBL h
  · rename_i i k
    simp only[xI];cases hg:pY H i with
    |none=>rw[hg] at h;simp [BZ] at h
    | some bl=>
      rw[hg] at h;cases bl with
      | map s t l=>
        simp only[BZ] at h;split at h
        · rename_i hc
          simp only[aSC] at h;subst h;refine⟨fun j hj=>by simp only[s7,aSP];exact .inr hj,fun hl=>?_⟩;rw[hl i (by simp [s7,rJ.id]),hg];simp only[BZ];rw[aSB hc]
        .cases h
      |_=>simp [BZ] at h
  · rename_i k n k'
    simp only[xI];cases hg:pY H k with
    |none=>rw[hg] at h;simp [xG] at h
    | some bl=>
      rw[hg] at h;cases bl with
      | row e t l m=>
        simp only[xG] at h;split at h
        · rename_i hc
          simp only[aSC] at h;subst h;refine⟨fun j hj=>by simp only[s7,aSP];exact .inr hj,fun hl=>?_⟩;rw[hl k (by simp [s7,rJ.id]),hg];simp only[xG];rw[aSB hc]
        .cases h
      | grow e c m=>
        simp only[xG] at h;split at h
        · rename_i hc
          simp only[aSC] at h;subst h;refine⟨fun j hj=>by simp only[s7,aSP];exact .inr hj,fun hl=>?_⟩;rw[hl k (by simp [s7,rJ.id]),hg];simp only[xG];rw[aSB hc]
        .cases h
      |_=>simp [xG] at h
  · simp only[xI]
    exact aBM h
  · have hb:=h
    unfold P7 at hb;split at hb
    · rename_i hc
      simp only[aSC] at hb;subst hb;exact⟨fun _ h=>h,fun _=>by simp only[xI,hc,P7]⟩
    cases hb
  cases h
theorem aBO (H:List (Nat×pV)) (gs:List (Nat×Nat×PK)):B9 H gs none=none:=by cases gs<;>rfl
theorem aBP {H H':List (Nat×pV)}: ∀{gs:List (Nat×Nat×PK)}{a b:sQ},B9 H gs (some a)=some b→(∀i,i∈s7 a.ws→i∈s7 b.ws)∧((∀i,i∈s7 b.ws→pY H' i=pY H i)→B9 H' gs (some a)=some b)
  |[],a,b,h=>by simp only[B9,aSC] at h;subst h;exact⟨fun _ h=>h,fun _=>rfl⟩
  | (c,q,pk)::gs,a,b,h=>by
    simp only[B9] at h|-;cases hm:xI H a pk (JT q pk (HK a.H (a.n-1-c))) with
    |none=>rw[hm] at h;simp only[MP,aBO] at h;cases h
    | some m=>
      rw[hm] at h;simp only[MP] at h;obtain⟨h1,h2⟩:=aBN (H':=H') hm;obtain⟨h3,h4⟩:=aBP (H':=H') h;exact⟨fun i hi=>h3 i (h1 i hi),fun hl=>by rw[h2 (fun i hi=>hl i (h3 i hi))];simp only[MP];exact h4 hl⟩
theorem aK1 (H:List (Nat×pV)): ∀(ps:List PK) (ss:List pW),xJ H ps ss none=none
  |[],[]=>rfl
  |[],_::_=>rfl
  |_::_,[]=>rfl
  |_::_,_::_=>rfl
theorem aBQ {H H':List (Nat×pV)}: ∀{ps:List PK}{ss:List pW}{a b:sQ},xJ H ps ss (some a)=some b→(∀i,i∈s7 a.ws→i∈s7 b.ws)∧((∀i,i∈s7 b.ws→pY H' i=pY H i)→xJ H' ps ss (some a)=some b)
  |[],[],a,b,h=>by simp only[xJ,aSC] at h;subst h;exact⟨fun _ h=>h,fun _=>rfl⟩
  |[],_::_,a,b,h=>by simp [xJ] at h
  |_::_,[],a,b,h=>by simp [xJ] at h
  | p::ps,s::ss,a,b,h=>by
    simp only[xJ] at h|-;cases hm:xI H a p s with
    |none=>rw[hm,aK1] at h;cases h
    | some m=>
      rw[hm] at h;obtain⟨h1,h2⟩:=aBN (H':=H') hm;obtain⟨h3,h4⟩:=aBQ (H':=H') h;exact⟨fun i hi=>h3 i (h1 i hi),fun hl=>by rw[h2 (fun i hi=>hl i (h3 i hi))];exact h4 hl⟩
theorem aBR {H H':List (Nat×pV)}{base:Nat}{args:List pW}{s:r5}{e:qI}(h:FQ H base args (some s)=some e) (hl: ∀i∈e.rds,pY H' i=pY H i):FQ H' base args (some s)=some e:=by
  simp only[FQ] at h|-;cases hp0:xJ H s.ps args (some ⟨[],[],[],0⟩) with
  |none=>rw[hp0,aBO] at h;cases h
  |some a0=>
   rw[hp0] at h;cases hp:B9 H s.gs (some a0) with
   |none=>rw[hp] at h;cases h
   |some a=>
    rw[hp] at h
    have hrd: ∀i,i∈s7 (yQ a.ws [])→i∈e.rds:=by
      simp only[PD] at h;cases hcl:HL (yQ a.ws []) (yQ a.H []) with
      |none=>rw[hcl] at h;cases h
      |some L=>
      rw[hcl] at h;simp only[T9] at h;cases hc:s.C (yQ a.args []) L with
      |none=>rw[hc] at h;cases h
      | some r=>
        rw[hc] at h;simp only[T8] at h;unfold PB at h;split at h
        · simp only[aSC] at h
          rw[←h];exact fun i hi=>wH.2 (.inl hi)
        cases h
    obtain⟨g1,g2⟩:=aBP (H':=H') hp;rw[(aBQ (H':=H') hp0).2 (fun i hi=>hl i (hrd i (a07.2 (.inl (g1 i hi))))),g2 (fun i hi=>hl i (hrd i (a07.2 (.inl hi))))];exact h
theorem aBS {H H':List (Nat×pV)}{base:Nat}{args:List pW}{s:Option r5}{e:qI}(h:K3 H base args s=some e) (hl: ∀i∈e.rds,pY H' i=pY H i):K3 H' base args s=some e:=by
  cases s with
  |none=>cases h
  | some s=>
    simp only[K3] at h|-;cases hr:s.row with
    | some F=>
      rw[hr] at h;simp only[U7] at h|-;unfold TC at h|-;split at h
      · rename_i k n x
        cases hg:pY H k with
        |none=>rw[hg] at h;cases h
        | some b=>
          have hk:k∈e.rds:=by
            rw[hg] at h;cases b with
            | row e0 t l m=>
              simp only[YK] at h;unfold a9z at h;split at h
              .simp only[aSC] at h;rw[←h];simp
              .cases h
            |_=>cases h
          rw[hl k hk];exact h
      .cases h
    | none=>
      rw[hr] at h;simp only[U7] at h|-;cases hn:PE s.ps args with
      |none=>rw[hn] at h;exact aBR h hl
      | some k=>
        rw[hn] at h;simp only[a9y] at h|-;cases hg:pY H k with
        |none=>rw[hg] at h;cases h
        | some b=>
          rw[hg] at h;cases b with
          | row e0 t l m=>
            simp only[PG] at h;cases hi:FQ ((k,.dead)::H) base (PF k t l args) (some s) with
            |none=>rw[hi] at h;cases h
            | some e1=>
              rw[hi] at h
              have hk:k∈e.rds∧∀i∈e1.rds,i∈e.rds:=by
                unfold YJ at h;split at h
                · rename_i heq
                  simp only[aSC] at heq;subst heq;unfold YI at h;split at h
                  · split at h
                    · simp only[aSC] at h
                      rw[←h];exact⟨by simp,fun i hi=>aSQ _ hi⟩
                    cases h
                  cases h
                cases h
              rw[hl k hk.1,hg];simp only[PG]
              rw[aBR hi (fun i hi'=>by
                simp only[pY];split
                .rfl
                exact hl i (hk.2 i hi'))]
              exact h
          |_=>cases h
theorem aBT {Γ:sV}{base:Nat}{args:List pW}{f:pW}{e:qI}(h:K4 Γ H base args f=some e) (hl: ∀i∈e.rds,pY H' i=pY H i):K4 Γ H' base args f=some e:=by
  unfold K4 at h|-;split at h
  .exact aBS h hl
  .exact aBS h hl
  cases h
theorem aBU {H H':List (Nat×pV)}: ∀{ks:pG}{ps:List Prop}{bs:List (Nat×pV)},BE H ks=some (ps,bs)→(∀p∈ks,p.1∈q9 bs)∧((∀p∈ks,pY H' p.1=pY H p.1)→BE H' ks=some (ps,bs))
  |[],ps,bs,h=>⟨fun p hp=>(by cases hp),fun _=>h⟩
  | (k,n)::r,ps,bs,h=>by
    simp only[BE] at h;split at h
    .cases h
    rename_i hk
    cases h1:TL k n (pY H k) with
    |none=>rw[h1] at h;simp [K0] at h
    | some q=>
      obtain⟨pp,b⟩:=q;cases h2:BE H r with
      |none=>rw[h1,h2] at h;simp [K0] at h
      | some q2=>
        obtain⟨ps2,bs2⟩:=q2;rw[h1,h2] at h;simp only[K0,aSC,aS7] at h;obtain⟨rfl,rfl⟩:=h;obtain⟨k1,k2⟩:=aBU (H':=H') h2;refine⟨fun p hp=>?_,fun hg=>?_⟩
        · rcases aSP.1 hp with rfl|hp
          .simp [q9]
          simp only[q9,aSP];exact .inr (k1 p hp)
        simp only[BE]
        rw[aSD hk,hg _ aS2,h1,k2 (fun p hp=>hg p (aSQ _ hp))];rfl
theorem aK2 {H H':List (Nat×pV)}: ∀{t:Ty}{x:t.den},(∀p∈AJ t x,pY H' p.1=pY H p.1)→AI H' t x=AI H t x:=by
  intro t
  induction t with
  | rl e u=>
    intro x h;cases x with
    |none=>rfl
    | some p=>
      simp only[AI,Z0];rw[h p (by simp [AJ,Z1])]
  | pair a b iha ihb=>
    intro x h;simp only[AI];rw[iha (fun p hp=>h p (by simp only[AJ];exact G0.2 (.inl hp))),ihb (fun p hp=>h p (by simp only[AJ];exact G0.2 (.inr hp)))]
  |_=>intro x h;rfl
theorem aK3 {H H':List (Nat×pV)}{t:Ty}{i off:Nat}{e:qI}(h:K1 H t i off (pY H i)=some e) (hl: ∀id∈e.rds,pY H' id=pY H id):K1 H' t i off (pY H' i)=some e:=by
  have key: ∃v x ts z ps bs,pY H i=some (.cells v x ts)∧AI H v x=some z∧BE H (AJ v x)=some (ps,bs)∧TM t i (some (ps,bs)) (qT t (FT v) z off)=some e∧e.rds=i::q9 bs:=by
    unfold K1 at h;split at h
    case h_2=>cases h
    rename_i v x ts hb;cases hz:AI H v x with
    |none=>rw[hz] at h;cases h
    | some z=>
      rw[hz] at h;simp only[TN] at h;cases hsa:BE H (AJ v x) with
      |none=>rw[hsa] at h;cases h
      | some q=>
        obtain⟨ps,bs⟩:=q;rw[hsa] at h;refine⟨v,x,ts,z,ps,bs,hb,hz,hsa,h,?_⟩;unfold TM at h;split at h
        · rename_i e1 e2
          cases e1;simp only[aSC] at h;rw[←h]
        cases h
  obtain⟨v,x,ts,z,ps,bs,h1,h2,h3,h4,h5⟩:=key;obtain⟨k1,k2⟩:=aBU (H':=H') h3;have hk: ∀p∈AJ v x,pY H' p.1=pY H p.1:=fun p hp=>hl _ (by rw[h5];exact aSQ _ (k1 p hp));rw[hl i (by rw[h5];exact aS2),h1];simp only[K1];rw[aK2 hk,h2];simp only[TN];rw[k2 hk];exact h4
theorem aK4 {H H':List (Nat×pV)}{i off k n:Nat}{ti:TI}{e:qI}(h:MW H i off k n ti (pY H i)=some e) (hl: ∀id∈e.rds,pY H' id=pY H id):MW H' i off k n ti (pY H' i)=some e:=by
  obtain⟨ty,el,by',ar,ls⟩:=ti;cases ty with
  | list u=>
    cases hb:pY H i with
    |none=>rw[hb] at h;cases h
    | some b=>
      cases b with
      | cells v x ts=>
        rw[hb] at h;simp only[MW] at h
        have hi:i∈e.rds:=by
          rcases aAJ h with h|h|h
          · unfold MU at h;split at h
            .simp only[aSC] at h;rw[←h];simp
            cases h
          · unfold Z8 at h;split at h
            .simp only[aSC] at h;rw[←h];simp
            cases h
          unfold PP at h;split at h
          · split at h
            · unfold TT at h;split at h
              .simp only[aSC] at h;rw[←h];simp
              cases h
            cases h
          cases h
        rw[hl i hi,hb];simp only[MW];unfold Z9 at h|-;cases hz:MU v i (sZ ts off 1) (sB (.rl el u) (some (k,n)) v x off) with
        |some r=>rw[hz] at h;exact h
        | none=>
          rw[hz] at h;cases ls with
          |nil=>exact h
          | cons q r=>
            simp only[a9M] at h|-
            have hk:k∈e.rds:=by
              unfold PP at h;split at h
              · split at h
                · unfold TT at h;split at h
                  .simp only[aSC] at h;rw[←h];simp
                  cases h
                cases h
              cases h
            rw[hl k hk];exact h
      |_=>rw[hb] at h;cases h
  |_=>cases h
theorem aK5 {Γ:sV}{H H':List (Nat×pV)}{x:Nat×Nat×(Nat×Nat)×(Nat×Nat)}{args:List pW}{ti:Option TI}{e:qI}(h:K8 Γ H x args ti=some e) (hl: ∀id∈e.rds,pY H' id=pY H id):K8 Γ H' x args ti=some e:=by
  unfold K8 at h;split at h
  case h_2=>cases h
  rename_i c i k3 n3 k4 n4 s kk el by' ar ls;simp only[K8]
  have key:e.rds=[i,k3,k4]:=by
    unfold UB at h;split at h
    case h_2=>cases h
    unfold ZN at h;split at h
    case h_2=>cases h
    unfold ZM at h;split at h
    case h_2=>cases h
    unfold ZL at h;split at h
    case h_2=>cases h
    unfold ZK at h;split at h
    .simp only[aSC] at h;rw[←h]
    cases h
  rw[hl i (by rw[key];simp)];unfold UB at h|-;split at h
  case h_2=>cases h
  rw[hl k3 (by rw[key];simp),hl k4 (by rw[key];simp)];exact h
theorem aK6 {T:sG}{Γ:sV}{H H':List (Nat×pV)}{base:Nat}{args:List pW}{f:pW}{e:qI}(h:MY T Γ base H args f=some e) (hl: ∀i∈e.rds,pY H' i=pY H i):MY T Γ base H' args f=some e:=by
  unfold MY at h|-;split at h
  .exact aK5 h hl
  · unfold ZP at h|-
    split at h
    · rename_i hf
      rw[aSB hf];exact h
    rename_i hf
    rw[aSD hf];exact aBT h hl
  exact aBT h hl
theorem aK7 {T:sG}{Γ:sV}{ty:TypeId}{ρ:Operand→pW}{base:Nat}{op:Op}{e:qI}(h:u6 T Γ ty ρ base H op=some e) (hl: ∀i∈e.rds,pY H' i=pY H i):u6 T Γ ty ρ base H' op=some e:=by
  cases op
  case load t x=>
    simp only[u6] at h|-;unfold TO at h|-;split at h
    · rename_i ti k n c i o' _ e1 e2
      unfold PM at h;split at h
      · rename_i e' t' l m hg
        split at h
        · rename_i hc
          have:e.rds=[k]:=by
            unfold a9F at h;split at h
            .simp only[aSC] at h;rw[←h]
            cases h
          rw[hl k (by rw[this];simp),hg];simp only[PM];rw[aSB hc];exact h
        cases h
      cases h
    .exact h
    · rename_i ti i off k e1 e2
      split at h
      · rename_i hq
        rw[aSB hq];exact aK3 h hl
      rename_i hq;rw[aSD hq];rcases aAx h with h1|⟨h0,h1⟩
      · have hi:i∈e.rds:=by
          rcases aAw h1 with h|h
          · unfold PL at h
            split at h
            · unfold a9E at h;split at h
              .simp only[aSC] at h;rw[←h];simp
              cases h
            cases h
          unfold TH at h
          split at h
          · unfold YV at h;split at h
            .simp only[aSC] at h;rw[←h];simp
            cases h
          cases h
        rw[hl i hi,h1];rfl
      obtain⟨hi,h2⟩:=aKV h1 hl
      rw[hl i hi,h0];rw[hl i hi] at h2;exact h2
    cases h
  case store t x y=>
    simp only[u6] at h|-;unfold TX at h|-;split at h
    · rename_i ti i off k kk n k' e1 e2 e3
      exact aK4 h hl
    · rename_i ti i off _ d _ e1 e2 e3
      have hi:i∈e.rds:=by
        unfold Z5 at h;split at h
        · unfold Z4 at h
          split at h
          · unfold Z3 at h
            split at h
            .simp only[aSC] at h;rw[←h];simp
            cases h
          cases h
        cases h
      rw[hl i hi];exact h
    · rename_i ti k n c i o' _ t y k' e1 e2 e3
      split at h
      · rename_i ht
        rw[aSB ht];unfold TW at h;split at h
        · rename_i e' t' l m hg
          split at h
          · rename_i hc
            have:e.rds=[k]:=by
              unfold a9L at h;split at h
              .simp only[aSC] at h;rw[←h]
              cases h
            rw[hl k (by rw[this];simp),hg];simp only[TW];rw[aSB hc];exact h
          cases h
        cases h
      cases h
    · rename_i ti i off k t y k' e1 e2 e3
      split at h
      · rename_i ht
        have hi:e.rds=[i]:=by
          have main: ∀e0,FU base i off (pY H i) ti.ls t y k'=some e0→e0.rds=[i]∧∃b r,e0.upd=(i,b)::r:=by
            intro e0 h;unfold FU at h;split at h
            · unfold TQ at h
              split at h
              · unfold a9I at h;split at h
                .simp only[aSC] at h;rw[←h];exact⟨rfl,_,_,rfl⟩
                cases h
              cases h
            unfold TP at h
            split at h
            · unfold MU at h;split at h
              .simp only[aSC] at h;rw[←h];exact⟨rfl,_,_,rfl⟩
              cases h
            cases h
          cases hb':K2 t with
          |false=>rw[hb'] at h;exact(main e h).1
          | true=>
            rw[hb'] at h;simp only[Z2] at h;cases h0:FU base i off (pY H i) ti.ls t y k' with
            |none=>rw[h0] at h;cases h
            | some e0=>
              rw[h0] at h;obtain⟨m1,b,r,m2⟩:=main e0 h0;obtain⟨sd,s,up,rd⟩:=e0;simp only at m1 m2;subst m1 m2;unfold PO at h;split at h
              · rename_i heq
                cases heq;split at h
                · unfold TR at h
                  split at h
                  .simp only[aSC] at h;rw[←h]
                  cases h
                cases h
              cases h
        rw[hl i (by rw[hi];simp)];simp only[aSB ht];exact h
      cases h
    cases h
  case call c=>
    obtain⟨callee,args,tys⟩:=c;cases callee with
    | builtin b=>
      cases b
      case append=>
        simp only[u6,K9] at h|-;unfold UA at h|-;split at h
        · split at h
          · rename_i hu
            rw[aSB hu];unfold U5 at h|-;split at h
            · split at h
              · rename_i hbu
                rw[aSB hbu];unfold U4 at h;split at h
                · rename_i hg
                  split at h
                  · rename_i hbt
                    split at h
                    · rename_i hc
                      simp only[aSC] at h;subst h;rw[hl _ (aS2),hg];simp only[U4];rw[aUu hbt,aSB hc]
                    cases h
                  cases h
                cases h
              cases h
            · split at h
              · rename_i hba
                rw[aUu hba];unfold U3 at h;split at h
                · rename_i hg
                  split at h
                  · rename_i hc
                    simp only[aSC] at h;subst h;rw[hl _ (aS2),hg];simp only[U3];rw[aSB hc]
                  cases h
                cases h
              cases h
            cases h
          rename_i hu
          rw[aSD hu];unfold ZI at h|-;split at h
          · unfold U9 at h
            split at h
            · rename_i hg
              split at h
              · rename_i hc
                simp only[aSC] at h;subst h;rw[hl _ (aS2),hg];simp only[U9];rw[aSB hc]
              cases h
            cases h
          cases h
        cases h
      case len=>
        simp only[u6,K9] at h|-;unfold U8 at h|-;split at h
        · unfold ZG at h|-
          split at h
          · unfold U1 at h
            split at h
            · rename_i hg
              simp only[aSC] at h;subst h;rw[hl _ (aS2),hg];simp only[U1]
            cases h
          all_goals exact h
        cases h
      all_goals exact h
    | value f=>
      simp only[u6,K9] at h|-;cases hsl:K5 args.toList tys.toList with
      |false=>rw[hsl] at h;cases h
      |true=>rw[hsl] at h;exact aK6 h hl
    |_=>exact h
  case makeFunc f first caps=>
    cases f with
    |func f=>exact h
    |_=>exact h
  case slice t x lo hi mx=>
    cases mx with
    |none=>exact h
    |some m=>exact h
  case next x b=>
    simp only[u6] at h|-;unfold UG at h|-;split at h
    · rename_i i k e1
      unfold ZV at h;split at h
      · rename_i hg
        have:e.rds=[i]:=by
          simp only[aSC] at h;rw[←h]
        rw[hl i (by rw[this];simp),hg];exact h
      cases h
    cases h
  case lookup xt x ix ok=>
    simp only[u6] at h|-;unfold UD at h|-;split at h
    · rename_i el fl ar ls_ i kk e1 e2
      unfold ZS at h|-;split at h
      · rename_i kt vt k a _
        split at h
        · rename_i hk
          rw[aSB hk];unfold UC at h;split at h
          · rename_i hg
            split at h
            · rename_i hkv
              split at h
              · rename_i hkey
                have:e.rds=[i]:=by
                  cases ok<;>(simp only[aSC] at h;rw[←h])
                rw[hl i (by rw[this];simp),hg];simp only[UC];rw[aUu hkv,aSB hkey];exact h
              cases h
            cases h
          cases h
        cases h
      cases h
    .exact h
    cases h
  case mapUpdate mt m x y=>
    simp only[u6] at h|-;unfold N0 at h|-;split at h
    · rename_i el fl ar ls_ i kk e1 e2
      unfold UE at h|-;split at h
      · rename_i kt k a _ u b _
        split at h
        · rename_i hk
          rw[aSB hk];unfold MZ at h;split at h
          · rename_i hg
            split at h
            · rename_i hkv
              split at h
              · rename_i hkey
                have:e.rds=[i]:=by
                  simp only[aSC] at h;rw[←h]
                rw[hl i (by rw[this];simp),hg];simp only[MZ];rw[aUu hkv,aSB hkey];exact h
              cases h
            cases h
          cases h
        cases h
      cases h
    cases h
  case insert mt m x y=>
    simp only[u6] at h|-;unfold N0 at h|-;split at h
    · rename_i el fl ar ls_ i kk e1 e2
      unfold UE at h|-;split at h
      · rename_i kt k a _ u b _
        split at h
        · rename_i hk
          rw[aSB hk];unfold MZ at h;split at h
          · rename_i hg
            split at h
            · rename_i hkv
              split at h
              · rename_i hkey
                have:e.rds=[i]:=by
                  simp only[aSC] at h;rw[←h]
                rw[hl i (by rw[this];simp),hg];simp only[MZ];rw[aUu hkv,aSB hkey];exact h
              cases h
            cases h
          cases h
        cases h
      cases h
    cases h
  all_goals exact h
end
def aK8 {T:sG}{Γ:sV}{ops:Array Oper}{o:Oper}{s s':St}{e:qI}(h:N4 T Γ ops.toList o s=some e) (ht: ∀t∈o.looksAt ops,lk s'.env t=lk s.env t) (hH: ∀i∈e.rds,pY s'.H i=pY s.H i) (hn:s'.nb=s.nb):N4 T Γ ops.toList o s'=some e:=by
 have hop: ∀x∈o.op.operands,tT s'.env x=tT s.env x:=fun x hx=>by
  cases x with
  |tmp t=>exact ht t (by simp only[Oper.looksAt,aTR,List.mem_filterMap];exact .inl ⟨.tmp t,by simpa using hx,rfl⟩)
  |_=>rfl
 have hops:C5 s'.env (sF o.op)=C5 s.env (sF o.op):=by
  have hsub: ∀x∈sF o.op,x∈o.op.operands:=by
   have hp: ∀(l:List (Nat×Operand)) x,x∈sF.parts l->x∈l.map (·.2):=by
    intro l
    induction l with
    |nil=>intro x h;exact h
    |cons q l ih=>
     intro x h;obtain⟨i,y⟩:=q;simp only[sF.parts,aSP] at h;rcases h with rfl|h
     .simp
     simp only[aTV,aSP];exact .inr (ih x h)
   have ho: ∀(y:Option Operand) x,x∈sF.opt y->y=some x:=by
    intro y x h;cases y with
    |none=>cases h
    |some y=>simp only[sF.opt,aST] at h;rw[h]
   intro x hx;cases hop:o.op
   case call c=>
    rw[hop] at hx;obtain⟨callee,args,tys⟩:=c;cases callee<;>simp_all [sF,Op.operands,Call.operands]
   case slice t y lo hi mx=>
    rw[hop] at hx;simp only[sF,aSP,wH] at hx;simp only[Op.operands,Array.mem_append];rcases hx with rfl|hx|hx
    .simp
    .have:=ho _ _ hx;subst this;simp
    have:=ho _ _ hx;subst this;simp
   case build t ps=>rw[hop] at hx;simp only[Op.operands,aUr];exact hp _ _ hx
   case buildSlice t n ps=>rw[hop] at hx;simp only[Op.operands,aUr];exact hp _ _ hx
   all_goals (rw[hop] at hx;simp_all [sF,Op.operands])
  have: ∀(l:List Operand),(∀x∈l,x∈o.op.operands)->C5 s'.env l=C5 s.env l:=by
   intro l
   induction l with
   |nil=>intro _;rfl
   |cons x l ih=>intro h;simp only[C5,hop x (h x pD),ih (fun y hy=>h y (aSQ _ hy))]
  exact this _ hsub
 have hpl: ∀{e0:qI},u6 T Γ o.type (fun x=>sL (tT s.env x)) s.nb s.H o.op=some e0->e0.rds=e.rds->u6 T Γ o.type (fun x=>sL (tT s'.env x)) s'.nb s'.H o.op=some e0:=by
  intro e0 h1 h2;rw[aKW (ρ:=fun x=>sL (tT s.env x)) (ρ':=fun x=>sL (tT s'.env x)) o.op (fun x hx=>by simp only[hop x hx]),hn];exact aK7 h1 (by rw[h2];exact hH)
 unfold N4 at h|-;cases hg:o.guard with
 |none=>
  rw[hg] at h;simp only at h|-;by_cases hpk: ∃c x y,o.op= .pick c x y
  .obtain⟨c,x,y,hp⟩:=hpk;rw[hp] at h|-;simp only[N3] at h|-;rw[hop c (by rw[hp];simp [Op.operands]),hop x (by rw[hp];simp [Op.operands]),hop y (by rw[hp];simp [Op.operands])];exact h
  .have e1: ∀s,N3 T Γ o s o.op=N1 (yS true (C5 s.env (sF o.op))) (u6 T Γ o.type (fun x=>sL (tT s.env x)) s.nb s.H o.op):=by
    intro s;cases ho:o.op<;>first|rfl|(exact absurd ⟨_,_,_,ho⟩ hpk)
   rw[e1] at h|-;rw[hops];cases hp0:u6 T Γ o.type (fun x=>sL (tT s.env x)) s.nb s.H o.op with
   |none=>rw[hp0] at h;cases h
   |some e0=>
    rw[hp0] at h;simp only[N1,aSC] at h;rw[hpl hp0 (by rw[<-h])];simp only[N1,h]
 |some jb=>
  obtain⟨j,b⟩:=jb;rw[hg] at h;simp only at h|-;have hgu:FX s'.env b (zW ops.toList j)=FX s.env b (zW ops.toList j):=by
   rw[QD];cases hd:(ops.toList[j]?).bind (·.dst) with
   |none=>rfl
   |some t=>
    simp only[FX];rw[ht t (by
     simp only[Oper.looksAt,hg,aTR];right;have:(ops[j]?).bind (·.dst)=some t:=by simpa using hd
     rw[this];simp)]
  have hup:KA s'.env b (zW ops.toList j)=KA s.env b (zW ops.toList j):=by
   rw[QD];cases hd:(ops.toList[j]?).bind (·.dst) with
   |none=>rfl
   |some t=>
    simp only[KA];rw[ht t (by
     simp only[Oper.looksAt,hg,aTR];right;have:(ops[j]?).bind (·.dst)=some t:=by simpa using hd
     rw[this];simp)]
  rw[hgu,hup];cases hsk:Γ (UH j b) with
  |some sg=>rw[hsk] at h;exact h
  |none=>
  rw[hsk] at h;simp only[PS] at h|-;cases hG:FX s.env b (zW ops.toList j) with
  |none=>rw[hG] at h;cases h
  |some G=>
   rw[hG] at h;by_cases hpk: ∃c x y,o.op= .pick c x y
   .obtain⟨c,x,y,hp⟩:=hpk;rw[hp] at h|-;simp only[N2] at h|-;rw[hop c (by rw[hp];simp [Op.operands]),hop x (by rw[hp];simp [Op.operands]),hop y (by rw[hp];simp [Op.operands])];exact h
   have e1: ∀s,N2 T Γ o s (some G) o.op=HR G (yS G (C5 s.env (sF o.op))) (u6 T Γ o.type (fun x=>sL (tT s.env x)) s.nb s.H o.op):=by
    intro s;cases ho:o.op<;>first|rfl|(exact absurd ⟨_,_,_,ho⟩ hpk)
   rw[e1] at h|-;rw[hops];cases hp0:u6 T Γ o.type (fun x=>sL (tT s.env x)) s.nb s.H o.op with
   |none=>rw[hp0] at h;cases h
   |some e0=>
    rw[hp0] at h;have hrd:e0.rds=e.rds:=by
     unfold HR at h;split at h
     .rename_i heq;simp only[aSC] at h heq;subst heq;rw[<-h]
     .rename_i heq;simp only[aSC] at h heq;subst heq;rw[<-h]
     cases h
    rw[hpl hp0 hrd];exact h
def a08 {T:sG}{Γ:sV}{ops:Array Oper}{o:Oper}{s s':St}{e:qI}(h:zJ T Γ ops.toList o s=some e) (ht: ∀t∈o.looksAt ops,lk s'.env t=lk s.env t) (hH: ∀i∈e.rds,pY s'.H i=pY s.H i) (hn:s'.nb=s.nb) (hp:s'.np=s.np):zJ T Γ ops.toList o s'=some e:=by
 obtain⟨h1,h2⟩:=QF h;unfold zJ at h|-;rw[h1] at h;rw[aK8 h1 ht hH hn,hp];exact h
def uG {α:Type}(p:Nat->Bool) (wr:Nat->Option α) (b:α):Nat->α
 |0=>b
 |k+1=>if p k=true then(wr k).getD (uG p wr b k) else uG p wr b k
def KV {α:Type}{p q:Nat->Bool}{wr:Nat->Option α}{b:α}: ∀{n:Nat},(∀j,j<n->wr j≠none->p j=q j)->uG p wr b n=uG q wr b n
 |0,_=>rfl
 |n+1,h=>by
  simp only[uG];have ih:=KV (p:=p) (q:=q) (wr:=wr) (b:=b) (n:=n) (fun j hj=>h j pB);cases hw:wr n with
  |none=>simp [ih]
  |some v=>rw[h n pB (by rw[hw];simp),ih]
def a09 {α:Type}{wr:Nat->Option α}{b:α}{i:Nat}: ∀{n:Nat},i<=n->uG (fun j=>decide (j<i)) wr b n=uG (fun _=>true) wr b i
 |0,h=>by
  have:i=0:=by omega
  subst this;rfl
 |n+1,h=>by
  by_cases hi:i=n+1
  .subst hi;exact KV (fun j hj _=>by simp [hj])
  have: ¬n<i:=by omega
  simp only[uG];rw[aSD (by simp [this])];exact a09 pB
def VO {α:Type}{p q:Nat->Bool}{wr:Nat->Option α}{b:α}{i:Nat}(hi:p i=false) (hq: ∀j,q j=if j=i then true else p j): ∀{n:Nat},i<n->(∀j,i<j->j<n->p j=true->wr j=none\/wr i=none)->uG q wr b n=(wr i).getD (uG p wr b n)
 |0,h,_=>by omega
 |n+1,h,hd=>by
  simp only[uG];by_cases hn:n=i
  .subst hn;rw[aSB (by rw[hq];simp),aSD (by simp [hi])];rw[KV (p:=q) (q:=p) (fun j hj _=>by rw[hq,aSD pB])]
  have ih:=VO (b:=b) hi hq (n:=n) pB (fun j h1 h2=>hd j h1 pB);rw[hq,aSD hn,ih];by_cases hp:p n=true
  .rw[aSB hp,aSB hp];rcases hd n pB pB hp with h1|h1
   .rw[h1];rfl
   rw[h1];rfl
  rw[aSD hp,aSD hp]
def a1a {α:Type}{p:Nat->Bool}{wr:Nat->Option α}{b:α}: ∀(k:Nat),uG p wr b (k+1)=uG (fun j=>p (j+1)) (fun j=>wr (j+1)) (if p 0=true then(wr 0).getD b else b) k
 |0=>rfl
 |k+1=>by
  rw[uG,a1a k];rfl
def a1b {rds:pL}{i:Nat}: ∀{u:List (Nat×pV)},i∈q9 (HV rds u)↔i∈q9 u/\C6 i rds=false
 |[]=>by simp [HV,q9]
 |(j,b)::u=>by
  simp only[HV];cases h:C6 j rds with
  |true=>
   rw[aSB rfl,a1b (u:=u)];simp only[q9,aSP];constructor
   .rintro⟨h1,h2⟩;exact⟨.inr h1,h2⟩
   .rintro⟨rfl|h1,h2⟩
    .rw[h] at h2;cases h2
    .exact⟨h1,h2⟩
  |false=>
   rw[aSD pD];simp only[q9,aSP,a1b (u:=u)];constructor
   .rintro(rfl|⟨h1,h2⟩)
    .exact⟨.inl rfl,h⟩
    exact⟨.inr h1,h2⟩
   rintro⟨rfl|h1,h2⟩
   .exact .inl rfl
   exact .inr ⟨h1,h2⟩
def NC {e:qI}{i:Nat}:i∈q9 (xL e)↔i∈q9 e.upd/\C6 i e.rds=false:=a1b
def aBV {i:Nat}: ∀{l:pL},C6 i l=true->i∈l
 |[],h=>by cases h
 |j::l,h=>by
  simp only[C6] at h;split at h
  .rename_i e;subst e;exact aS2
  exact aSQ _ (aBV h)
def aBW {H U:List (Nat×pV)}{rds:pL}{i:Nat}(h:C6 i rds=true): ∀{u:List (Nat×pV)},i∈q9 u->(pY U i=pY H i)∈KB H U rds u
 |[],hi=>by cases hi
 |(j,b)::u,hi=>by
  simp only[KB];simp only[q9,aSP] at hi;rcases hi with rfl|hi
  .rw[aSB h];exact aS2
  have:=aBW (H:=H) (U:=U) h hi;split
  .exact aSQ _ this
  exact this
def aK9 {H:List (Nat×pV)}{e:qI}(hs: ∀p∈KB H e.upd e.rds e.upd,p) {i:Nat}(h1:i∈q9 e.upd) (h2:i∉q9 (xL e)):pY e.upd i=pY H i/\i∈e.rds:=by
 have h:C6 i e.rds=true:=by
  cases h3:C6 i e.rds with
  |true=>rfl
  |false=>exact absurd (NC.2 ⟨h1,h3⟩) h2
 exact⟨hs _ (aBW h h1),aBV h⟩
def AN (os:List Oper) (es:List qI) (t j:Nat):Option pW:=
 match os[j]?,es[j]? with
 |some o,some e=>if o.dst=some t then some e.slot else none
 |_,_=>none
def xP (es:List qI) (id j:Nat):Option (Option pV):=
 match es[j]? with
 |some e=>if id∈q9 (xL e) then some (pY e.upd id) else none
 |none=>none
def ND {id:Nat}{H:rX}: ∀{u:List (Nat×pV)},pY (qS u H) id=if id∈q9 u then pY u id else pY H id
 |[]=>by simp [qS,q9]
 |(k,b)::u=>by
  simp only[qS,pY,q9,aSP];by_cases h:k=id
  .subst h;simp
  rw[aSD h,aSD h,ND (u:=u)];have:(id=k\/id∈q9 u)↔id∈q9 u:=⟨fun h'=>h'.resolve_left (Ne.symm h),.inr⟩;simp only[this]
def aBX {d:Option Tmp}{s:pW}{env:List (Nat×pW)}{t:Nat}:lk (uJ d s env) t=if d=some t then s else lk env t:=by
 cases d with
 |none=>simp [uJ]
 |some d=>simp only[uJ,lk,aSC]
structure a1c (T:sG) (Γ:sV) (ops:List Oper) (os:List Oper) (es:List qI) (s:St) (y:vS) (k:Nat) (o:Oper) (e:qI) (sk:St):Prop where
 ev:zJ T Γ ops o sk=some e
 nb:sk.nb=s.nb+32*k
 dst:HT s.N o.dst=true
 ids:HU (s.nb+32*k+32) e.upd=true
 np:sk.np=s.np
 side: ∀p∈e.side,p∈y.side
 env: ∀t,lk sk.env t=uG (fun _=>true) (AN os es t) (lk s.env t) k
 heap: ∀id,pY sk.H id=uG (fun _=>true) (xP es id) (pY s.H id) k
 same: ∀id,id∈q9 e.upd->id∉q9 (xL e)->pY e.upd id=pY sk.H id/\id∈e.rds
structure a1d (T:sG) (Γ:sV) (ops:List Oper) (os:List Oper) (es:List qI) (s:St) (y:vS):Prop where
 len:es.length=os.length
 nb:y.s.nb=s.nb+32*os.length
 step: ∀k o e,os[k]? =some o->es[k]? =some e->∃sk,a1c T Γ ops os es s y k o e sk
 env: ∀t,lk y.s.env t=uG (fun _=>true) (AN os es t) (lk s.env t) os.length
 heap: ∀id,pY y.s.H id=uG (fun _=>true) (xP es id) (pY s.H id) os.length
def VP {T:sG}{Γ:sV}{ops:List Oper}: ∀{l:List Oper}{x y:vS},uL T Γ ops l (some x)=some y->(∀p∈y.side,p)->∃es:List qI,y.es=es.reverse++x.es/\a1d T Γ ops l es x.s y
 |[],x,y,h,_=>by
  simp only[uL,aSC] at h;subst h;exact⟨[],rfl,rfl,rfl,fun k o e h=>by simp at h,fun _=>rfl,fun _=>rfl⟩
 |o::l,x,y,h,hsy=>by
  obtain⟨e,h1,h2,h3,h4⟩:=a04 h;obtain⟨es,h5,h6⟩:=VP h4 hsy;have hsame: ∀{i:Nat},i∈q9 e.upd->i∉q9 (xL e)->pY e.upd i=pY x.s.H i/\i∈e.rds:=fun h1 h2=>aK9 (fun p hp=>hsy p ((G8 h4).1 p (wH.2 (.inr (wH.2 (.inl hp)))))) h1 h2;have envs: ∀t k,uG (fun _=>true) (AN (o::l) (e::es) t) (lk x.s.env t) (k+1)=uG (fun _=>true) (AN l es t) (lk (uJ o.dst e.slot x.s.env) t) k:=fun t k=>by
   rw[a1a,aSB rfl,aBX];have:(AN (o::l) (e::es) t 0).getD (lk x.s.env t)=if o.dst=some t then e.slot else lk x.s.env t:=by
    simp only[AN,aTf];split<;>rfl
   rw[this];rfl
  have heaps: ∀id k,uG (fun _=>true) (xP (e::es) id) (pY x.s.H id) (k+1)=uG (fun _=>true) (xP es id) (pY (qS e.upd x.s.H) id) k:=fun id k=>by
   rw[a1a,aSB rfl,ND];have:(xP (e::es) id 0).getD (pY x.s.H id)=if id∈q9 e.upd then pY e.upd id else pY x.s.H id:=by
    simp only[xP,aTf];by_cases h7:id∈q9 (xL e)
    .rw[aSB h7,aSB (NC.1 h7).1];rfl
    rw[aSD h7];by_cases h8:id∈q9 e.upd
    .rw[aSB h8,(hsame h8 h7).1];rfl
    rw[aSD h8];rfl
   rw[this];rfl
  refine⟨e::es,by rw[h5];simp,by simp [h6.len],?_,?_,fun t=>?_,fun id=>?_⟩
  .have:=h6.nb;simp only at this;rw[this];simp only[aSI];omega
  .intro k o' e' ho he;cases k with
   |zero=>
    simp only[aTf,aSC] at ho he;subst ho;subst he;exact⟨x.s,h1,rfl,h2,h3,rfl,fun p hp=>(G8 h4).1 p (wH.2 (.inr (wH.2 (.inr hp)))),fun _=>rfl,fun _=>rfl,fun id=>hsame⟩
   |succ k=>
    simp only[aTp] at ho he;obtain⟨sk,q⟩:=h6.step k o' e' ho he;refine⟨sk,q.ev,by rw[q.nb];simp only;omega,q.dst,?_,q.np,q.side,fun t=>by rw[q.env t,envs],fun id=>by rw[q.heap id,heaps],q.same⟩;have:=q.ids;simp only at this;rw[show x.s.nb+32*(k+1)+32=x.s.nb+32+32*k+32 by omega];exact this
  .rw[aSI,envs];exact h6.env t
  rw[aSI,heaps];exact h6.heap id
def aBY {i0 j0:Nat}{ops:Array Oper}{bs:pL}{nb i:Nat}{o:Oper}{e:qI}: ∀{ps:List Oper}{fs:List qI}{j:Nat},UJ i0 j0 ops bs nb i o e ps fs j=true->∀k p f,ps[k]? =some p->fs[k]? =some f->
  (bs.getD (j+k) 0).testBit i=true\/(o.apart ops p=true/\(FY e f=true\/(i=i0/\j+k=j0))/\KC (nb+32*i) f.upd=true)
 |p::ps,f::fs,j,h,k,p',f',hp,hf=>by
  simp only[UJ,aSV,aUe,aSL] at h;cases k with
  |zero=>
   simp only[aTf,aSC] at hp hf;subst hp;subst hf;exact h.1.imp id (fun h=>⟨h.1.1,h.1.2,h.2⟩)
  |succ k=>
   simp only[aTp] at hp hf;have:=aBY h.2 k p' f' hp hf;rw[show j+(k+1)=j+1+k by omega];exact this
 |[],_,_,_,_,_,_,hp,_=>by simp at hp
 |_::_,[],_,_,_,_,_,_,hf=>by simp at hf
def a1e {i0 j0:Nat}{ops:Array Oper}{bs:pL}{nb:Nat}: ∀{os:List Oper}{es:List qI}{m:Nat},UK i0 j0 ops bs nb os es m=true->∀i j o e p f,i<j->os[i]? =some o->es[i]? =some e->os[j]? =some p->es[j]? =some f->
  (bs.getD (m+j) 0).testBit (m+i)=true\/(o.apart ops p=true/\(FY e f=true\/(m+i=i0/\m+j=j0))/\KC (nb+32*(m+i)) f.upd=true)
 |o'::os,e'::es,m,h,i,j,o,e,p,f,hij,ho,he,hp,hf=>by
  simp only[UK,aSV] at h;obtain⟨j,rfl⟩: ∃k,j=k+1:=⟨j-1,pB⟩;simp only[aTp] at hp hf;cases i with
  |zero=>
   simp only[aTf,aSC] at ho he;subst ho;subst he;have:=aBY h.1 j p f hp hf;rw[show m+(j+1)=m+1+j by omega];exact this
  |succ i=>
   simp only[aTp] at ho he;have:=a1e h.2 i j o e p f pB ho he hp hf;rw[show m+(j+1)=m+1+j by omega,show m+(i+1)=m+1+i by omega];exact this
 |[],_,_,_,_,_,_,_,_,_,_,ho,_,_,_=>by simp at ho
 |_::_,[],_,_,_,_,_,_,_,_,_,_,he,_,_=>by simp at he
def aBZ: ∀{os:List Oper}{m:Nat},UL os m=true->∀i o,os[i]? =some o->∀e∈o.after,Region.binds .any e=true->e.on<m+i
 |o'::os,m,h,i,o,ho,e,he,hb=>by
  simp only[UL,aSV] at h;cases i with
  |zero=>
   simp only[aTf,aSC] at ho;subst ho;have:=aUi.1 h.1 e (by simpa using he);simpa[hb] using this
  |succ i=>
   simp only[aTp] at ho;have:=aBZ h.2 i o ho e he hb;omega
 |[],_,_,_,_,ho,_,_,_=>by simp at ho
def VQ {l:pL}: ∀{u:List (Nat×pV)},PT u l=false->∀i,i∈q9 u->i∉l
 |(k,b)::u,h,i,hi=>by
  simp only[PT,aUp] at h;simp only[q9,aSP] at hi;rcases hi with rfl|hi
  .simpa using h.1
  exact VQ h.2 i hi
def NE {a b:qI}(h:FY a b=true):(∀i∈q9 (xL a),i∉b.rds/\i∉q9 b.upd)/\(∀i∈q9 (xL b),i∉a.rds):=by
 simp only[FY,aSV,aTg] at h;exact⟨fun i hi=>⟨fun h1=>VQ h.1 i hi (wH.2 (.inl h1)),fun h1=>VQ h.1 i hi (wH.2 (.inr h1))⟩,fun i hi=>VQ h.2 i hi⟩
def aB0 {lo:Nat}: ∀{u:List (Nat×pV)},KC lo u=true->∀i∈q9 u,i<lo\/lo+32<=i
 |(k,b)::u,h,i,hi=>by
  simp only[KC,aSV,aUe,aSL] at h;simp only[q9,aSP] at hi;rcases hi with rfl|hi
  .exact h.1
  exact aB0 h.2 i hi
def a1f (os:List Oper) (p:Nat->Bool):Prop:= ∀j o,os[j]? =some o->p j=true->∀e∈o.after,Region.binds .any e=true->p e.on=true
def aB1 {p:Nat->Bool}{acc:Array Nat}(hacc: ∀i j,(acc.getD i 0).testBit j=true->p i=true->p j=true) {i:Nat}: ∀{es:List Edge}{s:Nat},(s.testBit i=true->p i=true)->(∀e∈es,Region.binds .any e=true->p e.on=true)->
  (es.foldl (fun s e=>if Region.binds .any e then s|||2^e.on|||acc.getD e.on 0 else s) s).testBit i=true->p i=true
 |[],s,hs,_,h=>hs h
 |e::es,s,hs,he,h=>by
  simp only[List.foldl_cons] at h;refine aB1 hacc (es:=es) (fun h1=>?_) (fun e' h'=>he e' (aSQ _ h')) h;split at h1
  .rename_i hb;simp only[Nat.testBit_or,aUe,Nat.testBit_two_pow,aSL] at h1;rcases h1 with(h1|h1) |h1
   .exact hs h1
   .rw[<-h1];exact he e pD hb
   exact hacc _ _ h1 (he e pD hb)
  exact hs h1
def aB2 {p:Nat->Bool}: ∀{os:List Oper}{acc:Array Nat},(∀i j,(acc.getD i 0).testBit j=true->p i=true->p j=true)->(∀j o,os[j]? =some o->p (acc.size+j)=true->∀e∈o.after,Region.binds .any e=true->p e.on=true)->
  ∀i j,((os.foldl (fun acc o=>acc.push (o.after.foldl (fun s e=>if Region.binds .any e then s|||2^e.on|||acc.getD e.on 0 else s) 0)) acc).getD i 0).testBit j=true->p i=true->p j=true
 |[],acc,hacc,_,i,j,h,hp=>hacc i j h hp
 |o::os,acc,hacc,hos,i,j,h,hp=>by
  simp only[List.foldl_cons] at h;refine aB2 (os:=os) (fun i j h hp=>?_) (fun k o' ho hk=>?_) i j h hp
  .rw[aTb,Array.getElem?_push] at h;split at h
   .rename_i hi;simp only[aT1] at h;rw[<-aUw] at h;refine aB1 hacc (es:=o.after.toList) (s:=0) (fun h=>by simp at h) (fun e he hb=>hos 0 o rfl (by rw[hi] at hp;exact hp) e (by simpa using he) hb) h
   rw[<-aTb] at h;exact hacc i j h hp
  refine hos (k+1) o' ho ?_;rw[Array.size_push] at hk;rw[show acc.size+(k+1)=acc.size+1+k by omega];exact hk
def aB3 {ops:Array Oper}{p:Nat->Bool}(hp:a1f ops.toList p) {i j:Nat}(h:((Region.before ops).toList.getD i 0).testBit j=true) (hi:p i=true):p j=true:=by
 refine aB2 (os:=ops.toList) (acc:= #[]) (p:=p) (fun i j h=>by simp at h) (fun j o ho hj=>hp j o ho (by simpa using hj)) i j ?_ hi;unfold Region.before at h;rw[<-aUw] at h;rw[aTb,<-aTE,<-aSZ];exact h
def CW (l:Array Bool):Nat->Nat
 |0=>0
 |k+1=>CW l k+if l.getD k false=true then 0 else 1
theorem aB4 {l l':Array Bool}: ∀{n:Nat},(∀j,j<n->l'.getD j false=l.getD j false)->CW l' n=CW l n
 |0,_=>rfl
 |n+1,h=>by simp only[CW];rw[aB4 (fun j hj=>h j pB),h n pB]
theorem aB5 {l:Array Bool}: ∀{n:Nat},CW l n=0->∀j,j<n->l.getD j false=true
 |n+1,h,j,hj=>by
  simp only[CW] at h;by_cases hn:l.getD n false=true
  .by_cases hjn:j=n
   .subst hjn;exact hn
   exact aB5 (n:=n) pB j pB
  rw[aSD hn] at h;omega
theorem G9 {l:Array Bool}{i j:Nat}(hi:i<l.size):(l.setIfInBounds i true).getD j false=if j=i then true else l.getD j false:=by
 by_cases h:j=i
 .subst h;rw[aSB rfl,aTb,Array.getElem?_setIfInBounds_self_of_lt hi];rfl
 rw[aSD h,aTb,aTN (Ne.symm h),<-aTb]
theorem aB6 {l:Array Bool}{i:Nat}(hi:i<l.size) (hf:l.getD i false=false): ∀{n:Nat},i<n->CW (l.setIfInBounds i true) n+1=CW l n
 |n+1,h=>by
  simp only[CW];by_cases hn:n=i
  .subst hn;rw[G9 hi,aSB rfl,aSB rfl,hf,aB4 (l:=l) (fun j hj=>by rw[G9 hi,aSD pB])];simp
  rw[G9 hi,aSD hn];have:=aB6 hi hf (n:=n) pB;omega
theorem aB7 {p:Nat->Bool}: ∀{n:Nat},(∃j,j<n/\p j=false)->∃j,j<n/\p j=false/\∀k,k<j->p k=true
 |0,⟨j,h,_⟩=>by omega
 |n+1,⟨j,h,hj⟩=>by
  by_cases hs: ∃j,j<n/\p j=false
  .obtain⟨k,h1,h2,h3⟩:=aB7 hs;exact⟨k,pB,h2,h3⟩
  refine⟨j,h,hj,fun k hk=>?_⟩;cases hp:p k with
  |true=>rfl
  |false=>exact absurd ⟨k,pB,hp⟩ hs
theorem s5.ext {g:Gh}{w:pM}{H H':rX}(h:s5 g w H) (e: ∀i,pY H' i=pY H i):s5 g w H':=
 ⟨fun i b hb=>h.blk i b (by rw[<-e];exact hb),fun i j bi bj b o hij h1 h2=>h.dis i j bi bj b o hij (by rw[<-e];exact h1) (by rw[<-e];exact h2),h.sl,h.tab.1,fun i b bb oo hb ho=>h.tab.2 i b bb oo (by rw[<-e];exact hb) ho⟩
theorem sX.ext {A:Nat->Nat->Prop}{L:List pV}{g0 g:Gh}{w0 w:pM}{H H':rX}(h:sX A L g0 w0 g w H) (e: ∀i,pY H' i=pY H i):sX A L g0 w0 g w H':=
 ⟨h.shut,h.fr,fun i blk b o hb=>h.perm i blk b o (by rw[<-e];exact hb),h.J,h.live,fun i u y us hi hb=>h.ty i u y us hi (by rw[<-e];exact hb),h.cur⟩
theorem aB8 (g:Gh) (w:pM) (d:Nat):Le g w g {w with drawn:=d}:=⟨fun _ _ h=>h,fun _ _ _=>rfl,fun _ _ h=>h,fun _ _ _ h=>h⟩
theorem s5.drawn {g:Gh}{w:pM}{H:rX}(h:s5 g w H) (d:Nat):s5 g {w with drawn:=d} H:=
 ⟨fun i b hb=>HZ (h.blk i b hb) (aB8 g w d) rfl rfl (fun _ _ _=>⟨rfl,rfl⟩) (fun _ _=>rfl) (fun _ _ _ h=>h) (fun _ _ _ _ h=>h),h.dis,h.sl,HI h.tab.1 (aSW _) (fun _ _=>rfl),h.tab.2⟩
theorem sX.drawn {A:Nat->Nat->Prop}{L:List pV}{g0 g:Gh}{w0 w:pM}{H:rX}(h:sX A L g0 w0 g w H) (d:Nat):sX A L g0 w0 g {w with drawn:=d} H:=
 ⟨h.shut,⟨h.fr.os,h.fr.tape,h.fr.output,h.fr.size,h.fr.blk,h.fr.cell,h.fr.new,h.fr.shape⟩,h.perm,h.J,h.live,h.ty,h.cur⟩
theorem a1g {rds:pL}{id:Nat}(h:C6 id rds=false): ∀{u:List (Nat×pV)},pY (HV rds u) id=pY u id
 |[]=>rfl
 |(k,b)::u=>by
  simp only[HV,pY];by_cases hk:k=id
  .subst hk;rw[aSD (by rw[h];simp)];simp [pY]
  split
  .exact a1g h
  simp only[pY,aSD hk];exact a1g h
theorem aLa {e:qI}{id:Nat}(h:C6 id e.rds=false):pY (xL e) id=pY e.upd id:=a1g h
theorem aB9 {T:sG}{Γ:sV}{ops:List Oper}: ∀{k:Nat}{l:List Oper}{x y:vS},uL T Γ ops l (some x)=some y->∃a,uL T Γ ops (l.take k) (some x)=some a/\uL T Γ ops (l.drop k) (some a)=some y
 |0,l,x,y,h=>⟨x,rfl,h⟩
 |k+1,[],x,y,h=>⟨x,rfl,h⟩
 |k+1,o::l,x,y,h=>by
  simp only[List.take_succ_cons,aUD,uL] at h|-;cases hz:UI o x (zJ T Γ ops o x.s) with
  |none=>
   rw[hz] at h;cases l with
   |nil=>cases h
   |cons p l=>cases h
  |some z=>rw[hz] at h;exact aB9 h
theorem a1h {α:Type}{p:Nat->Bool}{wr wr':Nat->Option α}{b:α}: ∀{n:Nat},(∀j,j<n->wr j=wr' j)->uG p wr b n=uG p wr' b n
 |0,_=>rfl
 |n+1,h=>by
  simp only[uG];rw[h n pB,a1h (wr:=wr) (wr':=wr') (fun j hj=>h j pB)]
theorem aLb {T:sG}{Γ:sV}{ops:Array Oper}{es:List qI}{s:St}{y a1:vS}{i0:Nat}{o1:Oper}{ex fx:qI}(run:a1d T Γ ops.toList ops.toList es s y) (hs: ∀p∈y.side,p) (ho1:ops.toList[i0]? =some o1) (ha1:uL T Γ ops.toList (ops.toList.take i0) (some ⟨s,[],[]⟩)=some a1)
  (hes:y.es.reverse=es) (h:uL T Γ ops.toList ops.toList (some ⟨s,[],[]⟩)=some y) (hx1:zJ T Γ ops.toList o1 ⟨a1.s.env,qS (xL fx) a1.s.H,a1.s.nb,a1.s.N,a1.s.np⟩=some ex):
  ∀sk oi,ops.toList[i0]? =some oi->a1c T Γ ops.toList ops.toList es s y i0 oi ex sk->zJ T Γ ops.toList oi ⟨sk.env,qS (xL fx) sk.H,sk.nb,sk.N,sk.np⟩=some ex:=by
 intro sk oi hoi st;rw[ho1] at hoi;cases hoi;obtain⟨a2,h1,h2⟩:=aB9 (k:=i0) h;rw[ha1] at h1;cases h1;have hi0:i0<ops.toList.length:=(aSR.1 ho1).1;have hlt:(ops.toList.take i0).length=i0:=by rw[aTe];omega
 obtain⟨es2,e2,r2⟩:=VP h2 hs;obtain⟨es1,e1,r1⟩:=VP ha1 (fun p hp=>hs p ((G8 h2).1 p hp));have he:es=es1++es2:=by rw[<-hes,e2,e1];simp
 have hl1:es1.length=i0:=by rw[r1.len,hlt]
 have hsd:=G8 ha1;refine a08 hx1 (fun t _=>?_) (fun id _=>?_) ?_ ?_
 .show lk sk.env t=lk a1.s.env t;rw[st.env t,r1.env t,hlt];refine a1h (fun j hj=>?_);unfold AN;rw[he,aSU pB,aTy hj]
 .show pY (qS (xL fx) sk.H) id=pY (qS (xL fx) a1.s.H) id;rw[ND,ND,st.heap id,r1.heap id,hlt];have:uG (fun _=>true) (xP es id) (pY s.H id) i0=uG (fun _=>true) (xP es1 id) (pY s.H id) i0:=a1h (fun j hj=>by
   unfold xP;rw[he,aSU pB])
  rw[this]
 .show sk.nb=a1.s.nb;rw[st.nb,r1.nb,hlt]
 show sk.np=a1.s.np;rw[st.np,hsd.2.2]
section
variable {B:Nat}{P:Program}{T:sG}{Γ:sV}(hT:wW P T) (hΓ:DG P Γ) {A:Nat->Nat->Prop}{L:List pV}{g0:Gh}{w0:pM}{Q:Exit->Act->pM->Prop}
structure Mid (B:Nat) (A:Nat->Nat->Prop) (L:List pV) (g0:Gh) (w0:pM) (ops:Array Oper) (es:List qI) (s:St) (listed:Array Bool) (g:Gh) (w:pM) (a:Act) (env:List (Nat×pW)) (H:rX):Prop where
 size:listed.size=ops.size
 closed:a1f ops.toList (fun j=>listed.getD j false)
 eok:AL g w env a.tmps
 look: ∀t,lk env t=uG (fun j=>listed.getD j false) (AN ops.toList es t) (lk s.env t) ops.size
 heap:s5 g w H
 get: ∀id,pY H id=uG (fun j=>listed.getD j false) (xP es id) (pY s.H id) ops.size
 tmps:a.tmps.size=s.N
 def_:zN B w a.defers
 good:sX A L g0 w0 g w H
 len:L.length=s.np
 free: ∀j,j<ops.size->listed.getD j false=false->∀id,s.nb+32*j<=id->id<s.nb+32*j+32->g.J id=none/\∀n,g.cur id n=none
 top: ∀id,s.nb+32*ops.size<=id->g.J id=none/\∀n,g.cur id n=none
include hT hΓ
theorem aLc {i0 j0:Nat}{ro:pK}{ops:Array Oper}{es:List qI}{s:St}{y:vS}(run:a1d T Γ ops.toList ops.toList es s y) (hs: ∀p∈y.side,p) (hchk:UM i0 j0 ops s.nb es=true) (hE:i0<ops.size->i0<j0/\∃ex fx,es[i0]? =some ex/\ex.upd=[]/\es[j0]? =some fx/\∀sk oi,ops.toList[i0]? =some oi->a1c T Γ ops.toList ops.toList es s y i0 oi ex sk->zJ T Γ ops.toList oi ⟨sk.env,qS (xL fx) sk.H,sk.nb,sk.N,sk.np⟩=some ex)
  (hQ: ∀g a w env H,AL g w env a.tmps->(∀t,lk env t=lk y.s.env t)->s5 g w H->(∀id,pY H id=pY y.s.H id)->a.tmps.size=s.N->zN B w a.defers->sX A L g0 w0 g w H->(∀id,s.nb+32*ops.size<=id->g.J id=none/\∀n,g.cur id n=none)->Q .normal a w):
  ∀(fuel:Nat) (listed:Array Bool) (g:Gh) (w:pM) (a:Act) (env:List (Nat×pW)) (H:rX),CW listed ops.size<=fuel->Mid B A L g0 w0 ops es s listed g w a env H->wpAnyIn (EW ro) 0 P .any ops Q fuel listed a w:=by
 simp only[UM,aSV] at hchk;obtain⟨haf,hfr⟩:=hchk;have hsz:ops.toList.length=ops.size:=aTx;have done: ∀(listed:Array Bool) (g:Gh) (w:pM) (a:Act) (env:List (Nat×pW)) (H:rX),Mid B A L g0 w0 ops es s listed g w a env H->(∀j,j<ops.size->listed.getD j false=true)->Q .normal a w:=by
  intro listed g w a env H m hall;refine hQ g a w env H m.eok (fun t=>?_) m.heap (fun id=>?_) m.tmps m.def_ m.good m.top
  .rw[m.look t,run.env t,hsz];exact KV (fun j hj _=>hall j hj)
  rw[m.get id,run.heap id,hsz];exact KV (fun j hj _=>hall j hj)
 have stuck: ∀(listed:Array Bool),listed.size=ops.size->Region.ready .any ops listed=[]->∀j,j<ops.size->listed.getD j false=true:=by
  intro listed hls hr j hj;cases hp:listed.getD j false with
  |true=>rfl
  |false=>
   obtain⟨k,h1,h2,h3⟩:=aB7 (p:=fun j=>listed.getD j false) ⟨j,hj,hp⟩;have:k∈Region.ready .any ops listed:=by
    rw[mem_ready];refine⟨?_,ops[k],by simp [h1],fun e he hb=>?_⟩
    .have h2:listed.getD k false=false:=h2;rw[aTb] at h2|-;rw[aUq pB] at h2|-;exact h2
    have:=aBZ haf k ops[k] (by simp [h1]) e he hb;exact h3 e.on pB
   rw[hr] at this;cases this
 intro fuel
 induction fuel with
 |zero=>
  intro listed g w a env H hu m;have hall:=aB5 (l:=listed) (n:=ops.size) pB;refine⟨?_,done listed g w a env H m hall⟩;cases hr:Region.ready .any ops listed with
  |nil=>rfl
  |cons i r=>
   have:i∈Region.ready .any ops listed:=by rw[hr];simp
   obtain⟨h0,o,ho,_⟩:=mem_ready.1 this;have hi:i<ops.size:=(aS6.1 ho).1;have:=hall i hi;rw[aTb] at this h0;rw[aUq (by rw[m.size];exact hi)] at this h0;simp at this h0;rw[this] at h0;cases h0
 |succ fuel ih=>
  intro listed g w a env H hu m;refine⟨fun hr=>done listed g w a env H m (stuck listed m.size hr),fun i hi=>?_⟩;obtain⟨h0,o,ho,hall⟩:=mem_ready.1 hi;have hin:i<ops.size:=(aS6.1 ho).1;have hil:i<listed.size:=by rw[m.size];exact hin
  have hpi:listed.getD i false=false:=by
   rw[aTb] at h0|-;rw[aUq hil] at h0|-;exact h0
  have hoL:ops.toList[i]? =some o:=by simpa using ho
  obtain⟨e,he⟩: ∃e,es[i]? =some e:=⟨es[i]'(by rw[run.len,hsz];exact hin),by simp⟩;obtain⟨sk,st⟩:=run.step i o e hoL he;have hcl':a1f ops.toList (fun j=>(listed.setIfInBounds i true).getD j false):=by
   intro j o' ho' hj ed hed hb;simp only[G9 hil] at hj|-;by_cases hji:j=i
   .subst hji;rw[hoL] at ho';obtain rfl:=aSG ho';have:=hall ed hed hb;split
    .rfl
    exact this
   rw[aSD hji] at hj;have:=m.closed j o' ho' hj ed hed hb;split
   .rfl
   exact this
  have hbef: ∀j,((Region.before ops).toList.getD i 0).testBit j=true->j≠i->listed.getD j false=true:=by
   intro j hj hne;have:=aB3 hcl' hj (by simp only[G9 hil];simp);simp only[G9 hil,aSD hne] at this;exact this
  have haft: ∀j,((Region.before ops).toList.getD j 0).testBit i=true->listed.getD j false=true->False:=by
   intro j hj hl;have:=aB3 m.closed hj hl;rw[hpi] at this;cases this
  have pairLt: ∀j p f,j<i->ops.toList[j]? =some p->es[j]? =some f->listed.getD j false=true\/(p.apart ops o=true/\(FY f e=true\/(j=i0/\i=j0))/\KC (s.nb+32*j) e.upd=true):=by
   intro j p f hji hp hf;rcases a1e hfr j i p f o e hji hp hf hoL he with h1|h1
   .rw[aTa,aTa] at h1;exact .inl (hbef j h1 pB)
   rw[aTa,aTa] at h1;exact .inr h1
  have pairGt: ∀j p f,i<j->ops.toList[j]? =some p->es[j]? =some f->listed.getD j false=true->o.apart ops p=true/\(FY e f=true\/(i=i0/\j=j0)):=by
   intro j p f hij hp hf hl;rcases a1e hfr i j o e p f hij hoL he hp hf with h1|h1
   .rw[aTa,aTa] at h1;exact(haft j h1 hl).elim
   rw[aTa,aTa] at h1;exact⟨h1.1,h1.2.1⟩
  have same: ∀{α:Type}(wr:Nat->Option α) (b:α),(∀j p f,j<i->ops.toList[j]? =some p->es[j]? =some f->wr j≠none->p.apart ops o=true->(FY f e=true\/(j=i0/\i=j0))->False)->
    (∀j p f,i<j->ops.toList[j]? =some p->es[j]? =some f->wr j≠none->listed.getD j false=true->o.apart ops p=true->(FY e f=true\/(i=i0/\j=j0))->False)->(∀j,wr j≠none->∃f,es[j]? =some f)->
    uG (fun j=>listed.getD j false) wr b ops.size=uG (fun _=>true) wr b i:=by
   intro α wr b hlt hgt hex;rw[<-a09 (n:=ops.size) pB];refine KV (fun j hj hw=>?_);obtain⟨f,hf⟩:=hex j hw;have hpj:ops.toList[j]? =some ops[j]:=by simp [hj]
   rcases Nat.lt_trichotomy j i with h1|h1|h1
   .rw[aS5 h1];rcases pairLt j _ f h1 hpj hf with h2|h2
    .exact h2
    exact(hlt j _ f h1 hpj hf hw h2.1 h2.2.1).elim
   .subst h1;simp [hpi]
   have: ¬j<i:=by omega
   rw[decide_eq_false this];cases hl:listed.getD j false with
   |false=>rfl
   |true=>
    obtain⟨h2,h3⟩:=pairGt j _ f h1 hpj hf hl;exact(hgt j _ f h1 hpj hf hw hl h2 h3).elim
  have exS: ∀t j,AN ops.toList es t j≠none->∃f,es[j]? =some f:=by
   intro t j h;unfold AN at h;cases hf:es[j]? with
   |none=>rw[hf] at h;exact absurd (by split<;>first|rfl|(rename_i h1;cases h1)) h
   |some f=>exact⟨f,rfl⟩
  have exH: ∀t j,xP es t j≠none->∃f,es[j]? =some f:=by
   intro t j h;unfold xP at h;cases hf:es[j]? with
   |none=>rw[hf] at h;exact absurd rfl h
   |some f=>exact⟨f,rfl⟩
  have dS: ∀t j p f,ops.toList[j]? =some p->es[j]? =some f->AN ops.toList es t j≠none->p.dst=some t:=by
   intro t j p f hp hf h;unfold AN at h;rw[hp,hf] at h;simp only at h;split at h
   .assumption
   exact absurd rfl h
  have dH: ∀id j f,es[j]? =some f->xP es id j≠none->id∈q9 (xL f):=by
   intro id j f hf h;unfold xP at h;rw[hf] at h;simp only at h;split at h
   .assumption
   exact absurd rfl h
  have noW: ∀id j f,es[j]? =some f->xP es id j≠none->j=i0->False:=fun id j f hf hw hj=>by
   subst hj;obtain⟨_,ex,fx,hex,hup,_⟩:=hE (by have:=(aSR.1 hf).1;rw[run.len,hsz] at this;exact this);have:=(NC.1 (dH id j _ hex hw)).1;rw[hup] at this;cases this
  have hrds: ∀id∈e.rds,¬(i=i0/\listed.getD j0 false=true)->pY H id=pY sk.H id:=fun id hid hX=>by
   rw[m.get id,st.heap id];refine same _ _ (fun j p f _ hp hf hw _ ha=>?_) (fun j p f _ hp hf hw hl _ ha=>?_) (exH id)
   .rcases ha with ha|ha
    .exact((NE ha).1 id (dH id j f hf hw)).1 hid
    exact noW id j f hf hw ha.1
   rcases ha with ha|ha
   .exact(NE ha).2 id (dH id j f hf hw) hid
   exact hX ⟨ha.1,ha.2▸hl⟩
  have htmp: ∀t∈o.looksAt ops,lk env t=lk sk.env t:=fun t ht=>by
   rw[m.look t,st.env t];refine same _ _ (fun j p f _ hp hf hw ha _=>?_) (fun j p f _ hp hf hw _ ha _=>?_) (exS t)
   .exact(Oper.apart_spec ha).1 t (dS t j p f hp hf hw) ht
   exact(Oper.apart_spec ha).2.2 t (dS t j p f hp hf hw) ht
  have hNs: ∀(s':St) (N':Nat),zJ T Γ ops.toList o ⟨s'.env,s'.H,s'.nb,N',s'.np⟩=zJ T Γ ops.toList o s':=fun _ _=>rfl;have hev:zJ T Γ ops.toList o ⟨env,H,s.nb+32*i,s.N,s.np⟩=some e:=by
   by_cases hX:i=i0/\listed.getD j0 false=true
   .obtain⟨h1,hl0⟩:=hX;subst h1;obtain⟨hij0,ex,fx,hex,hup,hfx,hxe⟩:=hE hin;rw[he] at hex;cases hex;refine a08 (hxe sk o hoL st) (fun t ht=>htmp t ht) (fun id hid=>?_) st.nb.symm st.np.symm;show pY H id=pY (qS (xL fx) sk.H) id;have hj0:j0<ops.size:=by
     have:=(aSR.1 hfx).1;rw[run.len,hsz] at this;exact this
    rw[m.get id,VO (p:=fun j=>listed.getD j false&& !decide (j=j0)) (i:=j0) pD (fun j=>by
     by_cases h:j=j0
     .subst h;rw[aSB rfl];exact hl0
     rw[aSD h];simp [h]) hj0 (fun j h1 h2 h3=>?_)]
    .have hrest:uG (fun j=>listed.getD j false&& !decide (j=j0)) (xP es id) (pY s.H id) ops.size=pY sk.H id:=by
      rw[st.heap id,<-a09 (n:=ops.size) pB];refine KV (fun j hj hw=>?_);obtain⟨f,hf⟩:=exH id j hw;have hpj:ops.toList[j]? =some ops[j]:=by simp [hj]
      rcases Nat.lt_trichotomy j i with h1|h1|h1
      .rw[aS5 h1];rcases pairLt j _ f h1 hpj hf with h2|h2
       .rw[h2,decide_eq_false pB];rfl
       rcases h2.2.1 with h2|h2
       .exact(((NE h2).1 id (dH id j f hf hw)).1 hid).elim
       omega
      .exact(noW id j f hf hw h1).elim
      have h9: ¬j<i:=by omega
      rw[decide_eq_false h9];cases hl:listed.getD j false with
      |false=>rfl
      |true=>
       obtain⟨_,h3⟩:=pairGt j _ f h1 hpj hf hl;rcases h3 with h3|h3
       .exact((NE h3).2 id (dH id j f hf hw) hid).elim
       rw[aS5 h3.2];rfl
     rw[hrest,ND];unfold xP;rw[hfx];simp only;by_cases h7:id∈q9 (xL fx)
     .rw[aSB h7,aSB h7,aLa (NC.1 h7).2];rfl
     rw[aSD h7,aSD h7];rfl
    left;have hl:listed.getD j false=true:=by
     cases h:listed.getD j false with
     |true=>rfl
     |false=>rw[h] at h3;cases h3
    cases hw:xP es id j with
    |none=>rfl
    |some v=>
     obtain⟨f,hf⟩:=exH id j (by rw[hw];simp);have hpj:ops.toList[j]? =some ops[j]:=by simp [h2]
     obtain⟨_,h4⟩:=pairGt j _ f pB hpj hf hl;rcases h4 with h4|h4
     .exact((NE h4).2 id (dH id j f hf (by rw[hw];simp)) hid).elim
     omega
   exact a08 st.ev (fun t ht=>htmp t ht) (fun id hid=>hrds id hid hX) st.nb.symm st.np.symm
  have hXu: ∀id,id∈q9 e.upd->¬(i=i0/\listed.getD j0 false=true):=fun id hid hX=>by
   obtain⟨h1,_⟩:=hX;subst h1;obtain⟨_,ex,fx,hex,hup,_⟩:=hE hin;rw[he] at hex;cases hex;rw[hup] at hid;cases hid
  have hfresh:xO g (s.nb+32*i) e:=fun id hid hle=>m.free i hin hpi id hle (QH st.ids hid);have key:=aBx hT hΓ (ops:=ops.toList) (o:=o) (a:=a) (s:=⟨env,H,s.nb+32*i,s.N,s.np⟩) (K:=wpAnyIn (EW ro) 0 P .any ops Q fuel (listed.setIfInBounds i true)) (Q:=Q) m.eok m.heap hev (fun p hp=>hs p (st.side p hp)) hfresh (fun g' w' v k=>by
   refine ih (listed.setIfInBounds i true) g' w' (a.put o.dst v) (uJ o.dst e.slot env) (qS e.upd H) ?_ ⟨by rw[Array.size_setIfInBounds];exact m.size,hcl',a03 m.eok k.le k.slot m.tmps st.dst,fun t=>?_,k.heap,fun id=>?_,(aBB _ _ _).trans m.tmps,by rw[aBC];exact m.def_.eff m.heap k,m.good.eff k (m.len▸(QF hev).2),m.len,fun j hj hjp id h1 h2=>?_,fun id hid=>?_⟩
   .have:=aB6 hil hpi hin;omega
   .rw[aBX,VO (p:=fun j=>listed.getD j false) (i:=i) hpi (fun j=>by simp only[G9 hil]) hin (fun j hij hj hl=>?_),<-m.look t]
    .unfold AN;rw[hoL,he];simp only;split<;>rfl
    have hpj:ops.toList[j]? =some ops[j]:=by simp [hj]
    obtain⟨f,hf⟩: ∃f,es[j]? =some f:=⟨es[j]'(by rw[run.len,hsz];exact hj),by simp⟩;obtain⟨h3,_⟩:=pairGt j _ f hij hpj hf hl;by_cases hw:AN ops.toList es t j=none
    .exact .inl hw
    right;have hd:=dS t j _ f hpj hf hw;by_cases hwi:AN ops.toList es t i=none
    .exact hwi
    have hdi:=dS t i _ e hoL he hwi;exact absurd hd ((Oper.apart_spec h3).2.1 t hdi)
   .rw[ND,VO (p:=fun j=>listed.getD j false) (i:=i) hpi (fun j=>by simp only[G9 hil]) hin (fun j hij hj hl=>?_),<-m.get id]
    .unfold xP;rw[he];simp only;by_cases h7:id∈q9 (xL e)
     .rw[aSB h7,aSB (NC.1 h7).1];rfl
     rw[aSD h7];by_cases h8:id∈q9 e.upd
     .obtain⟨q1,q2⟩:=st.same id h8 h7;rw[aSB h8,q1,<-hrds id q2 (hXu id h8)];rfl
     rw[aSD h8];rfl
    have hpj:ops.toList[j]? =some ops[j]:=by simp [hj]
    obtain⟨f,hf⟩: ∃f,es[j]? =some f:=⟨es[j]'(by rw[run.len,hsz];exact hj),by simp⟩;obtain⟨_,h3⟩:=pairGt j _ f hij hpj hf hl;by_cases hw:xP es id j=none
    .exact .inl hw
    right;have hd:=dH id j f hf hw;by_cases hwi:xP es id i=none
    .exact hwi
    have hdi:=dH id i e he hwi;rcases h3 with h3|h3
    .exact absurd (NC.1 hd).1 ((NE h3).1 id hdi).2
    exact(noW id i e he hwi h3.1).elim
   .rw[G9 hil] at hjp;have hji:j≠i:=fun h=>by rw[aSB h] at hjp;cases hjp
    rw[aSD hji] at hjp;have hnot:id∉q9 e.upd:=by
     intro hm;have hlt:=QH st.ids hm;rcases Nat.lt_or_gt_of_ne hji with h3|h3
     .obtain⟨f,hf⟩: ∃f,es[j]? =some f:=⟨es[j]'(by rw[run.len,hsz];exact hj),by simp⟩;rcases pairLt j ops[j] f h3 (by simp [hj]) hf with h4|h4
      .rw[hjp] at h4;cases h4
      have:=aB0 h4.2.2 id hm;omega
     omega
    have hg:=k.gho id hnot;have hb:=m.free j hj hjp id h1 h2;exact⟨hg.1.trans hb.1,fun n=>by rw[hg.2];exact hb.2 n⟩
   have hnot:id∉q9 e.upd:=fun hm=>by have:=QH st.ids hm;omega
   have hg:=k.gho id hnot;have hb:=m.top id hid;exact⟨hg.1.trans hb.1,fun n=>by rw[hg.2];exact hb.2 n⟩)
  unfold wpOpIn;rw[ho];simp only[aUb] at key|-;split at key
  .rename_i hw;rw[aSB hw];exact aBG (aBF hev) key
  rename_i hw;rw[aSD hw];exact⟨fun _ _=>trivial,key⟩
theorem aLd {i0 j0:Nat}{ro:pK}(hm:P.follows .mixedOrders=true) {id:Nat}{ops:Array Oper}{s:St}{y:vS}{a:Act}{w:pM}{g:Gh}(h:uL T Γ ops.toList ops.toList (some ⟨s,[],[]⟩)=some y) (hchk:UM i0 j0 ops s.nb y.es.reverse=true) (hE:i0<ops.size->i0<j0/\∃ex fx a1 o1,y.es.reverse[i0]? =some ex/\ex.upd=[]/\y.es.reverse[j0]? =some fx/\ops.toList[i0]? =some o1/\uL T Γ ops.toList (ops.toList.take i0) (some ⟨s,[],[]⟩)=some a1/\zJ T Γ ops.toList o1 ⟨a1.s.env,qS (xL fx) a1.s.H,a1.s.nb,a1.s.N,a1.s.np⟩=some ex) (hs: ∀p∈y.side,p) (hr:uM B g w s a) (hg:sX A L g0 w0 g w s.H) (hn:L.length=s.np)
  (hQ: ∀g' a' w',uM B g' w' y.s a'->sX A L g0 w0 g' w' y.s.H->Q .normal a' w'):(Code.region id ops true).wpIn (EW ro) 0 P Q a w:=by
 obtain⟨es,h1,run⟩:=VP h hs;have hes:y.es.reverse=es:=by rw[h1];simp
 simp only at run;rw[hes] at hchk hE;have hsd:=G8 h;have hrep: ∀j,(Array.replicate ops.size false).getD j false=false:=by
  intro j;rw[aTb,Array.getElem?_replicate];split<;>rfl
 have none: ∀{α:Type}(wr:Nat->Option α) (b:α) n,uG (fun j=>(Array.replicate ops.size false).getD j false) wr b n=b:=by
  intro α wr b n
  induction n with
  |zero=>rfl
  |succ n ih=>simp only[uG];rw[aSD (by rw[hrep];simp)];exact ih
 have hsz:ops.toList.length=ops.size:=aTx;refine wpIn_region_any hm (aLc hT hΓ run hs hchk (fun hi=>let ⟨c0,ex,fx,a1,o1,c1,c2,c3,c4,c5,c6⟩:=hE hi;⟨c0,ex,fx,c1,c2,c3,aLb run hs c4 c5 hes h c6⟩) (fun g' a' w' env H he hl hh hgt hz hd hgd htop=>?_) _ _ g _ a s.env s.H ?_ ⟨by simp,fun j o ho hj=>?_,fun t=>CV (aB8 g w _) (hr.env t),fun t=>?_,hr.heap.drawn _,fun id=>?_,hr.size,hr.def_.same (fun _ h=>h),hg.drawn _,hn,fun j _ _ id h1 _=>hr.nb id pB,fun id h1=>hr.nb id pB⟩)
 .refine hQ g' a' w' ⟨fun t=>by rw[<-hl t];exact he t,hh.ext (fun i=>(hgt i).symm),by rw[hsd.2.1];exact hz,fun i hi=>htop i ?_,hd,?_⟩ (hgd.ext (fun i=>(hgt i).symm))
  .rw[run.nb,hsz] at hi;exact hi
  rw[hsd.2.2,run.nb];exact aTA hr.np (Nat.le_add_right _ _)
 .have: ∀n (l:Array Bool),CW l n<=n:=by
   intro n l
   induction n with
   |zero=>exact aSW _
   |succ n ih=>simp only[CW];split<;>omega
  exact this _ _
 .simp only[hrep] at hj;cases hj
 .rw[none]
 exact(none _ _ _).symm
end
theorem a1i: ∀{l:List Prop},r6 l->∀p∈l,p
 |[p],h,q,hq=>by simp only[aST] at hq;subst hq;exact h
 |p::q::r,h,x,hx=>by
  rcases aSP.1 hx with rfl|hx
  .exact h.1
  exact a1i h.2 x hx
theorem aCb {p:Nat->Prop}(h: ∃n,p n): ∃n,p n/\∀m,p m->n<=m:=by
 obtain⟨n,hn⟩:=h
 induction n using Nat.strongRecOn with
 |_ n ih=>
  by_cases hs: ∃m,m<n/\p m
  .obtain⟨m,hm,hp⟩:=hs;exact ih m hm hp
  exact⟨n,hn,fun m hm=>Nat.le_of_not_lt fun hlt=>hs ⟨m,hlt,hm⟩⟩
noncomputable def QI (p:Nat->Prop):Nat:=open Classical in if h: ∃n,p n then(aCb h).choose else 0
theorem VR {p:Nat->Prop}(h: ∃n,p n):p (QI p)/\∀m,p m->QI p<=m:=by
 unfold QI;rw[aUu h];exact(aCb h).choose_spec
def EX:Exit->Option Ex
 | .normal=>some .normal
 | .exit id=>some (.exit id)
 | .ret=>some .ret
 |_=>none
def aCc (B:Nat) (A:Nat->Nat->Prop) (L:List pV) (g0:Gh) (w0:pM) (Q:Ex->St->Prop) (x:Exit) (a:Act) (w:pM):Prop:=
 ∃e g s,EX x=some e/\Q e s/\uM B g w s a/\sX A L g0 w0 g w s.H/\s.np=L.length
section
variable {B:Nat}{P:Program}{T:sG}{Γ:sV}(hT:wW P T) (hΓ:DG P Γ) (hm:P.follows .mixedOrders=true) {A:Nat->Nat->Prop}{L:List pV}{g0:Gh}{w0:pM}
include hT hΓ hm
theorem GA {ro:pK}: ∀(c:Code) (s:St) (Q:Ex->St->Prop) (g:Gh) (a:Act) (w:pM),w7 T Γ c s Q->uM B g w s a->sX A L g0 w0 g w s.H->s.np=L.length->c.wpIn (EW ro) 0 P (aCc B A L g0 w0 Q) a w
 | .skip,s,Q,g,a,w,h,hr,hg,hn=>by
  unfold w7 at h;exact wpIn_skip ⟨.normal,g,s,rfl,h,hr,hg,hn⟩
 | .label l,s,Q,g,a,w,h,hr,hg,hn=>by
  unfold w7 at h;exact wpIn_label ⟨.normal,g,s,rfl,h,hr,hg,hn⟩
 | .exit id,s,Q,g,a,w,h,hr,hg,hn=>by
  unfold w7 at h;exact wpIn_exit ⟨.exit id,g,s,rfl,h,hr,hg,hn⟩
 | .ret,s,Q,g,a,w,h,hr,hg,hn=>by
  unfold w7 at h;exact wpIn_ret ⟨.ret,g,s,rfl,h,hr,hg,hn⟩
 | .region id ops draw,s,Q,g,a,w,h,hr,hg,hn=>by
  unfold w7 at h;cases draw with
  |false=>
   simp only[PU] at h;cases hy:uL T Γ ops.toList ops.toList (some ⟨s,[],[]⟩) with
   |none=>rw[hy] at h;cases h
   |some y=>
    rw[hy] at h;refine aKU hT hΓ hy (a1i h.1) hr hg hn.symm (fun g' a' w' hr' hg'=>⟨.normal,g',y.s,rfl,h.2,hr',hg',(G8 hy).2.2.trans hn⟩)
  |true=>
   simp only[PU] at h;cases hy:uL T Γ ops.toList ops.toList (some ⟨s,[],[]⟩) with
   |none=>rw[hy] at h;cases h
   |some y=>
    rw[hy] at h;simp only[a91] at h;by_cases hc:KD ops s.nb y.es.reverse=true
    .rw[aSB hc] at h;refine aLd (i0:=ops.size) (j0:=0) hT hΓ hm hy hc (fun h=>absurd h (aUg _)) (a1i h.1) hr hg hn.symm (fun g' a' w' hr' hg'=>⟨.normal,g',y.s,rfl,h.2,hr',hg',(G8 hy).2.2.trans hn⟩)
    .rw[aSD hc] at h;cases h
 | .seq x y,s,Q,g,a,w,h,hr,hg,hn=>by
  unfold w7 at h;refine wpIn_seq (aUh (GA x s _ g a w h hr hg hn) fun e a' w' hp=>?_);obtain⟨e',g',s',h1,h2,h3,h4,h5⟩:=hp;cases e<;>simp only[EX,aSC] at h1
  case normal=>subst h1;exact GA y s' Q g' a' w' h2 h3 h4 h5
  case exit id=>subst h1;exact⟨.exit id,g',s',rfl,h2,h3,h4,h5⟩
  case ret=>subst h1;exact⟨.ret,g',s',rfl,h2,h3,h4,h5⟩
  all_goals cases h1
 | .cond c x y,s,Q,g,a,w,h,hr,hg,hn=>by
  unfold w7 at h;have hc:=A2 hr.env c;generalize tT s.env c=sc at h hc;unfold a99 at h;split at h
  .exact wpIn_cond_split (vB hc.1) (fun ht=>GA x s Q g a w (h.1 ht) hr hg hn) (fun ht=>GA y s Q g a w (h.2 ht) hr hg hn)
  .obtain⟨b,hb,hp,hq⟩:=hc.1;exact wpIn_cond_split hb (fun ht=>GA x s Q g a w (h.1 (hp ht)) hr hg hn) (fun ht=>GA y s Q g a w (h.2 (hq ht)) hr hg hn)
  .cases h
 | .block id c,s,Q,g,a,w,h,hr,hg,hn=>by
  unfold w7 at h;refine wpIn_block (aUh (GA c s _ g a w h hr hg hn) fun e a' w' hp=>?_);obtain⟨e',g',s',h1,h2,h3,h4,h5⟩:=hp;cases e<;>simp only[EX,aSC] at h1
  case normal=>subst h1;exact⟨.normal,g',s',rfl,h2,h3,h4,h5⟩
  case exit j=>
   subst h1;simp only[KF] at h2;simp only[Exit.inBlock];split
   .rename_i hj;rw[aSB hj] at h2;exact⟨.normal,g',s',rfl,h2,h3,h4,h5⟩
   rename_i hj;rw[aSD hj] at h2;exact⟨.exit j,g',s',rfl,h2,h3,h4,h5⟩
  case ret=>subst h1;exact⟨.ret,g',s',rfl,h2,h3,h4,h5⟩
  all_goals cases h1
 | .loop c,s,Q,g,a,w,h,hr,hg,hn=>by
  unfold w7 at h;obtain⟨k,I,μ,h0,hround⟩:=h;obtain⟨g1,k1,k2,k3,_⟩:=G7 hr hg hn k
  let R:Act->pM->Nat->Prop:=fun a w n=> ∃g s,I s/\μ s=n/\uM B g w s a/\sX A L g0 w0 g w s.H/\s.np=L.length
  refine wpIn_loop (fun a w=> ∃n,R a w n) (fun a w=>QI (R a w)) ⟨_,g1,s.keep k,h0,rfl,k1,k2,k3⟩ (fun a w hI=>?_);obtain⟨⟨g2,s2,i1,i2,i3,i4,i5⟩,_⟩:=VR hI;refine aUh (GA c s2 _ g2 a w (hround s2 i1) i3 i4 i5) fun e a' w' hp=>?_;obtain⟨e',g',s',h1,h2,h3,h4,h5⟩:=hp;cases e<;>simp only[EX,aSC] at h1
  case normal=>
   subst h1;obtain⟨k',j1,j2⟩:=h2;obtain⟨g3,l1,l2,l3,_⟩:=G7 h3 h4 h5 k';have hR:R a' w' (μ (s'.keep k')):=⟨g3,s'.keep k',j1,rfl,l1,l2,l3⟩;refine⟨⟨_,hR⟩,Nat.lt_of_le_of_lt ((VR ⟨_,hR⟩).2 _ hR) (by rw[<-i2];exact j2)⟩
  case exit id=>subst h1;exact⟨.exit id,g',s',rfl,h2,h3,h4,h5⟩
  case ret=>subst h1;exact⟨.ret,g',s',rfl,h2,h3,h4,h5⟩
  all_goals cases h1
 | .rangeFunc _ _ _ _,_,_,_,_,_,h,_,_,_=>by unfold w7 at h;cases h
 | .scope _,_,_,_,_,_,h,_,_,_=>by unfold w7 at h;cases h
 | .goto _,_,_,_,_,_,h,_,_,_=>by unfold w7 at h;cases h
 | .refuse _,_,_,_,_,_,h,_,_,_=>by unfold w7 at h;cases h
end
section
variable {f:St->Prop}{Q:Ex->St->Prop}{s:St}{id j:Nat}{I:St->Prop}{μ:St->Nat}{m:Nat}
theorem q8 (h:f s):PX f Q .normal s:=h
theorem t6 (h:Q (.exit j) s):PX f Q (.exit j) s:=h
theorem qO (h:Q .ret s):PX f Q .ret s:=h
theorem rK (h:Q .normal s):KF id Q .normal s:=h
theorem t7 (h:Q .normal s):KF id Q (.exit id) s:=by show (if id=id then Q .normal s else Q (.exit id) s);rw[aSB rfl];exact h
theorem r9 (h:Q .ret s):KF id Q .ret s:=h
end
@[go_sem] def rM:Nat->List pW->List (Nat×pW)
 |_,[]=>[]
 |c,s::r=>(c,s)::rM (c+1) r
@[go_sem] def vM:Nat->List pV->pG
 |_,[]=>[]
 |c,_::L=>(c,c)::vM (c+1) L
@[go_sem] def QJ (m:pG):List pW->Prop
 |[]=>True
 |s::r=>zX m s=s/\QJ m r
@[go_sem] def KW (m:pG):List pV->Prop
 |[]=>True
 | .dead::_=>False
 |b::r=>yU m (some b)=b/\KW m r
def rP:List pV->Prop
 |[]=>True
 | .row _ _ l n::r=>n=List.length l/\rP r
 |_::r=>rP r
theorem aCd {g:Gh}{w:pM}: ∀{L:List pV},(∀(i:Nat) b,L[i]? =some b->∃j,zZ g w j b)->rP L
 |[],_=>trivial
 |b::L,h=>by
  have h1:=aCd (L:=L) fun i b' hb=>h (i+1) b' (by simpa using hb);obtain⟨j,h0⟩:=h 0 b rfl;cases b with
  |row e t l n=>exact⟨h0.1.symm,h1⟩
  |_=>exact h1
def a1j:pI->pN
 |[v]=>v
 |l=> .tuple l.toArray
@[go_sem] def aCe (env:List (Nat×pW)):pL->List pW
 |[]=>[]
 |t::r=>lk env t::aCe env r
attribute [go_sem] qP
@[go_sem] def aLe:pW->Int
 |(.val (.int _) n,_)=>n
 |_=>0
@[go_sem] def Fin (ts:pL) (r:qH):Ex->St->Prop
 | .exit _,_=>False
 |_,s=> ∃k:vY,(s.keep k).H=qP 0 r.H/\aCe (s.keep k).env ts=r.ret
theorem aCf: ∀(l:List pW) (c t:Nat),lk (rM c l) t=if c<=t then(l[t-c]?).getD (.any,none) else(.any,none)
 |[],c,t=>by simp [rM,lk]
 |s::l,c,t=>by
  simp only[rM,lk];by_cases h:c=t
  .subst h;simp
  rw[aSD h,aCf l (c+1) t];by_cases h2:c<=t
  .rw[aSB h2,aSB pB];obtain⟨d,hd⟩: ∃d,t-c=d+1:=⟨t-c-1,pB⟩;rw[hd,aTp,show t- (c+1)=d by omega]
  rw[aSD h2,aSD pB]
theorem NF: ∀{L:List pV}{c i j:Nat},(i,j)∈vM c L↔i=j/\c<=i/\i<c+L.length
 |[],c,i,j=>by simp only[vM,aT2,aSY,false_iff];omega
 |b::L,c,i,j=>by
  simp only[vM,aSP,aS7,NF,aSI];omega
theorem VS: ∀{L:List pV}{c:Nat},wT 0 (vM c L)=true
 |[],_=>rfl
 |b::L,c=>by
  simp only[vM,wT,aSV];refine⟨⟨by simp,?_⟩,VS⟩;have: ∀{m:pG},(∀i j,(i,j)∈m->i≠c/\j≠c)->N5 c c m=false:=by
   intro m
   induction m with
   |nil=>intro _;rfl
   |cons q m ih=>
    intro h;obtain⟨i,j⟩:=q;have:=h i j pD;simp only[N5,ih (fun i j hm=>h i j (aSQ _ hm)),decide_eq_false this.1,decide_eq_false this.2];rfl
  rw[this]
  .rfl
  intro i j hm;obtain⟨rfl,h1,_⟩:=NF.1 hm;omega
theorem aCg {m:pG}: ∀{l:List pW},QJ m l->∀s∈l,zX m s=s
 |x::l,h,s,hs=>by
  rcases aSP.1 hs with rfl|hs
  .exact h.1
  exact aCg h.2 s hs
theorem KX {m:pG}: ∀{l:List pV},KW m l->∀b∈l,yU m (some b)=b/\b≠.dead
 |x::l,h,b,hb=>by
  cases x with
  |dead=>exact h.elim
  |cells t y ts=>
   rcases aSP.1 hb with rfl|hb
   .exact⟨h.1,fun h=>by cases h⟩
   .exact KX h.2 b hb
  |row e t l n=>
   rcases aSP.1 hb with rfl|hb
   .exact⟨h.1,fun h=>by cases h⟩
   .exact KX h.2 b hb
  |map k v l=>
   rcases aSP.1 hb with rfl|hb
   .exact⟨h.1,fun h=>by cases h⟩
   .exact KX h.2 b hb
  |iter s n=>
   rcases aSP.1 hb with rfl|hb
   .exact⟨h.1,fun h=>by cases h⟩
   .exact KX h.2 b hb
  |grow e c n=>
   rcases aSP.1 hb with rfl|hb
   .exact⟨h.1,fun h=>by cases h⟩
   exact KX h.2 b hb
theorem VT {g:Gh}{w:pM}: ∀{ss:List pW}{vs:pI},vD g w ss vs->vs.length=ss.length/\∀(i:Nat) s,ss[i]? =some s->∃v,vs[i]? =some v/\rH g w s v
 |[],vs,h=>by rw[show vs=[] from h];exact⟨rfl,fun i s h=>by simp at h⟩
 |s::ss,vs,⟨v,vs',e,h1,h2⟩=>by
  subst e;obtain⟨h3,h4⟩:=VT h2;refine⟨by simp [h3],fun i s' hi=>?_⟩;cases i with
  |zero=>simp only[aTf,aSC] at hi;subst hi;exact⟨v,rfl,h1⟩
  |succ i=>simp only[aTp] at hi|-;exact h4 i s' hi
theorem VU: ∀(L:List pV),qU L=L.length
 |[]=>rfl
 |_::L=>by simp only[qU,aSI,VU L]
theorem aLf {g:Gh}{w:pM}{args:List pW}{vals:pI}{L:List pV}{N:Nat}(hH:s5 g w (qP 0 L)) (ha:vD g w args vals) (hs:QJ (vM 0 L) args) (hb:KW (vM 0 L) L) (hN:args.length<=N):
  uM w.heap.size (tZ g 0 (vM 0 L)) w ⟨rM 0 args,qP 0 L,qU L,N,qU L⟩ {tmps:=vals.toArray++Array.replicate (N-vals.toArray.size) undef,defers:=[]}/\
  (∀i blk,L[i]? =some blk->(tZ g 0 (vM 0 L)).J i=g.J i/\zZ (tZ g 0 (vM 0 L)) w i blk/\∀b o,rY (tZ g 0 (vM 0 L)) i blk b o->rY g i blk b o):=by
 have hk:wT 0 (vM 0 L)=true:=VS;have hmem: ∀i blk,L[i]? =some blk->(i,i)∈vM 0 L:=fun i blk h=>NF.2 ⟨rfl,pB,by have:=(aSR.1 h).1;omega⟩;have hblk: ∀i blk,L[i]? =some blk->zZ (tZ g 0 (vM 0 L)) w i blk/\∀b o,rY (tZ g 0 (vM 0 L)) i blk b o->rY g i blk b o:=by
  intro i blk h;have hr:=(KX hb blk (List.mem_of_getElem? h)).1;have:=KU (g:=g) (w:=w) hk (hmem i blk h) (b:=some blk) (fun c hc=>by cases hc;exact hH.blk i blk (by rw[x6];exact h));rw[hr] at this;exact⟨this.1,fun b o ho=>by obtain⟨c,hc,hco⟩:=this.2 b o ho;cases hc;exact hco⟩
 obtain⟨hl,hv⟩:=VT ha;refine⟨⟨fun t=>?_,⟨fun i b h=>?_,fun i j bi bj b o hij h1 h2 o1 o2=>?_,hH.sl,hH.tab.1,fun i blk b o hg ho=>hH.tab.2 i blk b o hg ((hblk i blk (by rw[<-x6];exact hg)).2 b o ho)⟩,?_,fun i hi=>?_,aBv _ _,aSW _⟩,fun i blk h=>⟨(yW hk (hmem i blk h)).1,hblk i blk h⟩⟩
 .rw[aCf,aSB (aTv _),Nat.sub_zero];cases ht:args[t]? with
  |none=>exact⟨trivial,trivial⟩
  |some s=>
   obtain⟨v,hv1,hv2⟩:=hv t s ht;have hlt:t<vals.length:=(aSR.1 hv1).1;have:(vals.toArray++Array.replicate (N-vals.toArray.size) undef).getD t undef=v:=by
    rw[aTb,Array.getElem?_append_left (by simpa using hlt)];simp [hv1]
   simp only[aT1];rw[this];have:=VM hk hv2;rw[aCg hs s (List.mem_of_getElem? ht)] at this;exact this
 .rw[x6] at h;exact(hblk i b h).1
 .rw[x6] at h1 h2;exact hH.dis i j bi bj b o hij (by rw[x6];exact h1) (by rw[x6];exact h2) ((hblk i bi h1).2 b o o1) ((hblk j bj h2).2 b o o2)
 .simp only[aUG,Array.size_replicate,aTG];omega
 have hold:zO (vM 0 L) i=none:=by
  cases ho:zO (vM 0 L) i with
  |none=>rfl
  |some o=>
   obtain⟨rfl,_,h2⟩:=NF.1 (a01 ho);have hi:qU L<=i:=hi;rw[VU] at hi;omega
 refine⟨?_,fun n=>?_⟩
 .show (if i<0 then g.J i else(zO (vM 0 L) i).bind g.J)=none;rw[aSD pB,hold];rfl
 show (if i<0 then g.cur i n else(zO (vM 0 L) i).bind fun o=>g.cur o n)=none;rw[aSD pB,hold];rfl
structure uN (B:Nat) (w w':pM):Prop where
 os:w'.os=w.os
 tape:w'.tape=w.tape
 output:w'.output=w.output
 size:w.heap.size<=w'.heap.size
 blk: ∀b,b<w.heap.size->w'.heap[b]? =w.heap[b]? \/(B<=b/\NG<=b/\∃o o',w.heap[b]? =some o/\w'.heap[b]? =some o'/\G6 o=true/\G6 o'=true)
theorem aCh {w:pM}{b:Nat}{ob:Obj}(hd:w.heap[b]? =some ob) (hm:G6 ob=true) (o:Nat):w.frozen? ⟨b,o,none⟩=false:=by
 unfold World.frozen?;simp only[hd];cases ob<;>first|rfl|cases hm
theorem aLg {w:pM}{b:Nat}{ob:Obj}(hd:w.heap[b]? =some ob) (hm:G6 ob=true):w.shape? b=none:=by
 unfold World.shape?;simp only[hd];cases ob<;>first|rfl|cases hm
section
variable {B:Nat}{w w' w'':pM}
theorem uN.refl (B:Nat) (w:pM):uN B w w:=⟨rfl,rfl,rfl,aSW _,fun _ _=> .inl rfl⟩
theorem uN.trans (h:uN B w w') (k:uN B w' w''):uN B w w'':=by
 refine⟨k.os.trans h.os,k.tape.trans h.tape,k.output.trans h.output,aTA h.size k.size,fun b hb=>?_⟩;rcases k.blk b (aTd hb h.size) with k1|⟨k0,k1,o,o',k2,k3,k4,k5⟩
 .rcases h.blk b hb with h1|⟨h0,h1,o,o',h2,h3,h4,h5⟩
  .exact .inl (k1.trans h1)
  exact .inr ⟨h0,h1,o,o',h2,k1.trans h3,h4,h5⟩
 rcases h.blk b hb with h1|⟨h0,h1,p,p',h2,h3,h4,h5⟩
 .exact .inr ⟨k0,k1,o,o',h1▸k2,k3,k4,k5⟩
 exact .inr ⟨h0,h1,p,o',h2,k3,h4,k5⟩
theorem uN.cell (t:uN B w w') {b:Nat}(hb:b<w.heap.size) (o:Nat):w'.cell? ⟨b,o,none⟩=w.cell? ⟨b,o,none⟩/\w'.frozen? ⟨b,o,none⟩=w.frozen? ⟨b,o,none⟩:=by
 rcases t.blk b hb with h|⟨_,_,o1,o2,h1,h2,m1,m2⟩
 .exact⟨aS0 h,by unfold World.frozen?;simp only[h]⟩
 exact⟨by rw[a0X h1 m1,a0X h2 m2],by rw[aCh h1 m1,aCh h2 m2]⟩
theorem uN.shape (t:uN B w w') {b:Nat}{s:TypeId×Nat}(h:w.shape? b=some s):w'.shape? b=some s:=by
 have hb:b<w.heap.size:=by
  unfold World.shape? at h;cases hx:w.heap[b]? with
  |none=>rw[hx] at h;cases h
  |some _=>exact(aS6.1 hx).1
 rcases t.blk b hb with k|⟨_,_,o1,o2,h1,h2,m1,m2⟩
 .unfold World.shape? at h|-;rw[k];exact h
 rw[aLg h1 m1] at h;cases h
theorem uN.le (t:uN B w w') {g:Gh}(hs: ∀b o,g.S b o->b<w.heap.size):Le g w g w':=⟨fun _ _ h=>h,fun b o h=>(t.cell (hs b o h) o).1,fun _ _ h=>h,fun _ _ _ h=>h⟩
theorem uN.heapOk (t:uN B w w') {g:Gh}{H:rX}(h:s5 g w H):s5 g w' H:=by
 have own: ∀{i blk b o},pY H i=some blk->rY g i blk b o->w'.heap[b]? =w.heap[b]? :=fun hg ho=>by
  rcases t.blk _ (KJ (h.blk _ _ hg) ho) with k|⟨_,_,o1,o2,h1,_,m1,_⟩
  .exact k
  exact(VJ (h.blk _ _ hg) ho h1 m1).elim
 refine⟨fun i blk hb=>HZ (h.blk i blk hb) (t.le h.sl) rfl rfl (fun b o ho=>t.cell (KJ (h.blk i blk hb) ho) o) (fun b ho=>own hb (ho 0)) (fun _ _ _ x=>x) (fun b o s _ x=>t.shape x),h.dis,fun b o x=>aTd (h.sl b o x) t.size,HI h.tab.1 t.size (fun b hb=>?_),h.tab.2⟩;rcases t.blk b (aTd hb h.tab.1.1) with k|⟨_,k,_⟩
 .exact k
 omega
theorem uM.turn {g:Gh}{s:St}{a:Act}{ds:List Deferred}(h:uM B g w s a) (t:uN B w w') (hd:zN B w' ds):uM B g w' s {a with defers:=ds}:=
 ⟨fun x=>CV (t.le h.heap.sl) (h.env x),t.heapOk h.heap,h.size,h.nb,hd,h.np⟩
theorem sX.turn {A:Nat->Nat->Prop}{L:List pV}{g0 g:Gh}{w0:pM}{H:rX}(h:sX A L g0 w0 g w H) (hs: ∀b o,g.S b o->b<w.heap.size) (t:uN w0.heap.size w w'):sX A L g0 w0 g w' H:=by
 refine⟨fun b o x=>⟨(h.shut b o x).1,(t.cell (hs b o (h.shut b o x).1) o).1.trans (h.shut b o x).2⟩,⟨t.os.trans h.fr.os,t.tape.trans h.fr.tape,t.output.trans h.fr.output,aTA h.fr.size t.size,fun b hb hA=>?_,fun b o hb hA=>?_,h.fr.new,fun b s x=>?_⟩,h.perm,h.J,h.live,h.ty,h.cur⟩
 .rcases t.blk b (aTd hb h.fr.size) with k|⟨k,_⟩
  .exact k.trans (h.fr.blk b hb hA)
  omega
 .have:=t.cell (aTd hb h.fr.size) o;have k:=h.fr.cell b o hb hA;exact⟨this.1.trans k.1,this.2.trans k.2⟩
 rcases h.fr.shape b s x with k|k
 .exact .inl (t.shape k)
 exact .inr k
end
theorem aCi {P:Program}{fn:Func}{R:Ending->pM->Prop}{A:Nat->Nat->Prop}{L:List pV}{g0 g:Gh}{w0:pM}{s:St}{tmps:Array pN}: ∀(ds:List Deferred) (w:pM),uM w0.heap.size g w s {tmps:=tmps,defers:=ds}->sX A L g0 w0 g w s.H->
  (∀w',uM w0.heap.size g w' s {tmps:=tmps,defers:=[]}->sX A L g0 w0 g w' s.H->∃v,(results fn tmps).run P w'= .ok v w'/\R (.returned v) w')->LeavesInM Fence.wide 0 P fn tmps R ds .returning w
 |[],w,hr,hg,h=>h w hr hg
 |d::ds,w,hr,hg,h=>by
  obtain⟨hnd,hall⟩:=hr.def_;obtain⟨D,rfl,h1,h2,h3⟩:=hall d aS2;have hlt:=(aS6.1 h3).1;have t:uN w0.heap.size w (w.putObj D (.deferred none)):=by
   refine⟨rfl,rfl,rfl,by simp [World.putObj],fun b hb=>?_⟩;by_cases e:b=D
   .subst e;exact .inr ⟨h1,h2,_,_,h3,World.putObj_heap_same hlt,rfl,rfl⟩
   exact .inl (World.putObj_heap_other e)
  have hd:zN w0.heap.size (w.putObj D (.deferred none)) ds:=by
   refine⟨(List.nodup_cons.1 hnd).2,fun d' hd'=>?_⟩;obtain⟨D',rfl,k1,k2,k3⟩:=hall d' (aSQ _ hd');refine⟨D',rfl,k1,k2,?_⟩;rw[World.putObj_heap_other (fun e:D'=D=>(List.nodup_cons.1 hnd).1 (by subst e;exact hd'))];exact k3
  exact⟨by simp,.inl ⟨D,_,rfl,run_takeDeferred h3,aCi ds _ (hr.turn t hd) (hg.turn hr.heap.sl t) h⟩⟩
def Ev (R:Bool) (P:Program) (c:Code) (s:St) (Q:Ex->St->Prop):Prop:=
 ∀(ro:pK),ro.isSome=R->
 ∀(A:Nat->Nat->Prop) (L:List pV) (g0:Gh) (w0:pM) (g:Gh) (a:Act) (w:pM) (B:Nat),B<=w0.heap.size->uM B g w s a->sX A L g0 w0 g w s.H->s.np=L.length->c.wpIn (EW ro) 0 P (aCc B A L g0 w0 Q) a w
variable {R:Bool}
theorem aCj {P:Program}{T:sG}{Γ:sV}(hT:wW P T) (hΓ:DG P Γ) (hm:P.follows .mixedOrders=true) {c:Code}{s:St}{Q:Ex->St->Prop}(h:w7 T Γ c s Q):Ev R P c s Q:=
 fun ro hro A L g0 w0 g a w B hB hr hg hn=>GA hT hΓ hm c s Q g a w h hr hg hn
structure qW (P:Program) (T:sG) (Γ:sV):Prop where
 T:wW P T
 Γ:DG P Γ
 m:P.follows .mixedOrders=true
@[go_sem] def skS (l:pL) (Γ:sV) (f:Nat):Option r5:=if zV f l=true then some ⟨[],fun _ _=>none,[],[],none⟩ else Γ f
theorem VV {P:Program}{T:sG}{Γ:sV}{l:pL}(h:qW P T Γ) (hl:(l.all fun k=>decide (1000000000<=k))=true):qW P T (skS l Γ):=
 ⟨h.T,fun f s hlt hs=>by
  unfold skS at hs;split at hs
  .rename_i hm;have:=aTn (aUi.1 hl f (G3.1 hm));omega
  exact h.Γ f s hlt hs,h.m⟩
theorem aLh {P:Program}{c:Code}{s:St}{Q Q':Ex->St->Prop}(h:Ev R P c s Q') (hq: ∀e s,Q' e s->Q e s):Ev R P c s Q:=by
 intro ro hro A L g0 w0 g a w B hB hr hg hn;refine aUh (h ro hro A L g0 w0 g a w B hB hr hg hn) fun x a' w' hp=>?_;obtain⟨e,g',s',h1,h2,h3,h4,h5⟩:=hp;exact⟨e,g',s',h1,hq e s' h2,h3,h4,h5⟩
theorem aLi {P:Program}{c:Code}{s:St}{Q:Ex->St->Prop}(k:vY) (h:Ev R P c (s.keep k) Q):Ev R P c s Q:=by
 intro ro hro A L g0 w0 g a w B hB hr hg hn;obtain⟨g1,k1,k2,k3,_⟩:=G7 hr hg hn k;exact h ro hro A L g0 w0 g1 a w B hB k1 k2 k3
section
variable {P:Program}{s:St}{Q:Ex->St->Prop}
theorem qM (h:Q .normal s):Ev R P .skip s Q:=fun _ _ _ _ _ _ g _ _ _ _ hr hg hn=>wpIn_skip ⟨.normal,g,s,rfl,h,hr,hg,hn⟩
theorem t8 {id:Nat}(h:Q (.exit id) s):Ev R P (.exit id) s Q:=fun _ _ _ _ _ _ g _ _ _ _ hr hg hn=>wpIn_exit ⟨.exit id,g,s,rfl,h,hr,hg,hn⟩
theorem qB (h:Q .ret s):Ev R P .ret s Q:=fun _ _ _ _ _ _ g _ _ _ _ hr hg hn=>wpIn_ret ⟨.ret,g,s,rfl,h,hr,hg,hn⟩
theorem qC {x y:Code}(h:Ev R P x s (PX (fun s'=>Ev R P y s' Q) Q)):Ev R P (.seq x y) s Q:=by
 intro ro hro A L g0 w0 g a w B hB hr hg hn;refine wpIn_seq (aUh (h ro hro A L g0 w0 g a w B hB hr hg hn) fun e a' w' hp=>?_);obtain⟨e',g',s',h1,h2,h3,h4,h5⟩:=hp;cases e<;>simp only[EX,aSC] at h1
 case normal=>subst h1;exact h2 ro hro A L g0 w0 g' a' w' B hB h3 h4 h5
 case exit id=>subst h1;exact⟨.exit id,g',s',rfl,h2,h3,h4,h5⟩
 case ret=>subst h1;exact⟨.ret,g',s',rfl,h2,h3,h4,h5⟩
 all_goals cases h1
theorem aLj {c:Operand}{x y:Code}{b:Bool}{k:pK}(h:tT s.env c=(.val .bool b,k)) (ht:b=true->Ev R P x s Q) (hf:b=false->Ev R P y s Q):Ev R P (.cond c x y) s Q:=by
 intro ro hro A L g0 w0 g a w B hB hr hg hn;have hc:=A2 hr.env c;rw[h] at hc;exact wpIn_cond_split (vB hc.1) (fun e=>ht e ro hro A L g0 w0 g a w B hB hr hg hn) (fun e=>hf e ro hro A L g0 w0 g a w B hB hr hg hn)
theorem aLk {c:Operand}{x y:Code}{p q:Prop}{k:pK}(h:tT s.env c=(.flag p q,k)) (ht:p->Ev R P x s Q) (hf:q->Ev R P y s Q):Ev R P (.cond c x y) s Q:=by
 intro ro hro A L g0 w0 g a w B hB hr hg hn;have hc:=A2 hr.env c;rw[h] at hc;obtain⟨b,hb,hp,hq⟩:=hc.1;exact wpIn_cond_split hb (fun e=>ht (hp e) ro hro A L g0 w0 g a w B hB hr hg hn) (fun e=>hf (hq e) ro hro A L g0 w0 g a w B hB hr hg hn)
theorem rN {id:Nat}{c:Code}(h:Ev R P c s (KF id Q)):Ev R P (.block id c) s Q:=by
 intro ro hro A L g0 w0 g a w B hB hr hg hn;refine wpIn_block (aUh (h ro hro A L g0 w0 g a w B hB hr hg hn) fun e a' w' hp=>?_);obtain⟨e',g',s',h1,h2,h3,h4,h5⟩:=hp;cases e<;>simp only[EX,aSC] at h1
 case normal=>subst h1;exact⟨.normal,g',s',rfl,h2,h3,h4,h5⟩
 case exit j=>
  subst h1;simp only[KF] at h2;simp only[Exit.inBlock];split
  .rename_i hj;rw[aSB hj] at h2;exact⟨.normal,g',s',rfl,h2,h3,h4,h5⟩
  rename_i hj;rw[aSD hj] at h2;exact⟨.exit j,g',s',rfl,h2,h3,h4,h5⟩
 case ret=>subst h1;exact⟨.ret,g',s',rfl,h2,h3,h4,h5⟩
 all_goals cases h1
end
@[go_sem] def a1k (k:Nat) (t:Ty) (l:List t.den):pW->pW
 |(.own j m,x)=>if j=k then(.val (.list t) l,some k) else(.own j m,x)
 |s=>s
@[go_sem] def QK (k:Nat) (t:Ty) (l:List t.den):List (Nat×pW)->List (Nat×pW)
 |[]=>[]
 |(i,s)::r=>(i,a1k k t l s)::QK k t l r
@[go_sem] def aCl (k n:Nat):pW->Prop
 |(.own j m,_)=>j=k->m=n
 |_=>True
@[go_sem] def a1l (k n:Nat):List (Nat×pW)->Prop
 |[]=>True
 |(_,s)::r=>aCl k n s/\a1l k n r
theorem aCm {k:Nat}{t:Ty}{l:List t.den}: ∀{env:List (Nat×pW)}{i:Nat},lk (QK k t l env) i=a1k k t l (lk env i)
 |[],i=>rfl
 |(j,s)::r,i=>by
  simp only[QK,lk];split
  .rfl
  exact aCm
theorem aCn {k n:Nat}: ∀{env:List (Nat×pW)}{i:Nat},a1l k n env->aCl k n (lk env i)
 |[],i,_=>trivial
 |(j,s)::r,i,⟨h1,h2⟩=>by
  simp only[lk];split
  .exact h1
  exact aCn h2
theorem a1m {P:Program}{c:Code}{s:St}{Q:Ex->St->Prop}(k:Nat) {e:TypeId}{t:Ty}{l:List t.den}{n:Nat}(hk:pY s.H k=some (.row e t l n)) (hok:a1l k n s.env)
  (h:Ev R P c ⟨QK k t l s.env,(k,.grow e t.cells (List.length l))::s.H,s.nb,s.N,s.np⟩ Q):Ev R P c s Q:=by
 intro ro hro A L g0 w0 g a w B hB hr hg hn;obtain⟨hl,v,xs,hv,hown,hF,hnone,hseal⟩:=hr.heap.blk k _ hk
 let g':Gh:={g with S:=fun b o=>g.S b o\/(v.ownBlock=some b/\o<n*t.cells)}
 have le:Le g w g' w:=⟨fun _ _ h=> .inl h,fun _ _ _=>rfl,fun _ _ h=>h,fun _ _ _ h=>h⟩;have hown2: ∀b,v.ownBlock=some b->∀o,rY g k (.row e t l n) b o:=fun b hb o=>⟨v,hv,hb⟩;have hlist: ∀u,g.cur k n=some u->((u= .slice none 0 0/\n=0)\/∃b cap,u= .slice (some ⟨b,0,none⟩) n cap/\n<=cap)->sW g' w (.list t) l u:=by
  intro u hu hshape;rw[hv] at hu;obtain rfl:=aSG hu;rcases hshape with⟨rfl,h0⟩ |⟨b,cap,rfl,hcap⟩
  .have:l=[]:=aS9 (by rw[hl,h0]);subst this;exact .inr ⟨rfl,none,0,rfl,aSW _,.inl rfl⟩
  refine .inr ⟨rfl,some ⟨b,0,none⟩,cap,by rw[hl],by rw[hl];exact hcap,.inr ⟨b,0,rfl,I1 (C8 (fun _ _ h=>w8 le h) hF) (fun j u hu=>?_) (fun j hj=>?_)⟩⟩
  .have:=hown.cells (g:=b) rfl j u hu;rwa [aTK] at this
  right;exact⟨rfl,by rw[hl] at hj;omega⟩
 have hget: ∀i b,pY ((k,pV.grow e t.cells (List.length l))::s.H) i=some b->(i=k/\b= .grow e t.cells (List.length l))\/(i≠k/\pY s.H i=some b):=by
  intro i b hb;simp only[pY] at hb;split at hb
  .rename_i e1;exact .inl ⟨e1.symm,(aSG hb).symm⟩
  rename_i e1;exact .inr ⟨Ne.symm e1,hb⟩
 have howns: ∀i b bb o,pY ((k,pV.grow e t.cells (List.length l))::s.H) i=some b->rY g' i b bb o->∃b0,pY s.H i=some b0/\rY g i b0 bb o:=by
  intro i b bb o hb ho;rcases hget i b hb with⟨rfl,rfl⟩ |⟨_,h1⟩
  .obtain⟨u,hu,hub⟩:=ho;have hu':g.cur i (List.length l)=some u:=hu;rw[hl] at hu';exact⟨_,hk,u,hu',hub⟩
  exact⟨b,h1,(wU (g':=g') (g:=g) rfl rfl).1 ho⟩
 have hrel:uM B g' w ⟨QK k t l s.env,(k,.grow e t.cells (List.length l))::s.H,s.nb,s.N,s.np⟩ a:=by
  refine⟨fun i=>?_,⟨fun i b hb=>?_,fun i j bi bj b o hij h1 h2 o1 o2=>?_,fun b o hS=>?_,hr.heap.tab.1,fun i b bb oo hb ho=>by
   obtain⟨c1,k1,k2⟩:=howns i b bb oo hb ho;exact hr.heap.tab.2 i c1 bb oo k1 k2⟩,hr.size,hr.nb,hr.def_,hr.np⟩
  .rw[aCm];have h1:=hr.env i;have h2:=aCn (i:=i) hok;generalize lk s.env i=sl at h1 h2;obtain⟨d,x⟩:=sl;cases d with
   |own j m=>
    simp only[a1k];split
    .rename_i hj;subst hj;have hm:m=n:=h2 rfl;subst hm;refine⟨hlist _ h1.1.1 h1.1.2,?_⟩;show g'.cur j (List.length l)=_;rw[hl];exact h1.1.1
    .exact CV le h1
   |_=>exact CV le h1
  .rcases hget i b hb with⟨rfl,rfl⟩ |⟨hne,h1⟩
   .refine⟨v,xs,by rw[hl];exact hv,by rw[hl];exact hown,fun m hm=>hnone m (by rw[hl] at hm;exact hm),fun b hb o hS=>?_⟩;rw[hl];rcases hS with hS|hS
    .exact absurd hS (hseal b hb o)
    exact hS.2
   exact HZ (hr.heap.blk i b h1) le rfl rfl (fun _ _ _=>⟨rfl,rfl⟩) (fun _ _=>rfl) (fun bb o ho hS=>by
    rcases hS with hS|hS
    .exact hS
    exact absurd (hown2 bb hS.1 o) (fun h5=>hr.heap.dis i k b _ bb o hne h1 hk ho h5)) (fun _ _ _ _ h=>h)
  .obtain⟨c1,k1,k2⟩:=howns i bi b o h1 o1;obtain⟨c2,k3,k4⟩:=howns j bj b o h2 o2;exact hr.heap.dis i j c1 c2 b o hij k1 k3 k2 k4
  rcases hS with hS|hS
  .exact hr.heap.sl b o hS
  exact KI hown hS.1
 have hgood:sX A L g0 w0 g' w ((k,.grow e t.cells (List.length l))::s.H):=by
  refine⟨fun b o h0=>⟨.inl (hg.shut b o h0).1,(hg.shut b o h0).2⟩,⟨hg.fr.os,hg.fr.tape,hg.fr.output,hg.fr.size,hg.fr.blk,hg.fr.cell,fun b o hS=>?_,hg.fr.shape⟩,fun i b bb o hb ho=>?_,hg.J,hg.live,fun i u y us hi hb=>?_,hg.cur⟩
  .rcases hS with hS|hS
   .exact hg.fr.new b o hS
   exact .inr (hg.perm k _ b o hk (hown2 b hS.1 o))
  .obtain⟨c1,k1,k2⟩:=howns i b bb o hb ho;exact hg.perm i c1 bb o k1 k2
  rcases hget i _ hb with⟨_,h1⟩ |⟨_,h1⟩
  .cases h1
  exact hg.ty i u y us hi h1
 exact h ro hro A L g0 w0 g' a w B hB hrel hgood hn
def iter {σ ρ:Type}(f:σ->Option (σ⊕ρ)):Nat->σ->Option ρ
 |0,_=>none
 |n+1,x=>match f x with
  |none=>none
  |some (.inl y)=>iter f n y
  |some (.inr r)=>some r
theorem aCo {σ ρ:Type}{f:σ->Option (σ⊕ρ)}{r:ρ}: ∀{n:Nat}{x:σ},iter f n x=some r->iter f (n+1) x=some r
 |0,_,h=>by cases h
 |n+1,x,h=>by
  unfold iter at h|-;split
  .rename_i e;rw[e] at h;cases h
  .rename_i y e;rw[e] at h;exact aCo h
  rename_i r' e;rw[e] at h;exact h
theorem a1n {σ ρ:Type}{f:σ->Option (σ⊕ρ)}{r:ρ}{n:Nat}{x:σ}(h:iter f n x=some r): ∀m,iter f (n+m) x=some r
 |0=>h
 |m+1=>aCo (a1n h m)
theorem aCp {σ ρ:Type}{f:σ->Option (σ⊕ρ)}{r r':ρ}{n m:Nat}{x:σ}(h:iter f n x=some r) (h':iter f m x=some r'):r=r':=by
 have h1:=a1n h m;have h2:=a1n h' n;rw[Nat.add_comm] at h2;exact aSG (h1.symm.trans h2)
noncomputable def QL {σ ρ:Type}(f:σ->Option (σ⊕ρ)) (x:σ):Option ρ:=open Classical in if h: ∃n r,iter f n x=some r then some (Classical.choose (aT9 h)) else none
def aLl {ρ:Type}:Option ρ->Option ρ->Option ρ
 |some r,_=>some r
 |none,r=>r
noncomputable def rF {σ ρ:Type}(f:σ->Option (σ⊕ρ)) (x:σ):Option ρ:=aLl (iter f 2000 x) (QL f x)
theorem aLm {σ ρ:Type}{f:σ->Option (σ⊕ρ)}{x:σ}{r:ρ}{n:Nat}(h:iter f n x=some r):QL f x=some r:=by
 have hx: ∃n r,iter f n x=some r:=⟨n,r,h⟩;unfold QL;rw[aUu hx,aCp h (aT9 (aT9 hx))]
theorem a1o {σ ρ:Type}{f:σ->Option (σ⊕ρ)}{x:σ}{r:ρ}{n:Nat}(h:iter f n x=some r):rF f x=some r:=by
 unfold rF;cases hi:iter f 2000 x with
 |some r'=>rw[aCp h hi];rfl
 |none=>exact aLm h
theorem VW {σ ρ:Type}{f:σ->Option (σ⊕ρ)}{x:σ}{r:ρ}(h:rF f x=some r): ∃n,iter f n x=some r:=by
 unfold rF at h;cases hi:iter f 2000 x with
 |some r'=>
  rw[hi] at h;cases h;exact⟨_,hi⟩
 |none=>
  rw[hi] at h;have h:QL f x=some r:=h;unfold QL at h;split at h
  .rename_i hx;have:=aT9 (aT9 hx);rw[aSG h] at this;exact⟨_,this⟩
  cases h
attribute [irreducible] rF
theorem NH {σ ρ:Type}{f:σ->Option (σ⊕ρ)}{x y:σ}(h:f x=some (.inl y)):rF f x=rF f y:=by
 cases hy:rF f y with
 |some r=>
  obtain⟨n,hn⟩:=VW hy;exact a1o (n:=n+1) (by unfold iter;rw[h];exact hn)
 |none=>
  cases hx:rF f x with
  |none=>rfl
  |some r=>
   obtain⟨n,hn⟩:=VW hx;cases n with
   |zero=>cases hn
   |succ n=>
    unfold iter at hn;rw[h] at hn;rw[a1o hn] at hy;cases hy
theorem BL {σ ρ:Type}{f:σ->Option (σ⊕ρ)}{x:σ}{r:ρ}(h:f x=some (.inr r)):rF f x=some r:=a1o (n:=1) (by unfold iter;rw[h])
def Nxt {σ ρ:Type}(f:σ->Option (σ⊕ρ)) (y:ρ) (n:Nat):σ⊕ρ->Prop
 | .inl x=>iter f n x=some y
 | .inr r=>r=y
def qL {σ ρ:Type}(enc:σ->St) (f:σ->Option (σ⊕ρ)) (y:ρ) (n:Nat) (Q:Ex->St->Prop):Ex->St->Prop
 | .normal,s=> ∃(k:vY) (x:σ),s.keep k=enc x/\iter f n x=some y
 | .exit j,s=>Q (.exit j) s
 | .ret,s=>Q .ret s
theorem aLo {P:Program}{c:Code}{s:St}{Q:Ex->St->Prop}(I:Nat->St->Prop) (h0: ∃(k:vY) (n:Nat),I n (s.keep k))
  (h: ∀n s,I n s->Ev R P c s (fun e s'=>match e with| .normal=> ∃(k:vY) (m:Nat),m<n/\I m (s'.keep k) |e=>Q e s')):Ev R P (.loop c) s Q:=by
 intro ro hro A L g0 w0 g a w B hB hr hg hn;obtain⟨k,n0,h0⟩:=h0;obtain⟨g1,k1,k2,k3,_⟩:=G7 hr hg hn k
 let R:Act->pM->Nat->Prop:=fun a w n=> ∃g s,I n s/\uM B g w s a/\sX A L g0 w0 g w s.H/\s.np=L.length
 refine wpIn_loop (fun a w=> ∃n,R a w n) (fun a w=>QI (R a w)) ⟨_,g1,s.keep k,h0,k1,k2,k3⟩ (fun a w hI=>?_);obtain⟨⟨g2,s2,i1,i3,i4,i5⟩,_⟩:=VR hI;refine aUh (h _ s2 i1 ro hro A L g0 w0 g2 a w B hB i3 i4 i5) fun e a' w' hp=>?_;obtain⟨e',g',s',h1,h2,h3,h4,h5⟩:=hp;cases e<;>simp only[EX,aSC] at h1
 case normal=>
  subst h1;obtain⟨k',m,j1,j2⟩:=h2;obtain⟨g3,l1,l2,l3,_⟩:=G7 h3 h4 h5 k';have hR:R a' w' m:=⟨g3,s'.keep k',j2,l1,l2,l3⟩;exact⟨⟨_,hR⟩,Nat.lt_of_le_of_lt ((VR ⟨_,hR⟩).2 _ hR) j1⟩
 case exit id=>subst h1;exact⟨.exit id,g',s',rfl,h2,h3,h4,h5⟩
 case ret=>subst h1;exact⟨.ret,g',s',rfl,h2,h3,h4,h5⟩
 all_goals cases h1
theorem tC {P:Program}{c:Code}{s:St}{Q:Ex->St->Prop}{σ ρ:Type}{f:σ->Option (σ⊕ρ)}{x0:σ}{y:ρ}(hy:rF f x0=some y) (enc:σ->St) (k:vY) (h0:s.keep k=enc x0)
  (round: ∀x w n,f x=some w->Nxt f y n w->Ev R P c (enc x) (qL enc f y n Q)):Ev R P (.loop c) s Q:=by
 obtain⟨n,hn⟩:=VW hy;refine aLo (fun n s=> ∃x,s=enc x/\iter f n x=some y) ⟨k,n,x0,h0,hn⟩ fun n s ⟨x,e,hx⟩=>?_;subst e;cases n with
 |zero=>cases hx
 |succ n=>
  unfold iter at hx;refine aLh (Q':=qL enc f y n Q) ?_ (fun e s' hq=>?_)
  .split at hx
   .cases hx
   .rename_i x' e;exact round x _ n e hx
   rename_i r e;exact round x _ n e (aSG hx)
  cases e with
  |normal=>obtain⟨k,x',h1,h2⟩:=hq;exact⟨k,n,pB,x',h1,h2⟩
  |exit j=>exact hq
  |ret=>exact hq
def qX (j:Nat) (X:St->Prop) (Q:Ex->St->Prop):Ex->St->Prop
 | .normal,s=>Q .normal s
 | .exit i,s=>if i=j then∃k:vY,X (s.keep k) else Q (.exit i) s
 | .ret,s=>Q .ret s
theorem tK {P:Program}{c:Code}{s:St}{Q:Ex->St->Prop}(j:Nat) (X:St->Prop) (h:Ev R P c s (qX j X Q)) (J: ∀s',X s'->Q (.exit j) s'):Ev R P c s Q:=by
 intro ro hro A L g0 w0 g a w B hB hr hg hn;refine aUh (h ro hro A L g0 w0 g a w B hB hr hg hn) fun x a' w' hp=>?_;obtain⟨e,g',s',h1,h2,h3,h4,h5⟩:=hp;cases e with
 |normal=>exact⟨.normal,g',s',h1,h2,h3,h4,h5⟩
 |ret=>exact⟨.ret,g',s',h1,h2,h3,h4,h5⟩
 |exit i=>
  have h2:(if i=j then∃k:vY,X (s'.keep k) else Q (.exit i) s'):=h2;by_cases hij:i=j
  .rw[aSB hij] at h2;obtain⟨k,hk⟩:=h2;obtain⟨g1,k1,k2,k3,_⟩:=G7 h3 h4 h5 k;exact⟨.exit i,g1,s'.keep k,h1,by rw[hij];exact J _ hk,k1,k2,k3⟩
  rw[aSD hij] at h2;exact⟨.exit i,g',s',h1,h2,h3,h4,h5⟩
section
variable {Q:Ex->St->Prop}{s:St}{j i:Nat}{X:St->Prop}{σ ρ:Type}{enc:σ->St}{f:σ->Option (σ⊕ρ)}{y:ρ}{n:Nat}
theorem vE (h:Q .ret s):qX j X Q .ret s:=h
theorem tM (h: ∃k:vY,X (s.keep k)):qX j X Q (.exit j) s:=by show (if j=j then _ else _);rw[aSB rfl];exact h
theorem sM (h: ∃(k:vY) (x:σ),s.keep k=enc x/\iter f n x=some y):qL enc f y n Q .normal s:=h
theorem tA (h:Q (.exit j) s):qL enc f y n Q (.exit j) s:=h
theorem uB (h:Q .ret s):qL enc f y n Q .ret s:=h
end
def qN (X:St->Prop) (Q:Ex->St->Prop):Ex->St->Prop
 | .normal,s=> ∃k:vY,X (s.keep k)
 | .exit j,s=>Q (.exit j) s
 | .ret,s=>Q .ret s
theorem AO {P:Program}{c:Code}{s:St}{Q:Ex->St->Prop}(X:St->Prop) (h:Ev R P c s (qN X Q)) (J: ∀s',X s'->Q .normal s'):Ev R P c s Q:=by
 intro ro hro A L g0 w0 g a w B hB hr hg hn;refine aUh (h ro hro A L g0 w0 g a w B hB hr hg hn) fun x a' w' hp=>?_;obtain⟨e,g',s',h1,h2,h3,h4,h5⟩:=hp;cases e with
 |exit j=>exact⟨.exit j,g',s',h1,h2,h3,h4,h5⟩
 |ret=>exact⟨.ret,g',s',h1,h2,h3,h4,h5⟩
 |normal=>
  obtain⟨k,hk⟩:=h2;obtain⟨g1,k1,k2,k3,_⟩:=G7 h3 h4 h5 k;exact⟨.normal,g1,s'.keep k,h1,J _ hk,k1,k2,k3⟩
section
variable {Q:Ex->St->Prop}{s:St}{j:Nat}{X:St->Prop}
theorem tD (h: ∃k:vY,X (s.keep k)):qN X Q .normal s:=h
theorem a1p (h:Q .ret s):qN X Q .ret s:=h
end
def val {ρ:Type}[Inhabited ρ] (x:Option ρ):ρ:=x.getD default
theorem rU {ρ:Type}[Inhabited ρ] {x:Option ρ}{y:ρ}(h:x=some y):val x=y:=by rw[h];rfl
theorem rE {ρ:Type}{x:Option ρ}{y:ρ}(h:x=some y):x.isSome=true:=by rw[h];rfl
theorem pZ {ρ:Type}{c:Prop}[Decidable c] {x:Option ρ}{r:ρ}(h:(if c then x else none)=some r):c/\x=some r:=by
 by_cases hc:c
 .rw[aSB hc] at h;exact⟨hc,h⟩
 rw[aSD hc] at h;cases h
theorem oZ{ρ:Type}{c e:Prop}[Decidable c][Decidable e]{x:Option ρ}{r:ρ}(h:(if c then if e then x else none else none)=some r):c/\e/\x=some r:=have k:=pZ h;⟨k.1,pZ k.2⟩
theorem qQ {σ ρ:Type}{x:Option σ}{k:σ->Option ρ}{r:ρ}(h:x.bind k=some r): ∃y,x=some y/\k y=some r:=by
 cases x with
 |none=>cases h
 |some y=>exact⟨y,rfl,h⟩
theorem aLp {ρ:Type}{b:Bool}{x y:ρ}{r:ρ}(h:(if b=true then x else y)=r) (hb:b=true):x=r:=by rw[aSB hb] at h;exact h
theorem aLq {ρ:Type}{b:Bool}{x y:ρ}{r:ρ}(h:(if b=true then x else y)=r) (hb:b=false):y=r:=by rw[hb,aSD pC] at h;exact h
def tI {σ ρ:Type}(x:Option (σ⊕ρ)) (k:σ->Option ρ):Option ρ:=x.bind fun y=>match y with
 | .inl v=>k v
 | .inr r=>some r
theorem v6 {σ ρ:Type}{x:Option (σ⊕ρ)}{k:σ->Option ρ}{r:ρ}(h:tI x k=some r): ∃y,x=some y/\(match y with| .inl v=>k v| .inr r=>some r)=some r:=qQ h
def sN {σ ρ:Type}(x:Option σ) (k:σ->Option ρ):Option ρ:=x.bind k
def AP {σ ρ:Type}(x:σ) (k:σ->ρ):ρ:=k x
theorem a1q {σ ρ:Type}{x:σ}{k:σ->ρ}{r:ρ}(h:AP x k=r):k x=r:=h
theorem QM {σ ρ:Type}{x:σ}{k:σ->ρ}{r:ρ}(h:AP x k=r): ∃y,x=y/\k y=r:=⟨x,rfl,h⟩
theorem rZ {x:Bool}(h:x=true):(x==true)=true:=by rw[h];rfl
theorem I6 {G x:Bool}(hG:G=true) (h:x=true):(G&&(x==true))=true:=by rw[hG,h];rfl
theorem GB {G x:Bool}(hG:G=true) (h:x=false):(G&&(x==false))=true:=by rw[hG,h];rfl
theorem tN {x:Bool}(h:x=false):(x==false)=true:=by rw[h];rfl
section
variable {P:Program}{T:sG}{Γ:sV}(E:qW P T Γ) {s:St}{Q:Ex->St->Prop}
include E
theorem aCq {id:Nat}{ops:Array Oper}{a:vS}(h:uL T Γ ops.toList ops.toList (some ⟨s,[],[]⟩)=some a) (hp:r6 a.side) (hq:Q .normal a.s):Ev R P (.region id ops false) s Q:=
 aCj E.T E.Γ E.m (aIW h hp hq)
theorem aCr {id:Nat}{ops:Array Oper}{a:vS}(h:uL T Γ ops.toList ops.toList (some ⟨s,[],[]⟩)=some a) (hf:KD ops s.nb a.es.reverse=true) (hp:r6 a.side) (hq:Q .normal a.s):Ev R P (.region id ops true) s Q:=
 aCj E.T E.Γ E.m (aIX h hf hp hq)
end
end Go.Proofs.YtcpbaddnmpeipaaGreatDoor.Vc
namespace Go.Proofs.YtcpbaddnmpeipaaGreatDoor.Vc
open Go.RowKit
variable {R:Bool}
attribute [go_sem] Option.map_some Option.map_none
@[go_sem] theorem aQo {H:List (Nat×pV)}{ps:List PK}{b:List pW}{a:Option sQ}:xJ H ps ([]++b) a=xJ H ps b a:=rfl
@[go_sem] theorem aQp {H:List (Nat×pV)}{ps:List PK}{x:pW}{l b:List pW}{a:Option sQ}:xJ H ps ((x::l)++b) a=xJ H ps (x::(l++b)) a:=rfl
@[go_sem] def aCs:Option pW->Option (List pW)->Option (List pW)
 |some s,some l=>some (s::l)
 |_,_=>none
@[go_sem] def aCt:Option qI->Option pW
 |some e=>some e.slot
 |none=>none
@[go_sem] def VX (H:List (Nat×pV)):Option TI->pW->Option qI
 |some ti,(.val .ref (some (i,off)),_)=>PL ti.ty i off (pY H i)
 |_,_=>none
@[go_sem] def QN (T:sG) (s:St) (m:pG):Nat×Option TypeId->Option pW
 |(t,none)=>some (zX m (lk s.env t))
 |(t,some ty)=>(aCt (VX s.H (rO T ty) (lk s.env t))).map (zX m)
@[go_sem] def I7 (T:sG) (s:St) (m:pG):List (Nat×Option TypeId)->Option (List pW)
 |[]=>some []
 |q::r=>aCs (QN T s m q) (I7 T s m r)
def CX:Nat×Option TypeId->ResultVar
 |(t,none)=> .tmp t
 |(t,some ty)=> .cell t ty
@[go_sem] def DJ:Nat->Nat->List (Nat×pV)->List (Nat×pV)
 |0,_,H=>H
 |n+1,i,[]=>(i,.dead)::DJ n (i+1) []
 |n+1,i,(j,b)::H=>if j=i then(j,b)::DJ n (i+1) H else(i,.dead)::DJ n (i+1) ((j,b)::H)
theorem KY: ∀{n i:Nat}{H:List (Nat×pV)}{k:Nat}{b:pV},pY (DJ n i H) k=some b->pY H k=some b\/b= .dead
 |0,_,_,_,_,h=> .inl h
 |n+1,i,[],k,b,h=>by
  simp only[DJ,pY] at h;split at h
  .exact .inr (aSG h).symm
  .exact KY h
 |n+1,i,(j,c)::H,k,b,h=>by
  unfold DJ at h;split at h
  .simp only[pY] at h|-;split at h
   .rename_i e;rw[aSB e];exact .inl h
   rename_i e;rw[aSD e];exact KY h
  simp only[pY] at h;split at h
  .exact .inr (aSG h).symm
  exact KY h
theorem s5.pad {g:Gh}{w:pM}{H:rX}(h:s5 g w H) (n i:Nat):s5 g w (DJ n i H):=by
 have own: ∀{k blk b o},pY (DJ n i H) k=some blk->rY g k blk b o->pY H k=some blk:=fun hg ho=>by
  rcases KY hg with h1|h1
  .exact h1
  subst h1;exact ho.elim
 refine⟨fun k b hb=>?_,fun i j bi bj b o hij h1 h2 o1 o2=>h.dis i j bi bj b o hij (own h1 o1) (own h2 o2) o1 o2,h.sl,h.tab.1,fun k blk b o h1 h2=>h.tab.2 k blk b o (own h1 h2) h2⟩;rcases KY hb with h1|h1
 .exact h.blk k b h1
 subst h1;trivial
theorem sX.pad {A:Nat->Nat->Prop}{L:List pV}{g0 g:Gh}{w0 w:pM}{H:rX}(h:sX A L g0 w0 g w H) (n i:Nat):sX A L g0 w0 g w (DJ n i H):=by
 refine⟨h.shut,h.fr,fun k blk b o hg ho=>?_,h.J,h.live,fun k u y us hk hg=>?_,h.cur⟩
 .rcases KY hg with h1|h1
  .exact h.perm k blk b o h1 ho
  subst h1;exact ho.elim
 rcases KY hg with h1|h1
 .exact h.ty k u y us hk h1
 cases h1
def aCu (T:sG) (ts:List (Nat×Option TypeId)) (r:qH):Ex->St->Prop
 | .exit _,_=>False
 |_,s=> ∃m:pG,wT s.np m=true/\DJ (qU r.H) 0 (s.keep ⟨[],m⟩).H=qP 0 r.H/\I7 T s m ts=some r.ret
section
variable {P:Program}{o:Oper}{a:Act}{g:Gh}{w:pM}{H:rX}{T:sG}(hT:wW P T) (hH:s5 g w H)
include hT hH
theorem aLr {t:TypeId}{vx:pN}{sx:pW}(hx:rH g w sx vx) {e:qI}(hr:VX H (rO T t) sx=some e): ∃ad v,vx= .pointer (some ad)/\(loadVar t ad).run P w= .ok v w/\rH g w e.slot v:=by
 generalize hs:rO T t=ot at hr;replace hx:=hx.1;unfold VX at hr;split at hr
 .rename_i ti i off k;have hty:=sP hT hs;generalize hb:pY H i=ob at hr;unfold PL at hr;split at hr
  .rename_i u z toks;generalize hga:qT ti.ty u z off=oy at hr;cases oy with
   |none=>cases hr
   |some y=>
    cases hr;obtain⟨p,hp,hv⟩:=wZ hx;obtain⟨p',cs,hp',hR,hra,_,_,htk⟩:=hH.blk i _ hb;rw[hp] at hp';obtain rfl:=aSG hp';obtain⟨c1,c2,c3,rfl,rfl,hR2⟩:=BH hR hga;obtain⟨v,h1,h2,h3⟩:=N7 hT hH hty (KO hT hH hra) hR2;refine⟨_,v,hv,by simpa[Instr.loadAt,Instr.sureAddr] using h1,h2,?_⟩;obtain⟨ty,el,by',ar,ls⟩:=ti;cases ty with
    |list u'=>
     simp only[EI];generalize htt:wR toks c1.length=ok;cases ok with
     |none=>trivial
     |some k=>
      obtain⟨u2,l,v',g1,g2,g3⟩:=htk _ _ (a0q hT hH htt);obtain⟨heq,hl⟩:=aAv hT hH g1 hga rfl;injection heq with heq'
      subst heq';have hlen:=sJ hR2;obtain⟨v2,rfl⟩:=aTO.1 hlen;have e2:v'=v2:=by
       have e:(c1++[v2]++c3)[c1.length]? =some v2:=by simp
       rw[e] at g2;exact(aSG g2).symm
      have e3:v=v2:=by
       have h4:=wX rfl h2;have hone:=zY h4 v pD;have:v.cells= #[v]:=by cases v<;>first|rfl|(simp [Value.oneCell'] at hone)
       rw[this] at h3;simpa using h3
      subst e2;subst e3;have e4:(y:List u'.den)=l:=hl;subst e4;exact g3
    |_=>trivial
  cases hr
 cases hr
end
def KZ (tmps:Array pN) (q:Nat×Option TypeId):Sem pN:=match CX q with
 | .tmp t=>pure (tmps.getD t undef)
 | .cell a t=>do loadVar t (<-asAddr (tmps.getD a undef))
theorem aCv {P:Program}{T:sG}(hT:wW P T) {B:Nat}{g:Gh}{w:pM}{s:St}{a:Act}{m:pG}(hk:wT s.np m=true) (hr:uM B g w s a): ∀{ts:List (Nat×Option TypeId)}{l:List pW},I7 T s m ts=some l->
  ∃vs:pI,(ts.mapM (KZ a.tmps)).run P w= .ok vs w/\vD (tZ g s.np m) w l vs
 |[],l,h=>by
  simp only[I7,aSC] at h;subst h;exact⟨[],by simp,rfl⟩
 |q::ts,l,h=>by
  simp only[I7] at h;obtain⟨s1,l1,e1,e2,rfl⟩: ∃s1 l1,QN T s m q=some s1/\I7 T s m ts=some l1/\l=s1::l1:=by
   cases h1:QN T s m q<;>cases h2:I7 T s m ts<;>rw[h1,h2] at h<;>simp [aCs] at h
   exact⟨_,_,rfl,rfl,h.symm⟩
  obtain⟨vs,v1,v2⟩:=aCv hT hk hr e2;obtain⟨v,w1,w2⟩: ∃v,(KZ a.tmps q).run P w= .ok v w/\rH (tZ g s.np m) w s1 v:=by
   obtain⟨t,oty⟩:=q;cases oty with
   |none=>
    simp only[QN,aSC] at e1;subst e1;exact⟨_,by simp [KZ,CX],VM hk (hr.env t)⟩
   |some ty=>
    simp only[QN] at e1;cases he:VX s.H (rO T ty) (lk s.env t) with
    |none=>rw[he] at e1;cases e1
    |some e=>
     rw[he] at e1;simp only[aCt,Option.map_some,aSC] at e1;subst e1;obtain⟨ad,v,hv,hl,hs⟩:=aLr hT hr.heap (hr.env t) he;exact⟨v,by simp only[KZ,CX,hv,asAddr,aSO,aS1,aSJ,hl],VM hk hs⟩
  exact⟨v::vs,by simp only[List.mapM_cons,aSO,w1,aSJ,v1,aS1],v,vs,rfl,w2,v2⟩
def NI (tmps:Array pN):ResultVar->Sem pN
 | .tmp t=>pure (tmps.getD t undef)
 | .cell a t=>do loadVar t (<-asAddr (tmps.getD a undef))
theorem aLs {P:Program}{fn:Func}{w:pM}{tmps:Array pN}{ts:List (Nat×Option TypeId)}(h:fn.results.toList=ts.map CX) {vs:pI}(hv:(ts.mapM (KZ tmps)).run P w= .ok vs w):(results fn tmps).run P w= .ok (a1j vs) w:=by
 obtain⟨rs,hrs⟩: ∃rs,fn.results=⟨rs⟩:=⟨fn.results.toList,rfl⟩;have hm:rs=ts.map CX:=by rw[hrs] at h;exact h
 have key:Sem.run P (((ts.map CX).toArray).mapM (NI tmps)) w=Result.ok vs.toArray w:=by
  rw[List.mapM_toArray,List.mapM_map];have e:NI tmps∘CX=KZ tmps:=by
   funext q;obtain⟨t,o⟩:=q;cases o<;>rfl
  have e2:(fun q=>NI tmps (CX q))=KZ tmps:=e;show Sem.run P (List.mapM (fun q=>NI tmps (CX q)) ts>>=fun l=>pure l.toArray) w=_;rw[e2,aSO,hv];rfl
 have hu:results fn tmps=(fn.results.mapM (NI tmps) >>=fun vs=>pure (if h:vs.size=1 then vs[0] else .tuple vs)):=by
  unfold results;congr 2
 rw[hu,hrs,hm,aSO];have key2:Sem.run P (Array.mapM (NI tmps) (⟨ts.map CX⟩:Array ResultVar)) w=Result.ok vs.toArray w:=key;rw[key2];simp only[aSJ,aS1]
 match vs with
 |[]=>rfl
 |[v]=>rfl
 |v::u::l=>simp [a1j]
theorem aLt {P:Program}{T:sG}(hT:wW P T) {f:FuncId}{fn:Func}{c:Code}{C:List pW->List pV->Option qH}{ts:List (Nat×Option TypeId)}(hf:P.funcs[f]? =some fn) (hb:fn.body=some c) {N:Nat}(hN:fn.ntmps=N)
  (hcall: ∀args w,(callFunc f args).run P w= .ok (.enter f args) w) (hres:fn.results.toList=ts.map CX)
  (h: ∀args L r,C args L=some r->(∀p∈r.side,p)->rP L->args.length<=N/\QJ (vM 0 L) args/\KW (vM 0 L) L/\Ev false P c ⟨rM 0 args,qP 0 L,qU L,N,qU L⟩ (aCu T ts r)):yJ P f C:=by
 subst hN;refine⟨hcall,fun g w args vals L r hH ha hC hs=>?_⟩;obtain⟨h1,h2,h3,h4⟩:=h args L r hC hs (aCd fun i b hb=>⟨i,hH.blk i b (by rw[x6];exact hb)⟩);obtain⟨hr,hent⟩:=aLf hH ha h2 h3 h1;have hsub: ∀b o,y8 (tZ g 0 (vM 0 L)) (qP 0 L) b o->y8 g (qP 0 L) b o:=fun b o ⟨i,blk,hg,ho⟩=>⟨i,blk,hg,(hent i blk (by rw[<-x6];exact hg)).2.2 b o ho⟩;have hgood:sX (y8 (tZ g 0 (vM 0 L)) (qP 0 L)) L (tZ g 0 (vM 0 L)) w (tZ g 0 (vM 0 L)) w (qP 0 L):=by
  refine⟨fun b o h=>⟨h,rfl⟩,Fr.refl _ _ _,fun i blk b o hg ho=> .inr ⟨i,blk,hg,ho⟩,fun _ _ _ h=>h,fun i hi=>?_,fun i u y us _ hg=>⟨y,us,by rw[<-x6];exact hg⟩,fun _ _ _ _ h=>h⟩;have hL:L[i]? =some L[i]:=by simp
  obtain⟨_,hbk,_⟩:=hent i L[i] hL;have hnd:=(KX h3 L[i] (aTL hi)).2;generalize L[i]=blk at hbk hnd;cases blk with
  |cells t x ts=>obtain⟨p,cs,hp,_⟩:=hbk;exact .inl ⟨p,hp⟩
  |grow e c n=>obtain⟨v,xs,hv,_⟩:=hbk;exact .inr ⟨n,v,hv⟩
  |row e t l n=>obtain⟨_,v,xs,hv,_⟩:=hbk;exact .inr ⟨n,v,hv⟩
  |map k v l=>obtain⟨p,es,cl,hp,_⟩:=hbk;exact .inl ⟨p,hp⟩
  |iter s n=>obtain⟨p,hp,_⟩:=hbk;exact .inl ⟨p,hp⟩
  |dead=>exact absurd rfl hnd
 refine callsIn_wide.1 (callsIn_of_wp_marks (F:=Fence.wide) (n:=0) hf hb trivial (aUh (h4 none rfl _ _ _ _ _ _ _ _ (aSW _) hr hgood (VU L)) fun x a' w' hp=>?_) rfl);obtain⟨e,g',s',e1,e2,e3,e4,e5⟩:=hp;have fin: ∀m:pG,wT s'.np m=true->DJ (qU r.H) 0 (s'.keep ⟨[],m⟩).H=qP 0 r.H->I7 T s' m ts=some r.ret->LeavesInM Fence.wide 0 P fn a'.tmps (fun e w'=> ∃v' g',e= .returned v'/\EV g w L r g' w' v') a'.defers .returning w':=by
  intro m hk k1 k2;refine aCi a'.defers w' e3 e4 (fun w1 e3 e4=>?_);obtain⟨l1,l2,l3,_⟩:=a02 e3 e4 e5 ⟨[],m⟩ hk;replace l2:=l2.pad (qU r.H) 0;rw[k1] at l2;obtain⟨vs,q1,q2⟩:=aCv hT hk e3 k2;have q3:=aLs (P:=P) (w:=w1) (tmps:=a'.tmps) hres q1;refine⟨_,q3,_,_,rfl,⟨fun b o hb=>l2.shut b o hb,by rw[<-k1];exact l1.heap.pad _ _,?_,?_,fun i blk b o hi ho=>?_,fun i t x us hi=>?_,fun i t x us u y vs hi hr=>?_,fun i p hi hp=>l2.J i p hi ((yW VS (NF.2 ⟨rfl,aTv _,pB⟩)).1.trans hp),fun i n u hi hu=>l2.cur i n u hi ((congrFun (yW VS (NF.2 ⟨rfl,aTv _,pB⟩)).2 n).trans hu)⟩⟩
  .unfold Q9;split
   .rename_i s hs;rw[hs] at q2;obtain⟨v,vs',hv,h5,h6⟩:=q2;rw[hv,show vs'=[] from h6];exact h5
   rename_i hne;refine⟨_,?_,q2⟩;unfold a1j;split
   .rename_i v hv;exfalso;have:=(VT q2).1;cases hq:r.ret with
    |nil=>rw[hq] at this;simp at this
    |cons s l=>cases l with
     |nil=>exact hne s hq
     |cons _ _=>rw[hq] at this;simp at this
   rfl
  .exact⟨l2.fr.os,l2.fr.tape,l2.fr.output,l2.fr.size,fun b hb hA=>l2.fr.blk b hb (fun o ho=>hA o (hsub b o ho)),fun b o hb hA=>l2.fr.cell b o hb (fun ho=>hA (hsub b o ho)),fun b o hS=>(l2.fr.new b o hS).imp id (Or.imp id (hsub b o)),fun b s hs=>(l2.fr.shape b s hs).imp id fun h o=>hsub b o (h o)⟩
  .exact(l2.perm i blk b o (by rw[x6];exact hi) ho).imp id (hsub b o)
  .obtain⟨j1,⟨p,cs,j2,_⟩,_⟩:=hent i _ hi;have hil:i<L.length:=(aSR.1 hi).1;rw[l2.J i p hil j2,<-j1,j2]
  have hil:i<L.length:=(aSR.1 hi).1;obtain⟨x',ts',h5⟩:=l2.ty i u y vs hil (by rw[x6];exact hr);rw[hi] at h5;simp only[aSC,pV.cells.injEq] at h5;exact h5.1.symm
 cases x<;>simp only[EX,aSC] at e1
 case normal=>subst e1;obtain⟨k,k0,k1,k2⟩:=e2;exact fin k k0 k1 k2
 case ret=>subst e1;obtain⟨k,k0,k1,k2⟩:=e2;exact fin k k0 k1 k2
 case exit id=>subst e1;exact e2.elim
 all_goals cases e1
open Classical in
noncomputable def rQ {V:Type}(p:V->List pW) (q:V->List pV) (R:V->qH) (a:List pW) (L:List pV):Option qH:=
 if h: ∃v,p v=a/\q v=L then some (R h.choose) else none
theorem aLu {V:Type}{p:V->List pW}{q:V->List pV}{R:V->qH}{a:List pW}{L:List pV}{r:qH}(h:rQ p q R a L=some r): ∃v,p v=a/\q v=L/\R v=r:=by
 unfold rQ at h;split at h
 .rename_i e;exact⟨e.choose,e.choose_spec.1,e.choose_spec.2,aSG h⟩
 cases h
theorem rR {V:Type}{p:V->List pW}{q:V->List pV}{R:V->qH}(inj: ∀v v',p v=p v'->q v=q v'->v=v') (v:V):rQ p q R (p v) (q v)=some (R v):=by
 have h: ∃u,p u=p v/\q u=q v:=⟨v,rfl,rfl⟩;unfold rQ;rw[aUu h,inj _ v h.choose_spec.1 h.choose_spec.2]
theorem aCw: ∀{l:List Prop},(∀p∈l,p)->r6 l
 |[],_=>trivial
 |[p],h=>h p pD
 |p::q::r,h=>⟨h p pD,aCw (l:=q::r) fun x hx=>h x (aSQ _ hx)⟩
def rC (P:Program) (x:Nat×r5):Prop:=yJ P x.1 x.2.C/\∀F,x.2.row=some F->V7 P x.1 F
theorem rS {P:Program}{T:sG}{Γ:sV}(hE:qW P T Γ) {f:FuncId}{fn:Func}{c:Code}{V:Type}{p:V->List pW}{q:V->List pV}{R:V->qH}{ps:List PK}{gs:List (Nat×Nat×PK)}{same:pL}{ts:List (Nat×Option TypeId)}(hf:P.funcs[f]? =some fn) (hb:fn.body=some c) {N:Nat}(hN:fn.ntmps=N)
  (hres:fn.results.toList=ts.map CX) (hcall: ∀args w,(callFunc f args).run P w= .ok (.enter f args) w)
  (h: ∀v,r6 (R v).side->rP (q v)->Ev false P c ⟨rM 0 (p v),qP 0 (q v),qU (q v),N,qU (q v)⟩ (aCu T ts (R v)))
  (h1: ∀v,Nat.ble (p v).length N=true:=by intro _;rfl)
  (h2: ∀v,QJ (vM 0 (q v)) (p v):=by intro _;repeat (first|exact trivial|refine ⟨rfl,?_⟩))
  (h3: ∀v,KW (vM 0 (q v)) (q v):=by intro _;repeat (first|exact trivial|refine ⟨rfl,?_⟩)):rC P (f,⟨ps,rQ p q R,gs,same,none⟩):=
 ⟨aLt hE.T hf hb hN hcall hres fun args L r hC hs hr=>by
  obtain⟨v,rfl,rfl,rfl⟩:=aLu hC;exact⟨aT8 (h1 v),h2 v,h3 v,h v (aCw hs) hr⟩,fun _ h=>by cases h⟩
abbrev pX (n:Int):Prop:= -9223372036854775808<=n/\n<=9223372036854775807
@[go_sem] def qY:List (Nat×r5)->sV
 |[],_=>none
 |(k,s)::r,f=>if k=f then some s else qY r f
theorem rL {P:Program}:DG P (qY []):=fun _ _ _ h=>by cases h
theorem qJ {P:Program}{x:Nat×r5}{r:List (Nat×r5)}(h:rC P x) (hr:DG P (qY r)):DG P (qY (x::r)):=fun f s hlt hs=>by
 obtain⟨k,y⟩:=x;simp only[qY] at hs;split at hs
 .rename_i e;subst e;cases hs;exact h
 exact hr f s hlt hs
section
variable {P:Program}{T:sG}{Γ:sV}(E:qW P T Γ) {s:St}{Q:Ex->St->Prop}
include E
theorem pU {id:Nat}{ops:Array Oper}{a:vS}{y:Code}(hq:Ev R P y a.s Q) (h:uL T Γ ops.toList ops.toList (some ⟨s,[],[]⟩)=some a:=by simp only[go_sem];rfl) (hp:r6 a.side:=by exact trivial):Ev R P (.seq (.region id ops false) y) s Q:=
 qC (aCq E h hp hq)
theorem vF {id:Nat}{ops:Array Oper}{a:vS}{y:Code}(hq:Ev R P y a.s Q) (h:uL T Γ ops.toList ops.toList (some ⟨s,[],[]⟩)=some a:=by simp only[go_sem];rfl) (hp:r6 a.side:=by exact trivial) (hf:KD ops s.nb a.es.reverse=true:=by kernel_rfl):Ev R P (.seq (.region id ops true) y) s Q:=
 qC (aCr E h hf hp hq)
theorem qV {id:Nat}{ops:Array Oper}{a:vS}(hq:Q .normal a.s) (h:uL T Γ ops.toList ops.toList (some ⟨s,[],[]⟩)=some a:=by simp only[go_sem];rfl) (hp:r6 a.side:=by exact trivial):Ev R P (.region id ops false) s Q:=
 aCq E h hp hq
theorem EY {id:Nat}{ops:Array Oper}{a:vS}(hq:Q .normal a.s) (h:uL T Γ ops.toList ops.toList (some ⟨s,[],[]⟩)=some a:=by simp only[go_sem];rfl) (hp:r6 a.side:=by exact trivial) (hf:KD ops s.nb a.es.reverse=true:=by kernel_rfl):Ev R P (.region id ops true) s Q:=
 aCr E h hf hp hq
end
theorem qD {P:Program}{s:St}{Q:Ex->St->Prop}{c:Operand}{x y:Code}{b b':Bool}{k:pK}{ρ:Type}{X Y r:ρ}(hC:(if b'=true then X else Y)=r) (ht:X=r->b=true->Ev R P x s Q) (hf:Y=r->b=false->Ev R P y s Q)
  (h:tT s.env c=(.val .bool b,k):=by simp only[go_sem];rfl) (hb:b=b':=by first|rfl|simp):Ev R P (.cond c x y) s Q:=
 aLj h (fun e=>ht (aLp hC (hb▸e)) e) (fun e=>hf (aLq hC (hb▸e)) e)
theorem rG {σ ρ:Type}[Inhabited σ] {x:Option σ}{k:σ->Option ρ}{r:ρ}(h:x.bind k=some r): ∃y,x=some y/\val x=y/\k y=some r:=by
 obtain⟨y,h1,h2⟩:=qQ h;exact⟨y,h1,rU h1,h2⟩
attribute [go_sem] true_and and_true false_and and_false Nat.reduceMul List.nil_append List.cons_append List.append_nil List.toList_toArray Nat.reduceEqDiff reduceIte reduceDIte reduceCtorEq Nat.reduceAdd Nat.reduceSub Int.reduceToNat Nat.reduceLT Nat.reduceLeDiff decide_true decide_false Bool.and_self Bool.or_self Bool.or_false Bool.false_or Bool.and_true Bool.true_and Bool.not_true Bool.not_false
end Go.Proofs.YtcpbaddnmpeipaaGreatDoor.Vc
namespace Go.Proofs
open Go.RowKit Go.Lib
open Tryz
def Tryz.lays137_ren:Go.Shelf.Ren:=⟨fun|137=>133|217=>139|266=>174|n=>n,fun|9=>9|5=>5|3=>3|n=>n,fun|n=>n⟩
theorem Tryz.lays137:Go.Proofs.Lays.n137 prog Tryz.lays137_ren:={
 mixed:=by kernel_rfl
 f137:=Tryz.func133.trans (aS4 some pP)
 f217:=Tryz.func139.trans (aS4 some pP)
 f266:=Tryz.func174.trans (aS4 some pP)
 t3:=Tryz.underlying3
 a3:=Tryz.isAgg3
 z3:=Tryz.sizeOf3
 v3:=Tryz.zeroValue3
 t5:=Tryz.underlying5
 a5:=Tryz.isAgg5
 z5:=Tryz.sizeOf5
 v5:=Tryz.zeroValue5
 t9:=Tryz.underlying9
 a9:=Tryz.isAgg9
 z9:=Tryz.sizeOf9
 v9:=Tryz.zeroValue9}
def Tryz.lays161_ren:Go.Shelf.Ren:=⟨fun|161=>80|231=>111|227=>112|233=>113|235=>114|228=>143|197=>144|151=>145|260=>176|152=>177|137=>133|119=>199|224=>141|225=>140|217=>139|266=>174|n=>n,fun|9=>9|4=>4|3=>3|5=>5|117=>152|116=>151|0=>0|124=>155|105=>177|21=>21|119=>218|46=>176|139=>221|138=>220|n=>n,fun|3=>1|4=>2|n=>n⟩
theorem Tryz.lays161:Go.Proofs.Lays.n161 prog Tryz.lays161_ren:={
 mixed:=by kernel_rfl
 f119:=Tryz.func199.trans (aS4 some pP)
 f137:=Tryz.func133.trans (aS4 some pP)
 f151:=Tryz.func145.trans (aS4 some pP)
 f152:=Tryz.func177.trans (aS4 some pP)
 f161:=Tryz.func80.trans (aS4 some pP)
 f197:=Tryz.func144.trans (aS4 some pP)
 f217:=Tryz.func139.trans (aS4 some pP)
 f224:=Tryz.func141.trans (aS4 some pP)
 f225:=Tryz.func140.trans (aS4 some pP)
 f227:=Tryz.func112.trans (aS4 some pP)
 f228:=Tryz.func143.trans (aS4 some pP)
 f231:=Tryz.func111.trans (aS4 some pP)
 f233:=Tryz.func113.trans (aS4 some pP)
 f235:=Tryz.func114.trans (aS4 some pP)
 f260:=Tryz.func176.trans (aS4 some pP)
 f266:=Tryz.func174.trans (aS4 some pP)
 t0:=Tryz.underlying0
 a0:=Tryz.isAgg0
 z0:=Tryz.sizeOf0
 v0:=Tryz.zeroValue0
 t3:=Tryz.underlying3
 a3:=Tryz.isAgg3
 z3:=Tryz.sizeOf3
 v3:=Tryz.zeroValue3
 t4:=Tryz.underlying4
 a4:=Tryz.isAgg4
 z4:=Tryz.sizeOf4
 v4:=Tryz.zeroValue4
 t5:=Tryz.underlying5
 a5:=Tryz.isAgg5
 z5:=Tryz.sizeOf5
 v5:=Tryz.zeroValue5
 t9:=Tryz.underlying9
 a9:=Tryz.isAgg9
 z9:=Tryz.sizeOf9
 v9:=Tryz.zeroValue9
 t21:=Tryz.underlying21
 a21:=Tryz.isAgg21
 z21:=Tryz.sizeOf21
 v21:=Tryz.zeroValue21
 t46:=Tryz.underlying176
 a46:=Tryz.isAgg176
 z46:=Tryz.sizeOf176
 v46:=Tryz.zeroValue176
 t105:=Tryz.underlying177
 a105:=Tryz.isAgg177
 z105:=Tryz.sizeOf177
 v105:=Tryz.zeroValue177
 t116:=Tryz.underlying151
 a116:=Tryz.isAgg151
 z116:=Tryz.sizeOf151
 t117:=Tryz.underlying152
 a117:=Tryz.isAgg152
 z117:=Tryz.sizeOf152
 v117:=Tryz.zeroValue152
 t119:=Tryz.underlying218
 a119:=Tryz.isAgg218
 z119:=Tryz.sizeOf218
 t124:=Tryz.underlying155
 a124:=Tryz.isAgg155
 z124:=Tryz.sizeOf155
 v124:=Tryz.zeroValue155
 t138:=Tryz.underlying220
 a138:=Tryz.isAgg220
 z138:=Tryz.sizeOf220
 v138:=Tryz.zeroValue220
 t139:=Tryz.underlying221
 a139:=Tryz.isAgg221
 z139:=Tryz.sizeOf221
 v139:=Tryz.zeroValue221
 g3:=by kernel_rfl
 g4:=by kernel_rfl}
def Tryz.lays190_ren:Go.Shelf.Ren:=⟨fun|190=>163|125=>192|258=>191|128=>217|129=>218|302=>208|303=>209|304=>210|305=>211|306=>212|307=>213|308=>214|309=>215|310=>216|333=>236|329=>237|330=>238|334=>239|335=>240|336=>241|344=>252|n=>n,fun|31=>23|9=>9|3=>3|46=>176|0=>0|51=>202|53=>241|4=>4|183=>234|182=>233|131=>54|5=>5|218=>255|222=>259|228=>268|229=>140|n=>n,fun|n=>n⟩
theorem Tryz.lays190:Go.Proofs.Lays.n190 prog Tryz.lays190_ren:={
 mixed:=by kernel_rfl
 f125:=Tryz.func192.trans (aS4 some pP)
 f128:=Tryz.func217.trans (aS4 some pP)
 f129:=Tryz.func218.trans (aS4 some pP)
 f190:=Tryz.func163.trans (aS4 some pP)
 f258:=Tryz.func191.trans (aS4 some pP)
 f302:=Tryz.func208.trans (aS4 some pP)
 f303:=Tryz.func209.trans (aS4 some pP)
 f304:=Tryz.func210.trans (aS4 some pP)
 f305:=Tryz.func211.trans (aS4 some pP)
 f306:=Tryz.func212.trans (aS4 some pP)
 f307:=Tryz.func213.trans (aS4 some pP)
 f308:=Tryz.func214.trans (aS4 some pP)
 f309:=Tryz.func215.trans (aS4 some pP)
 f310:=Tryz.func216.trans (aS4 some pP)
 f329:=Tryz.func237.trans (aS4 some pP)
 f330:=Tryz.func238.trans (aS4 some pP)
 f333:=Tryz.func236.trans (aS4 some pP)
 f334:=Tryz.func239.trans (aS4 some pP)
 f335:=Tryz.func240.trans (aS4 some pP)
 f336:=Tryz.func241.trans (aS4 some pP)
 f344:=Tryz.func252.trans (aS4 some pP)
 t0:=Tryz.underlying0
 a0:=Tryz.isAgg0
 z0:=Tryz.sizeOf0
 v0:=Tryz.zeroValue0
 t3:=Tryz.underlying3
 a3:=Tryz.isAgg3
 z3:=Tryz.sizeOf3
 v3:=Tryz.zeroValue3
 t4:=Tryz.underlying4
 a4:=Tryz.isAgg4
 z4:=Tryz.sizeOf4
 v4:=Tryz.zeroValue4
 t5:=Tryz.underlying5
 a5:=Tryz.isAgg5
 z5:=Tryz.sizeOf5
 v5:=Tryz.zeroValue5
 t9:=Tryz.underlying9
 a9:=Tryz.isAgg9
 z9:=Tryz.sizeOf9
 v9:=Tryz.zeroValue9
 t31:=Tryz.underlying23
 a31:=Tryz.isAgg23
 z31:=Tryz.sizeOf23
 v31:=Tryz.zeroValue23
 t46:=Tryz.underlying176
 a46:=Tryz.isAgg176
 z46:=Tryz.sizeOf176
 v46:=Tryz.zeroValue176
 t51:=Tryz.underlying202
 a51:=Tryz.isAgg202
 z51:=Tryz.sizeOf202
 v51:=Tryz.zeroValue202
 t53:=Tryz.underlying241
 a53:=Tryz.isAgg241
 z53:=Tryz.sizeOf241
 v53:=Tryz.zeroValue241
 t131:=Tryz.underlying54
 a131:=Tryz.isAgg54
 z131:=Tryz.sizeOf54
 v131:=Tryz.zeroValue54
 t182:=Tryz.underlying233
 a182:=Tryz.isAgg233
 z182:=Tryz.sizeOf233
 v182:=Tryz.zeroValue233
 t183:=Tryz.underlying234
 a183:=Tryz.isAgg234
 z183:=Tryz.sizeOf234
 v183:=Tryz.zeroValue234
 t218:=Tryz.underlying255
 a218:=Tryz.isAgg255
 z218:=Tryz.sizeOf255
 v218:=Tryz.zeroValue255
 t222:=Tryz.underlying259
 a222:=Tryz.isAgg259
 z222:=Tryz.sizeOf259
 v222:=Tryz.zeroValue259
 t228:=Tryz.underlying268
 a228:=Tryz.isAgg268
 z228:=Tryz.sizeOf268
 v228:=Tryz.zeroValue268
 t229:=Tryz.underlying140
 a229:=Tryz.isAgg140
 z229:=Tryz.sizeOf140
 v229:=Tryz.zeroValue140}
def Tryz.lays196_ren:Go.Shelf.Ren:=⟨fun|196=>168|259=>195|n=>n,fun|0=>0|3=>3|4=>4|5=>5|9=>9|12=>12|46=>176|53=>241|119=>218|138=>220|139=>221|n=>n,fun|3=>1|4=>2|n=>n⟩
theorem Tryz.lays196:Go.Proofs.Lays.n196 prog Tryz.lays196_ren:={
 mixed:=by kernel_rfl
 f196:=Tryz.func168.trans (aS4 some pP)
 f259:=Tryz.func195.trans (aS4 some pP)
 t0:=Tryz.underlying0
 a0:=Tryz.isAgg0
 z0:=Tryz.sizeOf0
 v0:=Tryz.zeroValue0
 t3:=Tryz.underlying3
 a3:=Tryz.isAgg3
 z3:=Tryz.sizeOf3
 v3:=Tryz.zeroValue3
 t4:=Tryz.underlying4
 a4:=Tryz.isAgg4
 z4:=Tryz.sizeOf4
 v4:=Tryz.zeroValue4
 t5:=Tryz.underlying5
 a5:=Tryz.isAgg5
 z5:=Tryz.sizeOf5
 v5:=Tryz.zeroValue5
 t9:=Tryz.underlying9
 a9:=Tryz.isAgg9
 z9:=Tryz.sizeOf9
 v9:=Tryz.zeroValue9
 t12:=Tryz.underlying12
 a12:=Tryz.isAgg12
 z12:=Tryz.sizeOf12
 v12:=Tryz.zeroValue12
 t46:=Tryz.underlying176
 a46:=Tryz.isAgg176
 z46:=Tryz.sizeOf176
 v46:=Tryz.zeroValue176
 t53:=Tryz.underlying241
 a53:=Tryz.isAgg241
 z53:=Tryz.sizeOf241
 v53:=Tryz.zeroValue241
 t119:=Tryz.underlying218
 a119:=Tryz.isAgg218
 z119:=Tryz.sizeOf218
 t138:=Tryz.underlying220
 a138:=Tryz.isAgg220
 z138:=Tryz.sizeOf220
 v138:=Tryz.zeroValue220
 t139:=Tryz.underlying221
 a139:=Tryz.isAgg221
 z139:=Tryz.sizeOf221
 v139:=Tryz.zeroValue221
 g3:=by kernel_rfl
 g4:=by kernel_rfl}
def Tryz.lays240_ren:Go.Shelf.Ren:=⟨fun|240=>78|276=>109|n=>n,fun|0=>0|4=>4|9=>9|20=>20|70=>79|72=>82|164=>146|37=>80|n=>n,fun|n=>n⟩
theorem Tryz.lays240:Go.Proofs.Lays.n240 prog Tryz.lays240_ren:={
 mixed:=by kernel_rfl
 f240:=Tryz.func78.trans (aS4 some pP)
 f276:=Tryz.func109.trans (aS4 some pP)
 t0:=Tryz.underlying0
 a0:=Tryz.isAgg0
 z0:=Tryz.sizeOf0
 v0:=Tryz.zeroValue0
 t4:=Tryz.underlying4
 a4:=Tryz.isAgg4
 z4:=Tryz.sizeOf4
 v4:=Tryz.zeroValue4
 t9:=Tryz.underlying9
 a9:=Tryz.isAgg9
 z9:=Tryz.sizeOf9
 v9:=Tryz.zeroValue9
 t20:=Tryz.underlying20
 a20:=Tryz.isAgg20
 z20:=Tryz.sizeOf20
 v20:=Tryz.zeroValue20
 t70:=Tryz.underlying79
 a70:=Tryz.isAgg79
 z70:=Tryz.sizeOf79
 v70:=Tryz.zeroValue79
 t72:=Tryz.underlying82
 a72:=Tryz.isAgg82
 z72:=Tryz.sizeOf82
 v72:=Tryz.zeroValue82
 t164:=Tryz.underlying146
 a164:=Tryz.isAgg146
 z164:=Tryz.sizeOf146
 v164:=Tryz.zeroValue146}
theorem Tryz.builderX72:Builder.X72 prog Tryz.lays240_ren:={
 sizeBuilder:=by kernel_rfl
 liesBuilder:=by kernel_rfl}
def Tryz.lays169_ren:Go.Shelf.Ren:=⟨fun|169=>53|n=>n,fun|70=>79|9=>9|0=>0|72=>82|37=>80|127=>115|3=>3|5=>5|n=>n,fun|n=>n⟩
theorem Tryz.lays169:Go.Proofs.Lays.n169 prog Tryz.lays169_ren:={
 mixed:=by kernel_rfl
 f169:=Tryz.func53.trans (aS4 some pP)
 t0:=Tryz.underlying0
 a0:=Tryz.isAgg0
 z0:=Tryz.sizeOf0
 v0:=Tryz.zeroValue0
 t3:=Tryz.underlying3
 a3:=Tryz.isAgg3
 z3:=Tryz.sizeOf3
 v3:=Tryz.zeroValue3
 t9:=Tryz.underlying9
 a9:=Tryz.isAgg9
 z9:=Tryz.sizeOf9
 v9:=Tryz.zeroValue9
 t37:=Tryz.underlying80
 a37:=Tryz.isAgg80
 z37:=Tryz.sizeOf80
 v37:=Tryz.zeroValue80
 t70:=Tryz.underlying79
 a70:=Tryz.isAgg79
 z70:=Tryz.sizeOf79
 v70:=Tryz.zeroValue79
 t72:=Tryz.underlying82
 a72:=Tryz.isAgg82
 z72:=Tryz.sizeOf82
 v72:=Tryz.zeroValue82
 t127:=Tryz.underlying115
 a127:=Tryz.isAgg115
 z127:=Tryz.sizeOf115
 v127:=Tryz.zeroValue115}
theorem Tryz.builderExtra:Builder.Extra prog Tryz.lays169_ren:={
 sizeBuilder:=by kernel_rfl
 liesBuilder:=by kernel_rfl
 t5:=Tryz.underlying5
 a5:=Tryz.isAgg5
 z5:=Tryz.sizeOf5
 v5:=Tryz.zeroValue5
 infoByte:=by kernel_rfl
 cellsByte:=by kernel_rfl
 sizeByte:=by kernel_rfl
 neB5:=by decide}
end Go.Proofs
namespace Go.Proofs.YtcpbaddnmpeipaaGreatDoor
open Vc Go.RowKit
open Tryz
theorem aLv {g:Gh}{w w':pM}(hH:s5 g w (qP 0 [])) (hb:Below w.heap.size w w'):s5 g w' (qP 0 []):=
 ⟨fun _ _ h=>(by cases h),fun _ _ _ _ _ _ _ h=>(by cases h),fun b o h=>aTd (hH.sl b o h) hb.size,⟨HI hH.tab.1 hb.size fun b h=>hb.block b (aTd h hH.tab.1.1),fun _ _ _ _ h=>(by cases h)⟩⟩
theorem QO {P:Program}{f:FuncId}{C:List pW->List pV->Option qH}(hen: ∀args w,(callFunc f args).run P w= .ok (.enter f args) w)
  (h: ∀(g:Gh) (w:pM) (args:List pW) (vals:pI) (L:List pV) (r:qH),EH w->vD g w args vals->C args L=some r->(∀p∈r.side,p)->
   L=[]/\r.H=[]/\Calls P f vals.toArray w (fun e w'=> ∃v,e= .returned v/\Below w.heap.size w w'/\Q9 g w' r.ret v)):yJ P f C:=by
 refine⟨hen,fun g w args vals L r hH ha hC hs=>?_⟩;obtain⟨rfl,hr,hc⟩:=h g w args vals L r hH.tab.1 ha hC hs;refine hc.mono fun e w' ⟨v,he,hb,hv⟩=>⟨v,g,he,⟨fun b o h=>⟨h,hb.cell (p:=⟨b,o,none⟩) (hH.sl b o h)⟩,by rw[hr];exact aLv hH hb,hv,⟨hb.os,hb.tape,hb.output,hb.size,fun b h _=>hb.block b h,fun b o h _=>⟨hb.cell (p:=⟨b,o,none⟩) h,hb.frozen (p:=⟨b,o,none⟩) h⟩,fun b o h=> .inl h,fun b s h=> .inl ((BJ (hb.block b (BI h))).trans h)⟩,(fun i blk b o h=>by rw[hr] at h;cases h),(fun i t x ts h=>by cases h),(fun i t x ts u y us h=>by cases h),(fun _ _ _ h=>h),(fun _ _ _ _ h=>h)⟩⟩
theorem aCx {P:Program}{f:FuncId}{vals:Array pN}{w:pM}{Q:Ending->Prop}(h:Calls P f vals w fun e w'=>Q e/\w'=w):Calls P f vals w fun e w'=>Q e/\Below w.heap.size w w':=
 h.mono fun e w' ⟨h1,h2⟩=>⟨h1,by rw[h2];exact Below.refl _ _⟩
def vU (s:p7) (c:Int):Int:=Lib.indexByte s (Int.toNat c).toUInt8
@[go_sem] def VY:List pW->List pV->Option qH
 |[(.val .str O,none),(.val (.int .u8) Z,none)],[]=>some ⟨[],[(.val (.int .i64) (vU O Z),none)],[]⟩
 |_,_=>none
theorem aCy:yJ prog 133 VY:=by
 refine QO (fun _ _=>rfl) fun g w args vals L r hT ha hC hs=>?_;unfold VY at hC;split at hC
 .rename_i s c;cases hC;obtain⟨va,_,rfl,ra,vb,_,rfl,rb,hv⟩:=ha;obtain rfl:=wY ra.1;obtain rfl:=wC rb.1;cases hv;exact⟨rfl,rfl,(aCx (Any.strings_IndexByte Tryz.lays137 ⟨List.toArray s⟩ c w)).mono fun e w' ⟨he,hb⟩=>⟨_,he,hb,w9 _ _ _ _,trivial⟩⟩
 cases hC
@[go_sem] def VZ:List pW->List pV->Option qH
 |[(.val .str O,none),(.val .str Z,none)],[]=>some ⟨[(List.all Z fun b=>decide (b.toNat<128))=true/\List.length Z<4294967281],[(.val .str (Lib.trimLeftS O Z),none)],[]⟩
 |_,_=>none
theorem aCz:yJ prog 80 VZ:=by
 refine QO (fun _ _=>rfl) fun g w args vals L r hT ha hC hs=>?_;unfold VZ at hC;split at hC
 .rename_i s c;cases hC;obtain⟨h1,h2⟩:=hs _ aS2;obtain⟨va,_,rfl,ra,vb,_,rfl,rb,hv⟩:=ha;obtain rfl:=wY ra.1;obtain rfl:=wY rb.1;cases hv;exact⟨rfl,rfl,(Any.strings_TrimLeft_laid Tryz.lays161 pP ⟨List.toArray s⟩ ⟨List.toArray c⟩ w h2 (ascii_of_all h1)).mono fun e w' ⟨he,hb⟩=>⟨_,he,hb,KN _ _ _,trivial⟩⟩
 cases hC
@[go_sem] def W3:List pW->List pV->Option qH
 |[(.val .str O,none)],[]=>some ⟨[List.length O<=9223372036854775807],[(.val .bool (Lib.validD O),none)],[]⟩
 |_,_=>none
theorem aCA:yJ prog 168 W3:=by
 refine QO (fun _ _=>rfl) fun g w args vals L r hT ha hC hs=>?_;unfold W3 at hC;split at hC
 .rename_i s;cases hC;have h1:=hs _ aS2;obtain⟨va,_,rfl,ra,hv⟩:=ha;obtain rfl:=wY ra.1;cases hv;exact⟨rfl,rfl,(Any.utf8_ValidString Tryz.lays196 ⟨List.toArray s⟩ w h1 hT.2.1).mono fun e w' ⟨he,hb⟩=>⟨_,he,hb,vC _ _ _,trivial⟩⟩
 cases hC
@[go_sem] def noC:List pW->List pV->Option qH:=fun _ _=>none
def sH (l:p8):p8:=l.mergeSort fun x y=>decide (x<=y)
@[go_sem] def a1s:(t:Ty)->List t.den->Option (List t.den)
 | .str,l=>some (sH l)
 |_,_=>none
def a1t {g:Gh}{w:pM}: ∀{l:p8}{xs:pI},tU (Rd g w .str) 1 l xs->xs=l.map Go.Proofs.encStr
 |[],_,h=>h
 |_::_,_,⟨c1,c2,e,_,h2,h3⟩=>by rw[e,show c1=_ from h2,a1t h3];rfl
def a1u {g:Gh}{w:pM}: ∀(l:p8),tU (Rd g w .str) 1 l (l.map Go.Proofs.encStr)
 |[]=>rfl
 |x::l=>⟨[.string ⟨x.toArray⟩],_,rfl,rfl,rfl,a1u l⟩
def aCB (s:p8) (cur:Array pN) (h:s.length<=cur.size):(Go.Sort.putCells Go.Proofs.encStr 0 s.toArray cur).toList.take s.length=s.map Go.Proofs.encStr:=by
 apply List.ext_getElem
 .simp [Go.Sort.putCells];omega
 intro i h1 h2;have hi:i<s.length:=by simpa using h2
 simp only[Go.Sort.putCells,List.getElem_take,Array.getElem_toList,Array.getElem_mapIdx,List.getElem_map];rw[aSB (by simp;exact hi)];simp [hi]
def aCC:yJ prog 163 noC/\∀F,some a1s=some F->V7 prog 163 F:=by
 refine⟨⟨fun _ _=>rfl,fun g w args vals L r _ _ hC _=>by cases hC⟩,fun F hF=>?_⟩;cases hF;intro g w e t l l' v n xs hT hown hF hl hn hf;cases t with
 |str=>
  have hf:sH l=l':=aSG hf;subst hf;subst hl;have hlen:(sH l).length=l.length:=by simp [sH]
  obtain⟨hx,⟨rfl,h0⟩ |⟨b,cap,cur,rfl,hb0,hbk,hnc,hcm,hcs,htk⟩⟩:=hown
  .obtain rfl:l=[]:=aTB.1 h0;refine(Any.slices_Sort_string_none Tryz.lays190 none 0 w).mono ?_;rintro en w' ⟨rfl,rfl⟩;exact⟨rfl,hlen,[],⟨rfl,.inl ⟨rfl,rfl⟩⟩,by simp [sH,tU],⟨rfl,rfl,rfl,aSW _,fun _ _ _=>rfl⟩⟩
  .have hxs:=a1t hF;subst hxs;have hc1:(Ty.str).cells=1:=rfl;rw[hc1,aUs] at hcs htk;have hbl:b<w.heap.size:=by
    rcases aTD b w.heap.size with h|h
    .exact h
    rw[Array.getElem?_eq_none h] at hbk;cases hbk
   have hH:Go.Sort.Holds Go.Proofs.encStr w b 0 l.toArray:=by
    intro j hj;have hj':j<l.length:=by simpa using hj
    refine⟨?_,Lib.frozen_of_heap hbk _⟩;rw[Lib.cell_of_heap hbk,aTa];have h2:(cur.toList.take l.length)[j]? =(l.map Go.Proofs.encStr)[j]? :=by rw[htk]
    rw[aTy hj',aTE] at h2;rw[h2];simp [hj']
   refine(Any.slices_Sort_string Tryz.lays190 b 0 cap l w hH hbl hn).mono ?_;rintro en w' ⟨rfl,m,os,rfl⟩;have hsz:(sH l).length<=cur.size:=by rw[hlen,hcs];exact hnc
   have hnew:(Go.Sort.grow (Go.Sort.putRow Go.Proofs.encStr (Go.Sort.ahead w m) b 0 (sH l).toArray) os).heap[b]? =some (.cells (Go.Sort.putCells Go.Proofs.encStr 0 (sH l).toArray cur) e (0,0)):=by
    rw[Go.Sort.heap_grow_old _ _ (by simpa using hbl)];simp [Go.Sort.putRow,Go.Sort.mapBlock,aTC,hbk,Go.Sort.onCells]
   refine⟨rfl,hlen,(sH l).map Go.Proofs.encStr,⟨by simp [hlen,hc1],.inr ⟨b,cap,_,rfl,hb0,hnew,hnc,hcm,?_,?_⟩⟩,a1u _,⟨rfl,rfl,rfl,by simp,fun k hk hne=>?_⟩⟩
   .rw[hc1,aUs];simpa[Go.Sort.putCells] using hcs
   .rw[hc1,aUs,<-hlen];exact aCB _ _ hsz
   .rw[Go.Sort.heap_grow_old _ _ (by simpa using hk)];have hkb:b≠k:=fun h=>hne (by rw[h];rfl);simp [Go.Sort.putRow,Go.Sort.mapBlock,aTC,hkb]
 |_=>cases hf
def EZ (s c:p7):Int:=Lib.index s c
@[go_sem] def W4:List pW->List pV->Option qH
 |[(.val .ref (some (0,0)),none)],[.cells (.pair .mref (.pair (.list (.int .u8)) .unit)) ((some (0,0)),O) [(1,1)],.grow Z 1 aA]=>some ⟨[aA=List.length O.1],[],[.cells (.pair .mref (.pair (.list (.int .u8)) .unit)) ((some (0,0)),O) [(1,1)],.grow Z 1 aA]⟩
 |_,_=>none
def aCD {g:Gh}{w:pM}{L:List pV}{e:qI}{w':pM}{u v:pN}{r:qH}(hE:rD g w (qP 0 L) e g w' u)
  (hH: ∀i,pY (qP 0 r.H) i=pY (qS e.upd (qP 0 L)) i) (hin: ∀i,i∈q9 e.upd->i<L.length) (hlen:r.H.length=L.length)
  (hp: ∀i blk b o,r.H[i]? =some blk->rY g i blk b o->w.heap.size<=b\/y8 g (qP 0 L) b o)
  (hty: ∀(i:Nat) t x ts u y us,L[i]? =some (.cells t x ts)->r.H[i]? =some (.cells u y us)->u=t)
  (hret:Q9 g w' r.ret v):EV g w L r g w' v:=
 ⟨fun b o h=>⟨h,hE.le.cell b o h⟩,hE.heap.ext hH,hret,hE.fr.mono fun b o ⟨i,blk,_,h1,h2⟩=>⟨i,blk,h1,h2⟩,hp,fun _ _ _ _ _=>rfl,hty,fun _ _ _ h=>h,fun _ _ _ _ h=>h⟩
def aLw {P:Program}{ρ:Go.Shelf.Ren}(L:Lays.n240 P ρ) (X:Builder.X72 P ρ) {e:TypeId}(b:Nat) (w:pM) (h0:w.cell? ⟨b,0,none⟩=some (.pointer none)) (hsh:w.shape? b=some (e,2)) (hl:liesAt P P.depth e (2/P.cellsOf e) 0 (ρ.t 72) 1=true) (hfz:w.frozen? ⟨b,0,none⟩=false):
  Calls P (ρ.f 240) #[.pointer (some ⟨b,0,none⟩)] w fun en w'=>en= .returned (.tuple #[])/\w'=w.setCell ⟨b,0,none⟩ (.pointer (some ⟨b,0,none⟩)):=by
 obtain⟨j,hj,hjs⟩:=aSS.1 X.sizeBuilder;have mixed:=L.mixed;have t72:=L.t72;have a72:=L.a72;have z72:=L.z72;have v72:=L.v72;have u72:=aSX L.t72;have t70:=L.t70;have a70:=L.a70;have z70:=L.z70;have v70:=L.v70;have u70:=aSX L.t70;have t9:=L.t9;have a9:=L.a9;have z9:=L.z9;have v9:=L.v9;have u9:=aSX L.t9;have t4:=L.t4;have a4:=L.a4;have z4:=L.z4;have v4:=L.v4;have u4:=aSX L.t4;have t164:=L.t164;have a164:=L.a164;have z164:=L.z164;have v164:=L.v164;have u164:=aSX L.t164
 go_enter L.f240,Body.n240_ntmps ρ
 go_wp2
 rw[Lib.run_to_unsafe w ⟨b,0,none⟩ L.t70 L.t164 hj (by rw[hjs];decide) hsh (Nat.zero_lt_succ 1)];simp only[Result.andThen];rw[Oper.upon_value]
 go_wp2
 rw[run_callFunc_extern L.f276 pP pP pP (e:=Extern.AbiNoEscape.same) pP];rw[Lib.run_noEscape];simp only[Result.andThen];rw[Oper.upon_value]
 go_wp2
 rw[Lib.run_from_unsafe w ⟨b,0,none⟩ L.t164 L.t70 hj hsh hl];simp only[Result.andThen];rw[Oper.upon_value]
 go_wp2
 go_end0
 exact⟨rfl,rfl⟩
def aCE:yJ prog 78 W4:=by
 refine⟨fun _ _=>rfl,fun g w args vals L r hH ha hC hs=>?_⟩;unfold W4 at hC;split at hC
 .rename_i O Z aA;cases hC;obtain⟨va,_,rfl,ra,hv⟩:=ha;cases hv;have hg0:pY (qP 0 [pV.cells (.pair .mref (.pair (.list (.int .u8)) .unit)) ((some (0,0)),O) [(1,1)],.grow Z 1 aA]) 0=some (.cells (.pair .mref (.pair (.list (.int .u8)) .unit)) ((some (0,0)),O) [(1,1)]):=rfl;obtain⟨p,cs,hJ,hR,hra,hth,hns,htk⟩:=hH.blk 0 _ hg0;obtain⟨c1,c2,rfl,hR1,hR2⟩:=hR;obtain⟨p',hJ',⟨hp0,eb,heb,hk3⟩,hc1⟩:=hR1;rw[hJ] at hJ';obtain rfl:=aSG hJ';obtain⟨b,o,k⟩:=p;have ho:o=0:=by simpa using hp0
  subst ho;have hlies:liesAt prog Tryz.prog.depth eb (2/Tryz.prog.cellsOf eb) 0 82 1=true:=by
   unfold YM at heb;split at heb
   .rename_i h;subst h;kernel_rfl
   split at heb
   .rename_i h;subst h;kernel_rfl
   cases heb
  have hva:va= .pointer (some ⟨b,0,none⟩):=by
   obtain⟨q,hq,e⟩:=wZ ra.1;rw[hJ] at hq;cases hq;exact e
  subst hva;have hsh:w.shape? b=some (eb,2):=hth.2 pC _ hk3;rcases hc1 with rfl|rfl
  .have h0:w.cell? ⟨b,0,none⟩=some (.pointer none)/\w.frozen? ⟨b,0,none⟩=false:=⟨hra 0 _ rfl,(hth.1 0 pC).2⟩;refine(aLw Tryz.lays240 Tryz.builderX72 b w h0.1 hsh hlies h0.2).mono ?_;rintro en w' ⟨rfl,rfl⟩;refine⟨_,g,rfl,?_⟩;have hE:=rD.store (side:=[]) (rds:=[]) hH (i:=0) (t:= .mref) (y:=some (0,0)) (off:=0) (k:=none) (p:=⟨b,0,k⟩) (cy:=[.pointer (some ⟨b,0,none⟩)]) (v:= .pointer (some ⟨b,0,none⟩)) hg0 hJ (z:=((some (0,0)),O)) pQ ⟨_,hJ,⟨rfl,_,heb,hk3⟩,.inr rfl⟩ trivial (fun _ _ h=>by cases h) (fun _=>rfl);refine aCD hE.1 ?_ ?_ rfl ?_ ?_ ?_
   .intro i
    match i with
    |0=>rfl
    |1=>rfl
    |i+2=>rfl
   .intro i hi;simp [q9] at hi;subst hi;exact Nat.zero_lt_succ _
   .intro i blk b o hi ho;exact .inr ⟨i,blk,by rw[V6];simpa using hi,ho⟩
   .intro i t x ts u y us h1 h2;rw[h1] at h2;cases h2;rfl
   exact⟨[],rfl,rfl⟩
  have h0:w.cell? ⟨b,0,none⟩=some (.pointer (some ⟨b,0,none⟩)):=hra 0 _ rfl;refine(Any.Builder_copyCheck_used Tryz.lays240 Tryz.builderX72 b w h0).mono ?_;rintro en w' ⟨rfl,rfl⟩;refine⟨_,g,rfl,⟨fun b o h=>⟨h,rfl⟩,hH,⟨[],rfl,rfl⟩,Fr.refl _ _ _,?_,fun _ _ _ _ _=>rfl,?_,fun _ _ _ h=>h,fun _ _ _ _ h=>h⟩⟩
  .intro i blk b o hi ho;exact .inr ⟨i,blk,by rw[V6];simpa using hi,ho⟩
  intro i t x ts u y us h1 h2;rw[h1] at h2;cases h2;rfl
 cases hC
def aCF {P:Program}(w:pM): ∀(l:pH) (a:Addr) (acc:ByteArray),(∀j x,l[j]? =some x->w.cell? (a.add j)=some (.int .u8 x))->
  (loadBytes a acc l.length).run P w= .ok ⟨acc.data++(tP l).toArray⟩ w
 |[],a,acc,_=>by simp [loadBytes,tP]
 |x::l,a,acc,h=>by
  have h0:w.cell? a=some (.int .u8 x):=by
   have:=h 0 x rfl;simpa[Addr.add] using this
  have ih:=aCF (P:=P) w l (a.add 1) (acc.push (UInt8.ofNat x.toNat)) (fun j y hy=>by
   have:=h (j+1) y (by simpa using hy);have e:(a.add 1).add j=a.add (j+1):=by
    unfold Addr.add;by_cases hj:j=0
    .subst hj;simp
    simp [hj];omega
   rw[e];exact this)
  have hx:x.toNat.toUInt8=UInt8.ofNat x.toNat:=rfl;simp only[aSI,loadBytes,aSO,run_load,h0,Result.andThen,hx];rw[ih];congr 1;apply ByteArray.ext;simp [ByteArray.push,tP]
def aLx {P:Program}(w:pM) (pt it ty e:TypeId) (hp:P.underlying pt=some (.pointer e)) (hc:P.cellsOf e=1) (g cells:Nat) (hsh:w.shape? g=some (e,cells)) (l:pH) (h0:l≠[]) (hn:l.length<=cells) (h63:l.length<=9223372036854775807)
  (hcell: ∀j x,l[j]? =some x->w.cell? ((⟨g,0,none⟩:Addr).add j)=some (.int .u8 x)):
  (Builtin.unsafeString_ #[pt,it] ty #[.pointer (some ⟨g,0,none⟩),.int .i64 l.length]).run P w= .ok (.string ⟨(tP l).toArray⟩) (w.freeze ⟨g,0,none⟩ l.length):=by
 have hl:l.length≠0:=by simpa using h0
 have hlb:=aCF (P:=P) w l ⟨g,0,none⟩ .empty hcell;have hlies:=Lib.liesAt_bytes (P:=P) hc (cells/P.cellsOf e) l.length (by rw[hc];simpa using hn);have h63': ¬(9223372036854775807:Int)<(l.length:Int):=by omega
 have hdef:Builtin.unsafeString_ #[pt,it] ty #[.pointer (some ⟨g,0,none⟩),.int .i64 l.length]=
   (do
    let n<-asInt (.int .i64 l.length)
    if n<0 then runtimePanic (.error "unsafe.String: len out of range")
    if n>IntKind.i64.max then unsupported (.unsafePointer "String: a length above the largest int")
    if n=0 then pure (.string .empty)
    else if<-variablesAt ⟨g,0,none⟩ (<-elemOf pt) n.toNat then do
     let s<-loadBytes ⟨g,0,none⟩ .empty n.toNat
     freeze ⟨g,0,none⟩ n.toNat
     pure (.string s)
    else unsupported (.unsafePointer "String: not so many bytes at ptr")):=rfl
 rw[hdef];have hmax:IntKind.i64.max=9223372036854775807:=rfl;have hneg: ¬(l.length:Int)<0:=by omega
 simp [asInt,asIntOf,hmax,h63',hneg,hl,variablesAt,hsh,elemOf,aSX hp,hlies,hlb]
def a1v {P:Program}{ρ:Go.Shelf.Ren}(L:Lays.n169 P ρ) (X:Builder.Extra P ρ) (b n cap:Nat) (a q:Option Addr) (s:ByteArray) (w w2:pM)
  (c1:w.drew.cell? ⟨b,1,none⟩=some (.slice a n cap)) (hSD:(Builtin.unsafeSliceData_ #[(ρ.t 37)] (ρ.t 127) #[.slice a n cap]).run P w.drew= .ok (.pointer q) w.drew)
  (hUS:(Builtin.unsafeString_ #[(ρ.t 127),(ρ.t 3)] (ρ.t 9) #[.pointer q,.int .i64 n]).run P w.drew= .ok (.string s) w2):
  Calls P (ρ.f 169) #[.pointer (some ⟨b,0,none⟩)] w fun e w'=>e= .returned (.string s)/\w'=w2:=by
 have mixed:=L.mixed;have t72:=L.t72;have a72:=L.a72;have z72:=L.z72;have v72:=L.v72;have u72:=aSX L.t72;have t70:=L.t70;have a70:=L.a70;have z70:=L.z70;have v70:=L.v70;have u70:=aSX L.t70;have t37:=L.t37;have a37:=L.a37;have z37:=L.z37;have v37:=L.v37;have u37:=aSX L.t37;have t127:=L.t127;have a127:=L.a127;have z127:=L.z127;have v127:=L.v127;have u127:=aSX L.t127;have t3:=L.t3;have a3:=L.a3;have z3:=L.z3;have v3:=L.v3;have u3:=aSX L.t3;have t9:=L.t9;have a9:=L.a9;have z9:=L.z9;have v9:=L.v9;have u9:=aSX L.t9;have t5:=X.t5;have a5:=X.a5;have z5:=X.z5;have v5:=X.v5;have u5:=aSX X.t5
 go_enter L.f169,Body.n169_ntmps ρ
 go_wp2
 go_region_o
 all_goals (go_wp2;go_ret;exact⟨rfl,rfl⟩)
def aLy {P:Program}{ρ:Go.Shelf.Ren}(L:Lays.n169 P ρ) (X:Builder.Extra P ρ) (b g:Nat) (cur:Array pN) (w:pM) (hlt:b<w.heap.size)
  (c1:w.drew.cell? ⟨b,1,none⟩=some (.slice (some ⟨g,0,none⟩) 0 0)) (hg:w.drew.heap[g]? =some (.cells cur (ρ.t 5) (0,0))):
  Calls P (ρ.f 169) #[.pointer (some ⟨b,0,none⟩)] w fun e w'=>e= .returned (.string ⟨#[]⟩)/\w'=w.drew.alloc (.view ⟨g,0,none⟩ (ρ.t 5)):=by
 have hUS:=Any.unsafeString_none L X;have hSD:(Builtin.unsafeSliceData_ #[(ρ.t 37)] (ρ.t 127) #[.slice (some ⟨g,0,none⟩) 0 0]).run P w.drew= .ok (.pointer (some ⟨w.drew.heap.size,0,none⟩)) (w.drew.alloc (.view ⟨g,0,none⟩ (ρ.t 5))):=
  Lib.run_unsafeSliceData_zero w.drew _ _ (ρ.t 5) L.t127 ⟨g,0,none⟩ 0 ((ρ.t 5),cur.size) (by simp [World.shape?,hg])
 have c2:(w.drew.alloc (.view ⟨g,0,none⟩ (ρ.t 5))).cell? ⟨b,1,none⟩=some (.slice (some ⟨g,0,none⟩) 0 0):=
  (aS0 (a:=⟨b,1,none⟩) (Lib.alloc_old w.drew _ b hlt)).trans c1
 have c3:(w.alloc (.view ⟨g,0,none⟩ (ρ.t 5))).drew.cell? ⟨b,1,none⟩=some (.slice (some ⟨g,0,none⟩) 0 0):=c2;have c0:w.cell? ⟨b,1,none⟩=some (.slice (some ⟨g,0,none⟩) 0 0):=c1;have mixed:=L.mixed;have t72:=L.t72;have a72:=L.a72;have z72:=L.z72;have v72:=L.v72;have u72:=aSX L.t72;have t70:=L.t70;have a70:=L.a70;have z70:=L.z70;have v70:=L.v70;have u70:=aSX L.t70;have t37:=L.t37;have a37:=L.a37;have z37:=L.z37;have v37:=L.v37;have u37:=aSX L.t37;have t127:=L.t127;have a127:=L.a127;have z127:=L.z127;have v127:=L.v127;have u127:=aSX L.t127;have t3:=L.t3;have a3:=L.a3;have z3:=L.z3;have v3:=L.v3;have u3:=aSX L.t3;have t9:=L.t9;have a9:=L.a9;have z9:=L.z9;have v9:=L.v9;have u9:=aSX L.t9;have t5:=X.t5;have a5:=X.a5;have z5:=X.z5;have v5:=X.v5;have u5:=aSX X.t5
 go_enter L.f169,Body.n169_ntmps ρ
 go_wp2
 go_region_o
 all_goals (go_wp2;go_ret;exact⟨rfl,rfl⟩)
@[go_sem] def W5:List pW->List pV->Option qH
 |[(.val .ref (some (0,0)),none)],[.cells (.pair .mref (.pair (.list (.int .u8)) .unit)) ((some (0,0)),O) [(1,1)],.grow 5 1 Z]=>some ⟨[Z=List.length O.1],[(.val .str (tP O.1),none)],[.cells (.pair .mref (.pair (.list (.int .u8)) .unit)) ((some (0,0)),O) [],.dead]⟩
 |_,_=>none
def a1w {g:Gh}{w w':pM}{m:pJ}{b:(Ty.pair (.list (.int .u8)) .unit).den}{e n:Nat}{s:p7}{sd:List Prop}(hH:s5 g w (qP 0 [pV.cells (.pair .mref (.pair (.list (.int .u8)) .unit)) (m,b) [(1,1)],.grow e 1 n]))
  (hos:w'.os=w.os) (htape:w'.tape=w.tape) (hout:w'.output=w.output) (hsz:w.heap.size<=w'.heap.size)
  (hcell: ∀b o,b<w.heap.size->w'.cell? ⟨b,o,none⟩=w.cell? ⟨b,o,none⟩) (hshape: ∀b s,w.shape? b=some s->w'.shape? b=some s)
  (hblk: ∀b,b<w.heap.size->(∀o,¬rY g 1 (.grow e 1 n) b o)->w'.heap[b]? =w.heap[b]?):
  EV g w [pV.cells (.pair .mref (.pair (.list (.int .u8)) .unit)) (m,b) [(1,1)],.grow e 1 n] ⟨sd,[(.val .str s,none)],[.cells (.pair .mref (.pair (.list (.int .u8)) .unit)) (m,b) [],.dead]⟩ g w' (.string ⟨s.toArray⟩):=by
 have hg0:pY (qP 0 [pV.cells (.pair .mref (.pair (.list (.int .u8)) .unit)) (m,b) [(1,1)],.grow e 1 n]) 0=some (.cells (.pair .mref (.pair (.list (.int .u8)) .unit)) (m,b) [(1,1)]):=rfl;have hg1:pY (qP 0 [pV.cells (.pair .mref (.pair (.list (.int .u8)) .unit)) (m,b) [(1,1)],.grow e 1 n]) 1=some (.grow e 1 n):=rfl;have hle:Le g w g w':=⟨fun _ _ h=>h,fun b o h=>hcell b o (hH.sl b o h),fun _ _ h=>h,fun _ _ _ h=>h⟩;have hno: ∀c o,rY g 0 (.cells (.pair .mref (.pair (.list (.int .u8)) .unit)) (m,b) [(1,1)]) c o->∀o',¬rY g 1 (.grow e 1 n) c o':=fun c o h o' h'=>by
  obtain⟨v,hv,hb⟩:=h';exact hH.dis 0 1 _ _ c o pC hg0 hg1 h ⟨v,hv,hb⟩
 obtain⟨p,cs,hJ,hR,hra,hth,hns,htk⟩:=hH.blk 0 _ hg0;have hown0: ∀j,j<2->rY g 0 (.cells (.pair .mref (.pair (.list (.int .u8)) .unit)) (m,b) [(1,1)]) p.1 (p.2+j):=fun j hj=>⟨p,hJ,rfl,Nat.le_add_right _ _,Nat.add_lt_add_left hj _⟩;have hpl:p.1<w.heap.size:=KJ (hH.blk 0 _ hg0) (hown0 0 pC);have hpb:w'.heap[p.1]? =w.heap[p.1]? :=hblk p.1 hpl (hno p.1 _ (hown0 0 pC));have hbk0:zZ g w' 0 (.cells (.pair .mref (.pair (.list (.int .u8)) .unit)) (m,b) []):=
  ⟨p,cs,hJ,w8 hle hR,fun j v hj=>(hcell _ _ hpl).trans (hra j v hj),⟨fun j hj=>by
   have h1:=hth.1 j hj;rw[hcell _ _ hpl];exact⟨h1.1,(aTq (a:=⟨p.1,p.2+j,none⟩) hpb).trans h1.2⟩,fun h s hs=>hshape _ _ (hth.2 h s hs)⟩,hns,fun _ _ h=>by cases h⟩
 refine⟨fun b o h=>⟨h,hcell b o (hH.sl b o h)⟩,?_,(show rH g w' (.val .str s,none) (.string ⟨s.toArray⟩) from⟨KN _ _ _,trivial⟩),⟨hos,htape,hout,hsz,?_,?_,fun _ _ h=> .inl h,fun b s h=> .inl (hshape b s h)⟩,?_,fun _ _ _ _ _=>rfl,?_,fun _ _ _ h=>h,fun _ _ _ _ h=>h⟩
 .refine⟨fun i blk h=>?_,fun i j bi bj c o hij hi hj hoi hoj=>?_,fun b o h=>aTd (hH.sl b o h) hsz,HI hH.tab.1 hsz (fun c hc=>hblk c (aTd hc hH.tab.1.1) fun o ho=>absurd (hH.tab.2 1 _ c o hg1 ho) pB),fun i blk c o h ho=>?_⟩
  .match i,h with
   |0,h=>cases h;exact hbk0
   |1,h=>cases h;trivial
   |i+2,h=>simp [qP,pY] at h
  .match i,j,hi,hj with
   |0,0,_,_=>exact hij rfl
   |0,1,_,hj=>cases hj;exact hoj
   |1,_,hi,_=>cases hi;exact hoi
   |0,j+2,_,hj=>simp [qP,pY] at hj
   |i+2,_,hi,_=>simp [qP,pY] at hi
  match i,h with
  |0,h=>cases h;exact hH.tab.2 0 _ c o hg0 ho
  |1,h=>cases h;exact ho.elim
  |i+2,h=>simp [qP,pY] at h
 .intro c hc hn;exact hblk c hc fun o ho=>hn o ⟨1,_,hg1,ho⟩
 .intro c o hc hn;exact⟨hcell c o hc,aTq (a:=⟨c,o,none⟩) (hblk c hc fun o' ho=>hn ⟨1,_,hg1,by obtain⟨v,hv,hb⟩:=ho;exact⟨v,hv,hb⟩⟩)⟩
 .intro i blk c o hi ho
  match i,hi with
  |0,hi=>cases hi;exact .inr ⟨0,_,hg0,ho⟩
  |1,hi=>cases hi;exact ho.elim
  |i+2,hi=>simp at hi
 intro i t x ts u y us h1 h2
 match i,h1,h2 with
 |0,h1,h2=>cases h1;cases h2;rfl
 |1,h1,_=>cases h1
 |i+2,h1,_=>simp at h1
def aLz (w:pM) (a p:Addr) (n:Nat):(w.freeze a n).cell? p=w.cell? p:=by
 unfold World.freeze;split
 .rfl
 simp only[World.cell?,aTC];by_cases h:a.block=p.block
 .rw[aSB h];cases w.heap[p.block]? with
  |none=>rfl
  |some o=>cases o<;>rfl
 rw[aSD h]
def aLA (w:pM) (a:Addr) (n b:Nat):(w.freeze a n).shape? b=w.shape? b:=by
 unfold World.freeze;split
 .rfl
 simp only[World.shape?,aTC];by_cases h:a.block=b
 .rw[aSB h];cases w.heap[b]? with
  |none=>rfl
  |some o=>cases o<;>rfl
 rw[aSD h]
def aLB (w:pM) (a:Addr) (n b:Nat) (h:b≠a.block):(w.freeze a n).heap[b]? =w.heap[b]? :=by
 unfold World.freeze;split
 .rfl
 simp only[aTC];rw[aSD (Ne.symm h)]
def aLC (w:pM) (a:Addr) (n:Nat):(w.freeze a n).os=w.os/\(w.freeze a n).tape=w.tape/\(w.freeze a n).output=w.output/\(w.freeze a n).heap.size=w.heap.size:=by
 unfold World.freeze;split
 .exact⟨rfl,rfl,rfl,rfl⟩
 exact⟨rfl,rfl,rfl,by simp⟩
def aCG {g:Gh}{w:pM}{b:Nat}: ∀{l:pH}{o:Nat},yG (Rd g w (.int .u8)) w g.S 1 b o l->∀j x,l[j]? =some x->w.cell? ⟨b,o+j,none⟩=some (.int .u8 x)
 |[],_,_,_,_,h=>by cases h
 |y::l,o,⟨⟨cs,_,hra,_,hR⟩,hl⟩,j,x,h=>by
  match j,h with
  |0,h=>
   cases h;have hR:cs=[.int .u8 y]:=hR;subst hR;exact hra 0 _ rfl
  |j+1,h=>
   have:=aCG hl j x (by simpa using h);rw[show o+(j+1)=o+1+j by omega];exact this
def aLD {u:Ty}{m:pJ}{bv:(Ty.pair (.list (.int .u8)) .unit).den}{l:List u.den}(hget:qT (.list u) (.pair .mref (.pair (.list (.int .u8)) .unit)) (m,bv) 1=some l):l.length=bv.1.length:=by
 have h2:qT (.list u) (.list (.int .u8)) bv.1 0=some l:=hget;simp only[qT] at h2;split at h2
 .rename_i h;injection h with h
  subst h;cases h2;rfl
 cases h2
def aCH:yJ prog 53 W5:=by
 refine⟨fun _ _=>rfl,fun g w args vals L r hH ha hC hs=>?_⟩;unfold W5 at hC;split at hC
 .rename_i bv n;cases hC;obtain rfl:n=List.length bv.1:=hs _ pD;obtain⟨va,_,rfl,ra,hv⟩:=ha;cases hv;have hg0:pY (qP 0 [pV.cells (.pair .mref (.pair (.list (.int .u8)) .unit)) ((some (0,0)),bv) [(1,1)],.grow 5 1 (List.length bv.1)]) 0=some (.cells (.pair .mref (.pair (.list (.int .u8)) .unit)) ((some (0,0)),bv) [(1,1)]):=rfl;have hg1:pY (qP 0 [pV.cells (.pair .mref (.pair (.list (.int .u8)) .unit)) ((some (0,0)),bv) [(1,1)],.grow 5 1 (List.length bv.1)]) 1=some (.grow 5 1 (List.length bv.1)):=rfl;obtain⟨p,cs,hJ,hR,hra,hth,hns,htk⟩:=hH.blk 0 _ hg0;obtain⟨v',xs,hv',hown,hmax,hsl⟩:=hH.blk 1 _ hg1;obtain⟨c1,c2,rfl,hR1,hR2⟩:=hR;obtain⟨d1,d2,rfl,⟨a,cap,rfl,hcap,hl⟩,hd2⟩:=hR2;obtain⟨p',hJ',⟨hp0,_,_,_⟩,hc1⟩:=hR1;rw[hJ] at hJ';obtain rfl:=aSG hJ';obtain⟨b,o,k⟩:=p;have ho:o=0:=by simpa using hp0
  subst ho;have hlen1:c1.length=1:=by rcases hc1 with rfl|rfl<;>rfl
  obtain⟨q,hq,hva⟩:=wZ ra.1;rw[hJ] at hq;cases hq;subst hva;have hcell1:w.cell? ⟨b,1,none⟩=some (.slice a bv.1.length cap):=hra 1 _ (by rw[aSM pB,hlen1];rfl);obtain⟨u,l,v,hget,hcv,hcur⟩:=htk 1 1 pD;have hvv:v= .slice a bv.1.length cap:=by
   rw[aSM pB,hlen1] at hcv;exact(aSG hcv).symm
  have hll:l.length=bv.1.length:=aLD hget;rw[hll,hv',hvv] at hcur;obtain rfl:=aSG hcur;have hbl:b<w.heap.size:=UT hcell1;have hdr: ∀(s:p7) (sd:List Prop),EV g w _ ⟨sd,[(.val .str s,none)],[.cells (.pair .mref (.pair (.list (.int .u8)) .unit)) ((some (0,0)),bv) [],.dead]⟩ g w.drew (.string ⟨s.toArray⟩):=fun s sd=>
   a1w hH rfl rfl rfl (aSW _) (fun _ _ _=>rfl) (fun _ _ h=>h) (fun _ _ _=>rfl)
  obtain⟨hx,⟨hnil,h0⟩ |⟨gb,cap',cur,hsl',hb0,hbk,hnc,hcm,hcs,htake⟩⟩:=hown
  .have hb0:bv.1=[]:=aTB.1 h0;have hz:tP bv.1=[]:=by rw[hb0];rfl
   have hl0:List.length bv.1=0:=h0;injection hnil with e1 e2 e3
   subst e1;subst e3;refine(a1v Tryz.lays169 Tryz.builderExtra b bv.1.length 0 none none .empty w w.drew hcell1 rfl (by rw[hl0];exact Any.unsafeString_none Tryz.lays169 Tryz.builderExtra w.drew none)).mono ?_;rintro e w' ⟨rfl,rfl⟩;exact⟨_,g,rfl,by rw[hz];exact hdr [] _⟩
  injection hsl' with e1 e2 e3
  subst e1;subst e3;have hsz:bv.1.length<=cur.size:=by omega
  by_cases hb0:bv.1=[]
  .have hz:tP bv.1=[]:=by rw[hb0];rfl
   have hl0:List.length bv.1=0:=by rw[hb0];rfl
   by_cases hc0:cap=0
   .subst hc0;rw[hl0] at hcell1;refine(aLy Tryz.lays169 Tryz.builderExtra b gb cur w hbl hcell1 hbk).mono ?_;rintro e w' ⟨rfl,rfl⟩;have hold: ∀c,c<w.heap.size->(w.drew.alloc (.view ⟨gb,0,none⟩ 5)).heap[c]? =w.heap[c]? :=fun c hc=>Lib.alloc_old w.drew _ c hc;refine⟨_,g,rfl,?_⟩;rw[hz];exact a1w hH rfl rfl rfl pD (fun c o hc=>aS0 (a:=⟨c,o,none⟩) (hold c hc)) (fun c s h=>(BJ (hold c (BI h))).trans h) (fun c hc _=>hold c hc)
   refine(a1v Tryz.lays169 Tryz.builderExtra b bv.1.length cap (some ⟨gb,0,none⟩) (some ⟨gb,0,none⟩) .empty w w.drew hcell1 (Lib.run_unsafeSliceData_row _ _ _ _ _ _ hc0) (by rw[hl0];exact Any.unsafeString_none Tryz.lays169 Tryz.builderExtra w.drew _)).mono ?_;rintro e w' ⟨rfl,rfl⟩;exact⟨_,g,rfl,by rw[hz];exact hdr [] _⟩
  have hcap0:cap≠0:=fun h=>hb0 (aTB.1 pB);have hcb: ∀j x,bv.1[j]? =some x->w.cell? ⟨gb,j,none⟩=some (.int .u8 x):=by
   rcases hl with hl|⟨b',o',ha',hl⟩
   .exact absurd hl hb0
   cases ha';intro j x hj;have:=aCG hl j x hj;rwa [aTa] at this
  have hbk':w.drew.heap[gb]? =some (.cells cur 5 (0,0)):=hbk;have hshp:w.drew.shape? gb=some (5,cur.size):=by simp only[World.shape?,hbk']
  refine(a1v Tryz.lays169 Tryz.builderExtra b bv.1.length cap (some ⟨gb,0,none⟩) (some ⟨gb,0,none⟩) ⟨(tP bv.1).toArray⟩ w (w.drew.freeze ⟨gb,0,none⟩ bv.1.length) hcell1 (Lib.run_unsafeSliceData_row _ _ _ _ _ _ hcap0)
   (aLx w.drew _ _ _ 5 (Tryz.lays169).t127 (Tryz.builderExtra).cellsByte gb cur.size hshp bv.1 hb0 hsz (by unfold maxLen at hcm;omega) (fun j x h=>by rw[aTK,aTa];exact hcb j x h))).mono ?_
  rintro e w' ⟨rfl,rfl⟩;refine⟨_,g,rfl,?_⟩;have hblk: ∀c,(∀o,¬rY g 1 (.grow 5 1 (List.length bv.1)) c o)->(w.drew.freeze ⟨gb,0,none⟩ bv.1.length).heap[c]? =w.heap[c]? :=fun c hc=>aLB w.drew _ _ c fun e=>hc 0 ⟨_,hv',by rw[e];rfl⟩;have hr:=aLC w.drew ⟨gb,0,none⟩ bv.1.length;refine a1w hH hr.1 hr.2.1 hr.2.2.1 (aT4 hr.2.2.2.symm) (fun c o _=>aLz w.drew _ _ _) (fun c s h=>(aLA w.drew _ _ c).trans h) (fun c _ hc=>hblk c hc)
 cases hC
end Go.Proofs.YtcpbaddnmpeipaaGreatDoor
namespace Go.Proofs.YtcpbaddnmpeipaaGreatDoor.Vc
open Go.RowKit
@[go_sem] def a1x (np:Nat):DV->Bool
 | .any=>true
 | .nilS=>true
 | .val .ref (some (i,_))=>decide (i<np)
 | .val .ref none=>true
 | .val t _=>t.pure
 |_=>false
@[go_sem] def W6 (np:Nat):pW->Bool
 |(d,none)=>a1x np d
 |(.val (.list t) _,some k)=>t.pure&&decide (k<np)
 |_=>false
@[go_sem] def L1 (np:Nat):List (Nat×pW)->Bool
 |[]=>true
 |(_,s)::r=>W6 np s&&L1 np r
theorem aCI {np:Nat}: ∀{env:List (Nat×pW)},L1 np env=true->∀t,W6 np (lk env t)=true
 |[],_,t=>rfl
 |(k,s)::r,h,t=>by
  simp only[L1,aSV] at h;unfold lk;split
  .exact h.1
  exact aCI h.2 t
theorem aLE {np:Nat}{g g':Gh}{w:pM}(hS:g'.S=g.S) (hJ: ∀i,i<np->g'.J i=g.J i) (hC: ∀i n,i<np->g'.cur i n=g.cur i n) {s:pW}{v:pN}(hp:W6 np s=true) (h:rH g w s v):rH g' w s v:=by
 have hV: ∀{t:Ty}{x:t.den},t.pure=true->sW g w t x v->sW g' w t x v:=fun ht hv=>by
  rcases hv with⟨h1,cs,h2,h3⟩ |⟨h1,h2⟩
  .exact .inl ⟨h1,cs,h2,vT hS ht h3⟩
  exact .inr ⟨h1,vT hS ht h2⟩
 have hD: ∀d,a1x np d=true->yH g w d v->yH g' w d v:=by
  intro d hd hr;unfold a1x at hd;split at hd
  .trivial
  .exact hr
  .rename_i i o;have hi:=aTn hd;rcases hr with⟨h1,_⟩ |⟨h1,h2⟩
   .cases h1
   refine .inr ⟨h1,?_⟩;obtain⟨p,hp1,hp2⟩:=h2;exact⟨p,(hJ i hi).trans hp1,hp2⟩
  .rcases hr with⟨h1,_⟩ |⟨h1,h2⟩
   .cases h1
   exact .inr ⟨h1,h2⟩
  .exact hV hd hr
  cases hd
 obtain⟨d,k⟩:=s;cases k with
 |none=>exact⟨hD d hp h.1,trivial⟩
 |some k=>
  unfold W6 at hp;split at hp
  .rename_i heq;cases heq
  .rename_i t x k' heq;cases heq;simp only[aSV,aSL] at hp;exact⟨hV (t:= .list t) hp.1 h.1,(hC k _ hp.2).trans h.2⟩
  cases hp
theorem aLF {np:Nat}{g g':Gh}{w w':pM}{env:List (Nat×pW)}{tmps:Array pN}(h:AL g w env tmps) (hp:L1 np env=true) (hS: ∀b o,g.S b o->g'.S b o) (hc: ∀b o,g.S b o->w'.cell? ⟨b,o,none⟩=w.cell? ⟨b,o,none⟩)
  (hJ: ∀i p,i<np->g.J i=some p->g'.J i=some p) (hC: ∀i n v,i<np->g.cur i n=some v->g'.cur i n=some v):AL g' w' env tmps:=fun t=>by
 have le:Le g w ⟨g'.S,fun i=>if i<np then g'.J i else g.J i,fun i n=>if i<np then g'.cur i n else g.cur i n⟩ w':=by
  refine⟨hS,hc,fun i p hi=>?_,fun i n v hi=>?_⟩
  .show (if i<np then _ else _)=_;split
   .rename_i hlt;exact hJ i p hlt hi
   exact hi
  show (if i<np then _ else _)=_;split
  .rename_i hlt;exact hC i n v hlt hi
  exact hi
 exact aLE (np:=np) (g:=⟨g'.S,fun i=>if i<np then g'.J i else g.J i,fun i n=>if i<np then g'.cur i n else g.cur i n⟩) (g':=g') rfl (fun i hi=>(aSB hi).symm) (fun i n hi=>by show g'.cur i n=(if i<np then g'.cur i n else g.cur i n);rw[aSB hi]) (aCI hp t) (CV le (h t))
theorem sX.inner {A A':Nat->Nat->Prop}{L L':List pV}{g0 g g':Gh}{w0 w w':pM}{H H':rX}(h:sX A L g0 w0 g w H) (k:sX A' L' g w g' w' H') (hA: ∀b o,A' b o->w.heap.size<=b\/y8 g H b o) (hl:L.length<=L'.length)
  (hL: ∀i,i<L.length->∀b,L'[i]? =some b->pY H i=some b):sX A L g0 w0 g' w' H':=by
 have own: ∀b o,A' b o->w0.heap.size<=b\/A b o:=fun b o x=>by
  rcases hA b o x with h1|⟨i,blk,h1,h2⟩
  .exact .inl (aTA h.fr.size h1)
  exact h.perm i blk b o h1 h2
 refine⟨fun b o x=>?_,h.fr.trans k.fr own,fun i blk b o h1 h2=>?_,fun i p hi hp=>k.J i p pB (h.J i p hi hp),fun i hi=>k.live i pB,fun i u y us hi hg=>?_,fun i n v hi hv=>k.cur i n v pB (h.cur i n v hi hv)⟩
 .obtain⟨h1,h2⟩:=h.shut b o x;obtain⟨k1,k2⟩:=k.shut b o h1;exact⟨k1,k2.trans h2⟩
 .rcases k.perm i blk b o h1 h2 with h3|h3
  .exact .inl (aTA h.fr.size h3)
  exact own b o h3
 obtain⟨x,ts,hx⟩:=k.ty i u y us pB hg;exact h.ty i u x ts hi (hL i hi _ hx)
theorem sX.start {g:Gh}{w:pM}{H:rX}{L':List pV}(hH:s5 g w H) (hL: ∀i b,L'[i]? =some b->pY H i=some b/\b≠.dead) (hty: ∀i,i<L'.length->∀b,pY H i=some b->L'[i]? =some b):sX (y8 g H) L' g w g w H:=by
 refine⟨fun b o h=>⟨h,rfl⟩,Fr.refl _ _ _,fun i blk b o hg ho=> .inr ⟨i,blk,hg,ho⟩,fun _ _ _ h=>h,fun i hi=>?_,fun i u y us hi hg=>⟨y,us,hty i hi _ hg⟩,fun _ _ _ _ h=>h⟩;obtain⟨h1,h2⟩:=hL i L'[i] pD;have hbk:=hH.blk i _ h1;generalize L'[i]=blk at hbk h2;cases blk with
 |cells t x ts=>obtain⟨p,cs,hp,_⟩:=hbk;exact .inl ⟨p,hp⟩
 |grow e c n=>obtain⟨v,xs,hv,_⟩:=hbk;exact .inr ⟨n,v,hv⟩
 |row e t l n=>obtain⟨_,v,xs,hv,_⟩:=hbk;exact .inr ⟨n,v,hv⟩
 |map k v l=>obtain⟨p,es,cl,hp,_⟩:=hbk;exact .inl ⟨p,hp⟩
 |iter s n=>obtain⟨p,hp,_⟩:=hbk;exact .inl ⟨p,hp⟩
 |dead=>exact absurd rfl h2
@[go_sem] def NJ (env:List (Nat×pW)):pL->List pW->List (Nat×pW)
 |p::ps,s::ss=>NJ (uJ (some p) s env) ps ss
 |_,_=>env
theorem aCJ {g:Gh}{w:pM}: ∀{ps:pL}{ss:List pW}{vs:pI}{env:List (Nat×pW)}{tmps:Array pN},AL g w env tmps->(∀p∈ps,p<tmps.size)->vD g w ss vs->ps.length=ss.length->
  AL g w (NJ env ps ss) ((ps.zip vs).foldl (fun t (q:Nat×pN)=>t.setIfInBounds q.1 q.2) tmps)/\((ps.zip vs).foldl (fun t (q:Nat×pN)=>t.setIfInBounds q.1 q.2) tmps).size=tmps.size
 |[],[],vs,env,tmps,h,_,ha,_=>by
  have:vs=[]:=ha;subst this;exact⟨h,rfl⟩
 |p::ps,s::ss,vs,env,tmps,h,hp,ha,hl=>by
  obtain⟨v,vs',rfl,h1,h2⟩:=ha;have hput:AL g w (uJ (some p) s env) (tmps.setIfInBounds p v):=a03 (a:={tmps:=tmps,defers:=[]}) (o:=⟨some p,.move (.tmp 0),0, "",#[],none⟩) (N:=tmps.size) h (Le.refl g w) h1 rfl (by simpa[HT] using hp p pD)
  have:=aCJ (tmps:=tmps.setIfInBounds p v) hput (fun q hq=>by simpa using hp q (aSQ _ hq)) h2 (by simpa using hl);exact⟨this.1,by rw[List.zip_cons_cons,List.foldl_cons];rw[this.2];simp⟩
def aCK (P:Program) (gf:Nat) (u:Ty) {ι:Type}(pre:u.den->Prop) (items:u.den->List ι) (vl:ι->pI):Prop:=
 (∀args w,(callFunc gf args).run P w= .ok (.enter gf args) w)/\
 ∀(l b o:Nat) (x:u.den) (cs:pI) (g:Gh) (W0:pM) (J:Nat->pM->Prop) (Jx:pM->Prop),pre x->Rd g W0 u x cs->
  (∀i W,J i W->W.rangeAt b o cs/\∀b o,g.S b o->W.cell? ⟨b,o,none⟩=W0.cell? ⟨b,o,none⟩)->
  (∀i W W',J i W->Below W.heap.size W W'->J i W')->(∀W W',Jx W->Below W.heap.size W W'->Jx W')->(∀i W,J i W->EH W)->
  (∀i it V W,(items x)[i]? =some it->J i V->Below V.heap.size V W->YieldAt Fence.wide 0 P l (vl it).toArray W fun e W'=>((e= .returned (.bool true)/\J (i+1) W')\/(e= .returned (.bool false)/\Jx W'))/\
   ∀D,V.heap.size<=D->D<W.heap.size->W'.heap[D]? =W.heap[D]?)->
  ∀W,J 0 W->Calls P gf #[.func (.yield l) #[] #[],.pointer (some ⟨b,o,none⟩)] W fun e W'=>(∃v,e= .returned v)/\(J (items x).length W'\/Jx W')
def W7 (once:Bool) (P:Program) (gf:Nat) (u:Ty) {ι:Type}(pre:u.den->Prop) (items:u.den->List ι) (vl:ι->pI):Prop:=
 (∀args w,(callFunc gf args).run P w= .ok (.enter gf args) w)/\
 ∀(l b o:Nat) (x:u.den) (cs:pI) (g:Gh) (W0:pM) (J:Nat->pM->Prop) (Jx:pM->Prop),pre x->Rd g W0 u x cs->
  (∀i W,J i W->(once=false->W.rangeAt b o cs)/\∀b o,g.S b o->W.cell? ⟨b,o,none⟩=W0.cell? ⟨b,o,none⟩)->
  (∀i W W',J i W->Below W.heap.size W W'->J i W')->(∀W W',Jx W->Below W.heap.size W W'->Jx W')->(∀i W,J i W->EH W)->
  (∀i it V W,(items x)[i]? =some it->J i V->Below V.heap.size V W->YieldAt Fence.wide 0 P l (vl it).toArray W fun e W'=>((e= .returned (.bool true)/\J (i+1) W')\/(e= .returned (.bool false)/\Jx W'))/\
   ∀D,V.heap.size<=D->D<W.heap.size->W'.heap[D]? =W.heap[D]?)->
  ∀W,J 0 W->W.rangeAt b o cs->Calls P gf #[.func (.yield l) #[] #[],.pointer (some ⟨b,o,none⟩)] W fun e W'=>(∃v,e= .returned v)/\(J (items x).length W'\/Jx W')
theorem aCK.zero {P:Program}{gf:Nat}{u:Ty}{ι:Type}{pre:u.den->Prop}{items:u.den->List ι}{vl:ι->pI}(h:aCK P gf u pre items vl):W7 false P gf u pre items vl:=
 ⟨h.1,fun l b o x cs g W0 J Jx h1 h2 h3 h4 h5 h6 h7 W h8 _=>h.2 l b o x cs g W0 J Jx h1 h2 (fun i W hJ=>⟨(h3 i W hJ).1 rfl,(h3 i W hJ).2⟩) h4 h5 h6 h7 W h8⟩
def F0 {ι σ ρ:Type}(f:ι->σ->Option (σ⊕ρ)):List ι->σ->Option (σ⊕ρ)
 |[],x=>some (.inl x)
 |it::r,x=>(f it x).bind fun w=>match w with
  | .inl x'=>F0 f r x'
  | .inr y=>some (.inr y)
theorem aLG {ι σ ρ:Type}{f:ι->σ->Option (σ⊕ρ)}{it:ι}{r:List ι}{x:σ}{y:σ⊕ρ}(h:F0 f (it::r) x=some y): ∃w,f it x=some w/\(∀x',w= .inl x'->F0 f r x'=some y)/\(∀z,w= .inr z->y= .inr z):=by
 unfold F0 at h;cases hf:f it x with
 |none=>rw[hf] at h;cases h
 |some w=>
  rw[hf] at h;refine⟨w,rfl,fun x' e=>?_,fun z e=>?_⟩
  .subst e;exact h
  subst e;exact(aSG h).symm
def qA (st:St):Ex->St->Prop
 | .normal,s=> ∃k:vY,s.keep k=st
 |_,_=>False
def qF {σ ρ:Type}(encH:σ->List pV) (E0:List (Nat×pW)) (N np np':Nat) (w:σ⊕ρ) (Q:Ex->St->Prop):Ex->St->Prop
 | .normal,s=> ∃(k:vY) (x:σ),w= .inl x/\s.keep k=⟨[],qP 0 (encH x),qU (encH x),N,np'⟩
 |e,s=> ∃(k:vY) (B:List pV),s.keep k=⟨[],qP 0 B,qU B,N,np'⟩/\(∃z,w= .inr z)/\Q e ⟨E0,qP 0 B,qU B,N,np⟩
section
variable {B:Nat}{A:Nat->Nat->Prop}{L:List pV}{g0 g:Gh}{w0 w:pM}{b0 o0 n0:Nat}{cs:pI}{E0:List (Nat×pW)}{tmps:Array pN}{ds:List Deferred}
structure DK (B:Nat) (A:Nat->Nat->Prop) (L:List pV) (g0:Gh) (w0:pM) (g:Gh) (w:pM) (b0 o0 n0:Nat) (cs:pI) (E0:List (Nat×pW)) (tmps:Array pN) (ds:List Deferred) (g1:Gh) (W:pM) (H:rX):Prop where
 env:AL g1 W E0 tmps
 heap:s5 g1 W H
 good:sX A L g0 w0 g1 W H
 sld: ∀b o,g.S b o->g1.S b o/\W.cell? ⟨b,o,none⟩=w.cell? ⟨b,o,none⟩
 rng:W.rangeAt b0 o0 cs
 len:cs.length=n0
 lt:0<n0->b0<W.heap.size
 out: ∀o,o0<=o->o<o0+n0->¬y8 g1 H b0 o
 defs:zN B W ds
theorem DK.turn {g1:Gh}{W W2:pM}{H:rX}(h:DK B A L g0 w0 g w b0 o0 n0 cs E0 tmps ds g1 W H) (t:uN w0.heap.size W W2) {ds':List Deferred}(hd:zN B W2 ds'):DK B A L g0 w0 g w b0 o0 n0 cs E0 tmps ds' g1 W2 H:=by
 refine⟨fun x=>CV (t.le h.heap.sl) (h.env x),t.heapOk h.heap,h.good.turn h.heap.sl t,fun b o x=>⟨(h.sld b o x).1,(t.cell (h.heap.sl b o (h.sld b o x).1) o).1.trans (h.sld b o x).2⟩,fun j v hv=>?_,h.len,fun x=>aTd (h.lt x) t.size,h.out,hd⟩;have hj:j<cs.length:=(aSR.1 hv).1;have:=h.len;exact(t.cell (h.lt pB) _).1.trans (h.rng j v hv)
theorem DK.inner {g1 g2:Gh}{W W2:pM}{H H2:rX}{L':List pV}{np':Nat}(h:DK B A L g0 w0 g w b0 o0 n0 cs E0 tmps ds g1 W H) (k:sX (y8 g1 H) L' g1 W g2 W2 H2) (hH:s5 g2 W2 H2) (hpin:L1 np' E0=true) (hnp:np'=L'.length) (hl:L.length<=L'.length)
  (hL: ∀i,i<L.length->∀b,L'[i]? =some b->pY H i=some b):DK B A L g0 w0 g w b0 o0 n0 cs E0 tmps ds g2 W2 H2:=by
 subst hnp;refine⟨aLF h.env hpin (fun b o x=>(k.shut b o x).1) (fun b o x=>(k.shut b o x).2) (fun i p hi x=>k.J i p hi x) (fun i n v hi x=>k.cur i n v hi x),hH,h.good.inner k (fun b o x=> .inr x) hl hL,fun b o x=>?_,fun j v hv=>?_,h.len,fun x=>aTd (h.lt x) k.fr.size,fun o h1 h2 ⟨i,blk,h3,h4⟩=>?_,h.defs.same fun D hD=>?_⟩
 .obtain⟨h1,h2⟩:=h.sld b o x;exact⟨(k.shut b o h1).1,(k.shut b o h1).2.trans h2⟩
 .have hj:j<cs.length:=(aSR.1 hv).1;have:=h.len;exact(k.fr.cell _ _ (h.lt pB) (h.out _ pB pB)).1.trans (h.rng j v hv)
 .rcases k.perm i blk _ _ h3 h4 with h5|h5
  .have:=h.lt pB;omega
  exact h.out o h1 h2 h5
 rw[k.fr.blk D (aS6.1 hD).1 (fun o ⟨i,blk,h1,h2⟩=>VJ (h.heap.blk i blk h1) h2 hD rfl)];exact hD
theorem aCL {g1 g2:Gh}{W W2:pM}{H H2:rX}{L':List pV}(hH:s5 g1 W H) (k:sX (y8 g1 H) L' g1 W g2 W2 H2) {D:Nat}{ob:Obj}(hD:W.heap[D]? =some ob) (hm:G6 ob=true):W2.heap[D]? =some ob:=by
 rw[k.fr.blk D (aS6.1 hD).1 (fun o ⟨i,blk,h1,h2⟩=>VJ (hH.blk i blk h1) h2 hD hm)];exact hD
end
theorem uN.put {B:Nat}{W:pM}{l:Nat}{o o':Obj}(h:W.heap[l]? =some o) (hB:B<=l) (hN:NG<=l) (hm:G6 o=true) (hm':G6 o'=true):uN B W (W.putObj l o'):=by
 have hlt:=(aS6.1 h).1;refine⟨rfl,rfl,rfl,by simp [World.putObj],fun b hb=>?_⟩;by_cases e:b=l
 .subst e;exact .inr ⟨hB,hN,_,_,h,World.putObj_heap_same hlt,hm,hm'⟩
 exact .inl (World.putObj_heap_other e)
theorem uN.new (B:Nat) (W:pM) (o:Obj):uN B W (W.alloc o):=by
 refine⟨rfl,rfl,rfl,by simp,fun b hb=> .inl ?_⟩;exact aTc W o b hb
theorem aCM {e:Ex}{x:Exit}(h:EX x=some e):(x= .normal/\e= .normal)\/(x= .ret/\e= .ret)\/∃id,x= .exit id/\e= .exit id:=by
 cases x<;>simp only[EX,aSC] at h
 .exact .inl ⟨rfl,h.symm⟩
 .exact .inr (.inr ⟨_,rfl,h.symm⟩)
 .cases h
 .exact .inr (.inl ⟨rfl,h.symm⟩)
 .cases h
 cases h
def aLH:Ex->Option Code
 | .normal=>none
 | .ret=>some .ret
 | .exit id=>some (.exit id)
theorem aLI {once:Bool}{P:Program}{gf:Nat}{u:Ty}{ι:Type}{pre:u.den->Prop}{items:u.den->List ι}{vl:ι->pI}(hit:W7 once P gf u pre items vl) {sl:ι->List pW}(hsl: ∀it g w,vD g w (sl it) (vl it))
  {fo:Operand}{ps:Array Tmp}{assign body:Code}{s:St}{Q:Ex->St->Prop}{c:Nat}{k0:pK}(hf:tT s.env fo=(.val .clo (some (gf,[(c,0)])),k0)) {xc:u.den}{toks:pG}(hc:pY s.H c=some (.cells u xc toks)) (hpre:pre xc)
  {σ ρ:Type}{f:ι->σ->Option (σ⊕ρ)}{x0:σ}{y:σ⊕ρ}(hy:F0 f (items xc) x0=some y)
  (E0:List (Nat×pW)) (E1:ι->List (Nat×pW)) (encH:σ->List pV) (encA:ι->σ->List pV) (np':Nat) (k:vY) (hk:wT s.np k.ids=true) (h0:s.keep k=⟨E0,qP 0 (encH x0),qU (encH x0),s.N,s.np⟩)
  (hcase:k.ids.all (fun q=>decide (q.2≠c))=true\/c<s.np/\(∀g w cs g2 w2 cs2,Rd g w u xc cs->Rd g2 w2 u xc cs2->cs=cs2)/\(∃toksK,∀x,pY (qP 0 (encH x)) c=some (.cells u xc toksK))\/c<s.np/\once=true) (hpin:L1 np' E0=true) (hnp:s.np<=np') (hlen: ∀x,np'<=qU (encH x)) (hdead: ∀x,((encH x).take np').all (fun b=>match b with| .dead=>false|_=>true)=true)
  (hA: ∀it x,(encA it x).take np'=(encH x).take np') (hlenA: ∀it x,np'<=qU (encA it x))
  (hps: ∀it,ps.toList.length=(sl it).length) (hpN:(ps.toList.all fun p=>decide (p<s.N))=true)
  (hround: ∀it x w,f it x=some w->(∀z,w= .inr z->y= .inr z)->Ev true P assign ⟨NJ E0 ps.toList (sl it),qP 0 (encH x),qU (encH x),s.N,np'⟩ (qA ⟨E1 it,qP 0 (encA it x),qU (encA it x),s.N,np'⟩)/\
   Ev true P body ⟨E1 it,qP 0 (encA it x),qU (encA it x),s.N,np'⟩ (qF encH E0 s.N s.np np' w Q))
  (hdone: ∀x,y= .inl x->Q .normal ⟨E0,qP 0 (encH x),qU (encH x),s.N,s.np⟩):Ev false P (.rangeFunc fo ps assign body) s Q:=by
 intro ro hro A L g0 w0 g a w B hB hr hg hn;have hN:ro=none:=by cases ro<;>first|rfl|cases hro
 subst hN;have hfv:=A2 hr.env fo;rw[hf] at hfv;obtain⟨p,hpJ,hev⟩: ∃p,g.J c=some p/\a.eval fo= .func (.func gf) #[] #[.pointer (some ⟨p.1,p.2,none⟩)]:=by
  rcases hfv.1 with⟨h1,_⟩ |⟨_,vs,⟨p,vs',h4,h5,h6⟩,h3⟩
  .cases h1
  rw[show vs'=[] from h6] at h5;subst h5;simp only[aTk,and_true] at h3;exact⟨p,h4,h3⟩
 obtain⟨p',cs,hp',hRc,hra,hth,hns,htk⟩:=hr.heap.blk c _ hc;rw[hpJ] at hp';obtain rfl:=aSG hp';obtain⟨hr1,hg1,hn1,_⟩:=a02 hr hg hn k hk;have hpJ1:c<s.np->(tZ g s.np k.ids).J c=some p:=fun hcN=>by
  show (if c<s.np then g.J c else _)=_;rw[aSB hcN];exact hpJ
 obtain⟨b0,o0,n0,cI,inv0,hrng⟩: ∃b0 o0 n0 cI,DK B A L g0 w0 g w b0 o0 n0 cI E0 a.tmps a.defers (tZ g s.np k.ids) w (qP 0 (encH x0))/\∀{g1:Gh}{W:pM}{x:σ}{dd:List Deferred},DK B A L g0 w0 g w b0 o0 n0 cI E0 a.tmps dd g1 W (qP 0 (encH x))->(c<s.np->g1.J c=some p)->once=false->W.rangeAt p.1 p.2 cs:=by
  rcases hcase with hcd|⟨hcN,hu,toksK,hcK⟩ |⟨hcN,hon⟩
  .have hout: ∀o,p.2<=o->o<p.2+u.cells->¬y8 (tZ g s.np k.ids) (s.keep k).H p.1 o:=by
    rintro o h1 h2 ⟨i,blk,h3,h4⟩;have h3':pY (PW s k (wT s.np k.ids)).H i=some blk:=h3;rw[hk] at h3';obtain⟨o',h5,rfl⟩:=I5 h3';obtain⟨c1,h6,h7⟩:=(KU hk h5 fun c1 hc1=>hr.heap.blk o' c1 hc1).2 _ _ h4;exact hr.heap.dis o' c c1 _ p.1 o (aTn (aUi.1 hcd _ h5)) h6 hc h7 ⟨p,hpJ,rfl,h1,h2⟩
   rw[h0] at hr1 hg1 hout;exact⟨p.1,p.2,u.cells,cs,⟨hr1.env,hr1.heap,hg1,fun b o h=>⟨h,rfl⟩,hra,sJ hRc,fun hpos=>by
    obtain⟨v,hv⟩:=aSF.1 (hth.1 0 hpos).1;exact UT hv,hout,hr.def_⟩,fun h _ _=>h.rng⟩
  .rw[h0] at hr1 hg1;refine⟨0,0,0,[],⟨hr1.env,hr1.heap,hg1,fun b o h=>⟨h,rfl⟩,fun j v h=>by simp at h,rfl,fun h=>absurd h pB,fun o h1 h2=>by omega,hr1.def_⟩,fun h h2 _=>?_⟩;obtain⟨p2,cs2,h3,h4,h5,_⟩:=h.heap.blk c _ (hcK _);rw[h2 hcN] at h3;obtain rfl:=aSG h3;rw[hu _ _ _ _ _ _ hRc h4];exact h5
  rw[h0] at hr1 hg1;exact⟨0,0,0,[],⟨hr1.env,hr1.heap,hg1,fun b o h=>⟨h,rfl⟩,fun j v h=>by simp at h,rfl,fun h=>absurd h pB,fun o h1 h2=>by omega,hr1.def_⟩,fun _ _ h=>by rw[hon] at h;cases h⟩
 rw[h0] at hr1 hg1;have hNG:NG<=w.heap.size:=hr.heap.tab.1.1;have hBw:w0.heap.size<=w.heap.size:=hg.fr.size;refine wpIn_rangeFunc fun fn _=>?_;obtain⟨rec,hrec⟩: ∃rec:LoopState->Option Code->Loop,rec=fun st pe=>{state:=st,pending:=pe,fn,tmps:=a.tmps,params:=ps,assign,body,defers:=w.heap.size}:=⟨_,rfl⟩;obtain⟨W1,hW1⟩: ∃W1,(w.alloc (.deferred (some []))).alloc (.loop (rec .ready none))=W1:=⟨_,rfl⟩;have hL1:W1.heap[w.heap.size+1]? =some (.loop (rec .ready none)):=by
  rw[<-hW1];have:=World.alloc_heap_new (w.alloc (.deferred (some []))) (.loop (rec .ready none));rwa [World.size_alloc] at this
 have hK1:W1.heap[w.heap.size]? =some (.deferred (some [])):=by
  rw[<-hW1];exact(aTc _ _ _ pD).trans (World.alloc_heap_new w _)
 have t1:uN w0.heap.size w W1:=by rw[<-hW1];exact(uN.new _ _ _).trans (uN.new _ _ _)
 obtain⟨ds,hds⟩: ∃ds:List Deferred,{target:= .collected w.heap.size,args:= #[]}::a.defers=ds:=⟨_,rfl⟩;have hd1:zN B W1 ds:=by
  rw[<-hds];refine⟨List.nodup_cons.2 ⟨fun hm=>?_,hr.def_.1⟩,fun d hd=>?_⟩
  .obtain⟨D,h1,_,_,h4⟩:=hr.def_.2 _ hm;have h5:w.heap.size=D:=by injection h1 with h1;injection h1
   have:=(aS6.1 h4).1;omega
  rcases aSP.1 hd with rfl|hd
  .exact⟨_,rfl,pB,hNG,hK1⟩
  obtain⟨D,h1,h2,h3,h4⟩:=hr.def_.2 _ hd;have hlt:=(aS6.1 h4).1;refine⟨D,h1,h2,h3,?_⟩;rw[<-hW1];exact(aTc _ _ D pE).trans ((aTc _ _ D hlt).trans h4)
 let l:=w.heap.size+1
 let J:Nat->pM->Prop:=fun i W=> ∃g1 x,F0 f ((items xc).drop i) x=some y/\DK B A L g0 w0 g w b0 o0 n0 cI E0 a.tmps ds g1 W (qP 0 (encH x))/\
  (∀j,qU (encH x)<=j->g1.J j=none/\∀n,g1.cur j n=none)/\W.heap[l]? =some (.loop (rec .ready none))/\(c<s.np->g1.J c=some p)
 let Jx:pM->Prop:=fun W=> ∃g1 Bl e cd z,aLH e=some cd/\y= .inr z/\Q e ⟨E0,qP 0 Bl,qU Bl,s.N,s.np⟩/\DK B A L g0 w0 g w b0 o0 n0 cI E0 a.tmps ds g1 W (qP 0 Bl)/\
  (∀j,qU Bl<=j->g1.J j=none/\∀n,g1.cur j n=none)/\s.np<=qU Bl/\W.heap[l]? =some (.loop (rec .done (some cd)))
 have tbel: ∀{W W':pM},Below W.heap.size W W'->uN w0.heap.size W W':=fun hb=>⟨hb.os,hb.tape,hb.output,hb.size,fun b h=> .inl (hb.block b h)⟩;have hob: ∀{W W':pM}{D:Nat}{ob:Obj},Below W.heap.size W W'->W.heap[D]? =some ob->W'.heap[D]? =some ob:=fun hb h=>(hb.block _ (aS6.1 h).1).trans h;have hJd: ∀i W W',J i W->Below W.heap.size W W'->J i W':=fun i W W' ⟨g1,x,h1,h2,h3,h4,h5⟩ hb=>⟨g1,x,h1,h2.turn (tbel hb) (h2.defs.same fun _ h=>hob hb h),h3,hob hb h4,h5⟩;have hJxd: ∀W W',Jx W->Below W.heap.size W W'->Jx W':=fun W W' ⟨g1,Bl,e,cd,z,h1,h2,h3,h4,h5,h6,h7⟩ hb=>⟨g1,Bl,e,cd,z,h1,h2,h3,h4.turn (tbel hb) (h4.defs.same fun _ h=>hob hb h),h5,h6,hob hb h7⟩;have hround2: ∀i it V W,(items xc)[i]? =some it->J i V->Below V.heap.size V W->YieldAt Fence.wide 0 P l (vl it).toArray W fun e W'=>((e= .returned (.bool true)/\J (i+1) W')\/(e= .returned (.bool false)/\Jx W'))/\
   ∀D,V.heap.size<=D->D<W.heap.size->W'.heap[D]? =W.heap[D]? :=by
  rintro i it V W hi ⟨g1,x,hfold,invV,nb,hlV,hgc⟩ hbel;have inv:=invV.turn (tbel hbel) (invV.defs.same fun _ h=>hob hbel h);have hl:=hob hbel hlV;have hVl:l<V.heap.size:=(aS6.1 hlV).1;have hnoV: ∀D,V.heap.size<=D->∀o,¬y8 g1 (qP 0 (encH x)) D o:=fun D hD o ⟨i,blk,h1,h2⟩=>by
   have:=KJ (invV.heap.blk i blk h1) h2;omega
  have hil:i<(items xc).length:=(aSR.1 hi).1;have hdrop:(items xc).drop i=it::(items xc).drop (i+1):=by
   rw[aS3 hil];congr 1;exact(aSR.1 hi).2
  rw[hdrop] at hfold;obtain⟨wv,hw,hinl,hinr⟩:=aLG hfold;obtain⟨evA,evB⟩:=hround it x wv hw hinr;have hvl:(vl it).toArray.size=ps.size:=by
   rw[aTG,(VT (hsl it g1 W)).1,<-hps it,aTx]
  have hyl:=run_yield (P:=P) (args:=(vl it).toArray) hl (by rw[hrec];exact hvl);rw[hrec] at hyl;refine⟨fn,_,assign,body,hyl,roundIn_of_wpIn trivial ?_⟩;have hz:(ps.zip (vl it).toArray).foldl (fun tmps (t,v)=>tmps.setIfInBounds t v) a.tmps=(ps.toList.zip (vl it)).foldl (fun t (q:Nat×pN)=>t.setIfInBounds q.1 q.2) a.tmps:=by
   rw[<-aUw,Array.toList_zip]
  rw[hz];obtain⟨henv,hsz⟩:=aCJ inv.env (fun q hq=>by rw[hr.size];exact aTn (aUi.1 hpN q hq)) (hsl it g1 W) (hps it);have hL'len:((encH x).take np').length=np':=by
   rw[aTe];have:=hlen x;rw[VU] at this;omega
  have hLget: ∀i b,((encH x).take np')[i]? =some b->pY (qP 0 (encH x)) i=some b:=fun i b h=>by
   rw[x6];exact(aTy (by have:=(aSR.1 h).1;omega)).symm.trans h
  have hLget2: ∀i b,((encH x).take np')[i]? =some b->pY (qP 0 (encH x)) i=some b/\b≠.dead:=fun i b h=>⟨hLget i b h,fun e=>by
   have:=aUi.1 (hdead x) b (List.mem_of_getElem? h);subst e;cases this⟩
  have hLty: ∀i,i<((encH x).take np').length->∀b,pY (qP 0 (encH x)) i=some b->((encH x).take np')[i]? =some b:=fun i hi b h=>by
   rw[x6] at h;exact(aTy pB).trans h
  have gs:=sX.start inv.heap hLget2 hLty;have rA:uM W.heap.size g1 W ⟨NJ E0 ps.toList (sl it),qP 0 (encH x),qU (encH x),s.N,np'⟩ {tmps:=(ps.toList.zip (vl it)).foldl (fun t (q:Nat×pN)=>t.setIfInBounds q.1 q.2) a.tmps,defers:=[]}:=⟨henv,inv.heap,hsz.trans hr.size,nb,aBv _ _,hlen x⟩;have hlow:L.length<=((encH x).take np').length:=by rw[hL'len,<-hn];exact hnp
  refine aUh (evA (some l) rfl _ _ g1 W g1 _ W _ (aSW _) rA gs hL'len.symm) fun e a1 wa hp=>?_;obtain⟨e',g2,s2,e1,e2,e3,e4,e5⟩:=hp;rcases aCM e1 with⟨rfl,rfl⟩ |⟨rfl,rfl⟩ |⟨id,rfl,rfl⟩
  .obtain⟨kA,hkA⟩:=e2;obtain⟨g3,k1,k2,k3,_⟩:=G7 e3 e4 e5 kA;rw[hkA] at k1 k2;have inva:=inv.inner k2 k1.heap hpin hL'len.symm hlow (fun i hi b h=>hLget i b h);have hla:=aCL inv.heap k2 hl rfl;refine⟨_,run_beginRound hla (by rw[hrec]),?_⟩;obtain⟨Wb,hWb⟩: ∃Wb,wa.putObj l (.loop {rec .ready none with state:= .busy})=Wb:=⟨_,rfl⟩
   have tb:uN w0.heap.size wa Wb:=by rw[<-hWb];exact uN.put hla (by show w0.heap.size<=w.heap.size+1;omega) (by show NG<=w.heap.size+1;omega) rfl rfl
   have hlt:=(aS6.1 hla).1;have other: ∀{W:pM}{o o':Obj}{D:Nat},W.heap[l]? =some (.loop (rec .ready none))\/W.heap[l]? =some (.loop {rec .ready none with state:= .busy})->W.heap[D]? =some (.deferred (some []))->(W.putObj l o').heap[D]? =some (.deferred (some [])):=by
    intro W o o' D h1 h2;rw[World.putObj_heap_other (fun e=>by subst e;rcases h1 with h1|h1<;>(rw[h1] at h2;cases h2))]
    exact h2
   have invb:=inva.turn tb (inva.defs.same fun D hD=>by rw[<-hWb];exact other (o:= .loop (rec .ready none)) (.inl hla) hD);have hlb:Wb.heap[l]? =some (.loop {rec .ready none with state:= .busy}):=by rw[<-hWb];exact World.putObj_heap_same hlt
   have hkA: ∀D,V.heap.size<=D->D<W.heap.size->Wb.heap[D]? =W.heap[D]? :=fun D h1 h2=>by
    rw[<-hWb,World.putObj_heap_other pB];exact k2.fr.blk D h2 (hnoV D h1)
   rw[hWb];have hAg: ∀i,i<np'->pY (qP 0 (encA it x)) i=pY (qP 0 (encH x)) i:=fun i hi=>by
    rw[x6,x6,<-aTy hi,hA it x,aTy hi]
   have hltL: ∀i b,((encH x).take np')[i]? =some b->i<np':=fun i b h=>by
    have:=(aSR.1 h).1;omega
   have gsb:=sX.start invb.heap (fun i b h=>by rw[hAg i (hltL i b h)];exact hLget2 i b h) (fun i hi b h=>hLty i hi b (by rw[<-hAg i pB];exact h));have rB:uM W.heap.size g3 Wb ⟨E1 it,qP 0 (encA it x),qU (encA it x),s.N,np'⟩ a1:=⟨fun t=>CV (tb.le k1.heap.sl) (k1.env t),invb.heap,k1.size,k1.nb,k1.def_.same fun D hD=>by rw[<-hWb];exact other (o:= .loop (rec .ready none)) (.inl hla) hD,hlenA it x⟩;have hWW:W.heap.size<=Wb.heap.size:=aTA k2.fr.size tb.size;refine aUh (evB (some l) rfl _ _ g3 Wb g3 a1 Wb _ hWW rB gsb hL'len.symm) fun e a2 wc hp=>?_;obtain⟨e',g4,s4,e1,e2,e3,e4,e5⟩:=hp;have fin: ∀(kB:vY) (Bl:List pV),s4.keep kB=⟨[],qP 0 Bl,qU Bl,s.N,np'⟩->∀jump:Option Code,∃g5,DK B A L g0 w0 g w b0 o0 n0 cI E0 a.tmps ds g5 (wc.putObj l (.loop (rec (if jump.isNone then .ready else .done) jump))) (qP 0 Bl)/\
     (∀j,qU Bl<=j->g5.J j=none/\∀n,g5.cur j n=none)/\np'<=qU Bl/\(wc.putObj l (.loop (rec (if jump.isNone then .ready else .done) jump))).heap[l]? =some (.loop (rec (if jump.isNone then .ready else .done) jump))/\
     (Instr.endRound l jump).run P wc= .ok (.bool jump.isNone) (wc.putObj l (.loop (rec (if jump.isNone then .ready else .done) jump)))/\(c<s.np->g5.J c=some p)/\
     ∀D,V.heap.size<=D->D<W.heap.size->(wc.putObj l (.loop (rec (if jump.isNone then .ready else .done) jump))).heap[D]? =W.heap[D]? :=by
    intro kB Bl hkB jump;obtain⟨g5,j1,j2,j3,_⟩:=G7 e3 e4 e5 kB;rw[hkB] at j1 j2;have invc:=invb.inner j2 j1.heap hpin hL'len.symm hlow (fun i hi b h=>by rw[hAg i pB];exact hLget i b h);have hlc:=aCL invb.heap j2 hlb rfl;have hltc:=(aS6.1 hlc).1;have tc:uN w0.heap.size wc (wc.putObj l (.loop (rec (if jump.isNone then .ready else .done) jump))):=uN.put hlc (by show w0.heap.size<=w.heap.size+1;omega) (by show NG<=w.heap.size+1;omega) rfl rfl;refine⟨g5,invc.turn tc (invc.defs.same fun D hD=>other (o:= .loop (rec .ready none)) (.inr hlc) hD),j1.nb,j1.np,World.putObj_heap_same hltc,?_,fun hcN=>j2.J c p pB (k2.J c p pB (hgc hcN)),fun D h1 h2=>?_⟩
    .have:=run_endRound (P:=P) jump hlc;rw[this,hrec]
    rw[World.putObj_heap_other pB,j2.fr.blk D pB (fun o ⟨i,blk,h3,h4⟩=>by
     rcases k2.perm i blk D o h3 h4 with h5|h5
     .omega
     exact hnoV D h1 o h5),hkA D h1 h2]
   rcases aCM e1 with⟨rfl,rfl⟩ |⟨rfl,rfl⟩ |⟨id,rfl,rfl⟩
   .obtain⟨kB,x',rfl,hkB⟩:=e2;obtain⟨g5,q1,q2,q3,q4,q5,q6,q7⟩:=fin kB _ hkB none;exact⟨_,_,q5,.inl ⟨rfl,g5,x',hinl x' rfl,q1,q2,q4,q6⟩,q7⟩
   .obtain⟨kB,Bl,hkB,⟨z,rfl⟩,hq⟩:=e2;obtain⟨g5,q1,q2,q3,q4,q5,q6,q7⟩:=fin kB _ hkB (some .ret);exact⟨_,_,q5,.inr ⟨rfl,g5,Bl,.ret,.ret,z,rfl,hinr z rfl,hq,q1,q2,aTA hnp q3,q4⟩,q7⟩
   obtain⟨kB,Bl,hkB,⟨z,rfl⟩,hq⟩:=e2;obtain⟨g5,q1,q2,q3,q4,q5,q6,q7⟩:=fin kB _ hkB (some (.exit id));exact⟨_,_,q5,.inr ⟨rfl,g5,Bl,.exit id,.exit id,z,rfl,hinr z rfl,hq,q1,q2,aTA hnp q3,q4⟩,q7⟩
  .exact e2.elim
  exact e2.elim
 refine⟨l,[{target:= .collected w.heap.size,args:= #[]}],W1,{target:= .fn (.func gf) #[.pointer (some ⟨p.1,p.2,none⟩)],args:= #[.func (.yield l) #[] #[]]},W1,gf,#[.func (.yield l) #[] #[]]++ #[.pointer (some ⟨p.1,p.2,none⟩)],W1,?_,?_,fun _ _=>trivial,?_,fun h=>(by cases h),?_⟩
 .rw[<-hW1,hrec];exact run_enterLoop_outer _ _ _ _ _
 .simp only[resolve,hev];simp [go_sem]
 .simp [invoke,go_sem,hit.1]
 have inv1:=inv0.turn t1 hd1;have hra1:W1.rangeAt p.1 p.2 cs:=fun j v hj=>by
  have h1:=hra j v hj;have h2:p.1<w.heap.size:=UT h1;rw[<-h1,<-hW1];exact aS0 (a:=⟨p.1,p.2+j,none⟩) ((aTc _ _ p.1 pE).trans (aTc _ _ p.1 h2))
 refine(aBE (ro:=none) (n:=0-1) (hit.2 l p.1 p.2 xc cs g w J Jx hpre hRc (fun i W ⟨g1,x,_,h2,_,_,h5⟩=>⟨hrng h2 h5,fun b o hb=>(h2.sld b o hb).2⟩) hJd hJxd (fun i W ⟨g1,x,_,h2,_⟩=>h2.heap.tab.1) hround2 W1 ⟨_,x0,hy,inv1,hr1.nb,hL1,hpJ1⟩ hra1)).mono ?_;have hend: ∀{W:pM}{r:Loop},W.heap[l]? =some (.loop r)->∀{ds0:List Deferred},zN B W ds0->zN B (W.putObj l (.loop {r with state:= .exhausted})) ds0:=by
  intro W r h1 ds0 h2;refine h2.same fun D hD=>?_;rw[World.putObj_heap_other (fun e=>by subst e;rw[h1] at hD;cases hD)];exact hD
 rintro e W2 ⟨⟨v,rfl⟩,(⟨g1,x,h1,h2,h3,h4,_⟩ |⟨g1,Bl,e,cd,z,h1,h2,h3,h4,h5,h6,h7⟩)⟩
 .rw[aTu] at h1;have hyx:y= .inl x:=(aSG h1).symm;have hin:=h2.turn (uN.put (o':= .loop {rec .ready none with state:= .exhausted}) h4 (by show w0.heap.size<=w.heap.size+1;omega) (by show NG<=w.heap.size+1;omega) rfl rfl) (hend h4 h2.defs)
  refine⟨none,W2.putObj l (.loop {rec .ready none with state:= .exhausted}),by have:=run_endLoop (P:=P) h4 (by rw[hrec];simp);rw[hrec] at this|-;exact this,?_⟩
  refine⟨.normal,g1,_,rfl,hdone x hyx,⟨hin.env,hin.heap,hr.size,h3,?_,aTA hnp (hlen x)⟩,hin.good,hn⟩;have:=hin.defs;rw[<-hds] at this;exact this
 have hin:=h4.turn (uN.put (o':= .loop {rec .done (some cd) with state:= .exhausted}) h7 (by show w0.heap.size<=w.heap.size+1;omega) (by show NG<=w.heap.size+1;omega) rfl rfl) (hend h7 h4.defs)
 refine⟨some cd,W2.putObj l (.loop {rec .done (some cd) with state:= .exhausted}),by have:=run_endLoop (P:=P) h7 (by rw[hrec];simp);rw[hrec] at this|-;exact this,?_⟩
 have hdef:=hin.defs;rw[<-hds] at hdef;have hrel:uM B g1 (W2.putObj l (.loop {rec .done (some cd) with state:= .exhausted})) ⟨E0,qP 0 Bl,qU Bl,s.N,s.np⟩ {a with defers:=[{target:= .collected w.heap.size,args:= #[]}]++a.defers}:=⟨hin.env,hin.heap,hr.size,h5,hdef,h6⟩
 cases e with
 |normal=>cases h1
 |ret=>
  obtain rfl:=aSG h1;exact wpIn_ret ⟨.ret,g1,_,rfl,h3,hrel,hin.good,hn⟩
 |exit id=>
  obtain rfl:=aSG h1;exact wpIn_exit ⟨.exit id,g1,_,rfl,h3,hrel,hin.good,hn⟩
theorem aLJ {P:Program}{gf:Nat}{u:Ty}{ι:Type}{pre:u.den->Prop}{items:u.den->List ι}{vl:ι->pI}(hit:W7 true P gf u pre items vl) {sl:ι->List pW}(hsl: ∀it g w,vD g w (sl it) (vl it))
  {fo:Operand}{ps:Array Tmp}{assign body:Code}{s:St}{Q:Ex->St->Prop}{c:Nat}{k0:pK}(hf:tT s.env fo=(.val .clo (some (gf,[(c,0)])),k0)) {xc:u.den}{toks:pG}(hc:pY s.H c=some (.cells u xc toks)) (hpre:pre xc)
  {σ ρ:Type}{f:ι->σ->Option (σ⊕ρ)}{x0:σ}{y:σ⊕ρ}(hy:F0 f (items xc) x0=some y)
  (E0:List (Nat×pW)) (E1:ι->List (Nat×pW)) (encH:σ->List pV) (encA:ι->σ->List pV) (np':Nat) (k:vY) (hk:wT s.np k.ids=true) (h0:s.keep k=⟨E0,qP 0 (encH x0),qU (encH x0),s.N,s.np⟩)
  (hcN:c<s.np) (hpin:L1 np' E0=true) (hnp:s.np<=np') (hlen: ∀x,np'<=qU (encH x)) (hdead: ∀x,((encH x).take np').all (fun b=>match b with| .dead=>false|_=>true)=true)
  (hA: ∀it x,(encA it x).take np'=(encH x).take np') (hlenA: ∀it x,np'<=qU (encA it x))
  (hps: ∀it,ps.toList.length=(sl it).length) (hpN:(ps.toList.all fun p=>decide (p<s.N))=true)
  (hround: ∀it x w,f it x=some w->(∀z,w= .inr z->y= .inr z)->Ev true P assign ⟨NJ E0 ps.toList (sl it),qP 0 (encH x),qU (encH x),s.N,np'⟩ (qA ⟨E1 it,qP 0 (encA it x),qU (encA it x),s.N,np'⟩)/\
   Ev true P body ⟨E1 it,qP 0 (encA it x),qU (encA it x),s.N,np'⟩ (qF encH E0 s.N s.np np' w Q))
  (hdone: ∀x,y= .inl x->Q .normal ⟨E0,qP 0 (encH x),qU (encH x),s.N,s.np⟩):Ev false P (.rangeFunc fo ps assign body) s Q:=
 aLI hit hsl hf hc hpre hy E0 E1 encH encA np' k hk h0 (.inr (.inr ⟨hcN,rfl⟩)) hpin hnp hlen hdead hA hlenA hps hpN hround hdone
section
variable {σ ρ:Type}{encH:σ->List pV}{E0:List (Nat×pW)}{N np np':Nat}{w:σ⊕ρ}{Q:Ex->St->Prop}{st s:St}
theorem aLK (k:vY) (h:s.keep k=st):qA st .normal s:=⟨k,h⟩
theorem aLL (k:vY) (x:σ) (hw:w= .inl x) (h:s.keep k=⟨[],qP 0 (encH x),qU (encH x),N,np'⟩):qF encH E0 N np np' w Q .normal s:=⟨k,x,hw,h⟩
end
end Go.Proofs.YtcpbaddnmpeipaaGreatDoor.Vc
namespace Go.Proofs.YtcpbaddnmpeipaaGreatDoor
open Go.RowKit Go.Shelf Vc
section
attribute [local go_sem] Oper.semAt_some
theorem NK: ∀(s:p7) (c:UInt8),Lib.indexByte s c<s.length/\ -1<=Lib.indexByte s c
 |[],_=>by simp [Lib.indexByte]
 |b::l,c=>by
  have:=NK l c;unfold Lib.indexByte;split
  .simp
  split
  .simp;omega
  simp only[aSI];omega
end
end Go.Proofs.YtcpbaddnmpeipaaGreatDoor
namespace Go.Proofs.YtcpbaddnmpeipaaGreatDoor
open Go.RowKit Go.Shelf Vc
open Tryz
section
attribute [local go_sem] Oper.semAt_some
abbrev w4:Type:=(Ty.pair .str (.pair .str .unit)).den
def QP (s:(Ty.list (.pair .str (.pair .str .unit))).den):List w4:=s
def a1y (it:w4):pI:=[.agg #[.string ⟨it.1.toArray⟩,.string ⟨it.2.1.toArray⟩]]
@[go_sem] def aCN (it:w4):List pW:=[(.val (.pair .str (.pair .str .unit)) it,none)]
theorem aLM (it:w4) (g:Gh) (w:pM):vD g w (aCN it) (a1y it):=
 ⟨_,_,rfl,⟨.inl ⟨rfl,[_,_],rfl,[_],[_],rfl,rfl,[_],[],rfl,rfl,rfl⟩,trivial⟩,rfl⟩
theorem aLN:W7 true prog 186 (.list (.pair .str (.pair .str .unit))) (fun d=>List.length d<=4611686018427387904) QP a1y:=by
 refine⟨fun _ _=>rfl,?_⟩;intro l b o (d:List w4) cs g W0 J Jx hpre hR hrd hJd hJxd hJt hY W h0 hra;obtain⟨a,cap,rfl,hcap,hel⟩:=hR;have hpre:d.length<=4611686018427387904:=hpre;have c0:W.cell? ⟨b,o,none⟩=some (.slice a d.length cap):=by simpa using hra 0 _ rfl
 have re: ∀j,j<d.length->∃b' o',a=some ⟨b',o',none⟩/\∀i W,J i W->W.cell? ⟨b',o'+j*2,none⟩=some (.string ⟨(d.getD j ([],[],())).1.toArray⟩)/\W.cell? ⟨b',o'+j*2+1,none⟩=some (.string ⟨(d.getD j ([],[],())).2.1.toArray⟩):=by
  intro j hj;rcases hel with h|⟨b',o',h1,h2⟩
  .rw[h] at hj;cases hj
  refine⟨b',o',h1,fun i W h=>?_⟩;have hg:d[j]? =some (d.getD j ([],[],())):=by rw[aSZ,aSK hj];rfl
  obtain⟨cs,k1,k2,k3,k4⟩:=UW h2 hg;generalize d.getD j ([],[],())=x at k4;obtain⟨c3,c4,rfl,e1,c5,c6,rfl,e2,e3⟩:=k4;rw[show c3=[.string ⟨x.1.toArray⟩] from e1,show c5=[.string ⟨x.2.1.toArray⟩] from e2,show c6=[] from e3] at k2;have k5:=k2 0 _ rfl;have k6:=k2 1 _ rfl;have k7:=k3 0 pC;have k8:=k3 1 pC;rw[aTP] at k5 k7;exact⟨((hrd i W h).2 _ _ k7).trans k5,((hrd i W h).2 _ _ k8).trans k6⟩
 have qm: ∀j,j<d.length->(QP d)[j]? =some (d.getD j ([],[],())):=fun j hj=>by
  show d[j]? =_;rw[aSZ,aSK hj];rfl
 have qn:(QP d).length=d.length:=rfl;generalize hn:d.length=n at*;refine(callsIn_wide (n:=0)).1 (callsIn_of_wp func186 rfl trivial ?_);simp only[Tryz.ntmps186,aTG,aSI,aSY,Nat.reduceAdd,Nat.reduceSub,Array.replicate_succ,Array.replicate_zero,List.push_toArray,List.append_toArray,List.nil_append,List.cons_append]
 gi_wp2
 gi_loopw [7] (fun p wr=> ∃k:Nat,k<=n/\p= .int .i64 k/\J k wr) (fun p _=>n- (RowKit.intOf p).toNat)
 case atStart=>exact⟨0,aTv _,rfl,h0⟩
 case round=>
  obtain⟨k,hk,rfl,hJs⟩:=hrel;by_cases hlt:k<n
  .obtain⟨b',o',rfl,hce⟩:=re k hlt;obtain⟨hc1,hc2⟩:=hce _ _ hJs;have hq:=qm k hlt;clear re qm hce;generalize d.getD k ([],[],())=x at hc1 hc2 hq;have hb2:Below wr.heap.size wr (wr.alloc (.cells #[.string ⟨x.1.toArray⟩,.string ⟨x.2.1.toArray⟩] 110)):=(Below.refl _ _).alloc (aSW _) _;obtain⟨fn,tmps,assign,body,hy,hQ⟩:=hY _ _ _ _ hq hJs hb2;dsimp only[a1y] at hy
   gi_wp2
   refine⟨rfl,hQ.mono ?_⟩;clear hQ hy;rintro e W2 ⟨h12,-⟩;rcases h12 with⟨rfl,hJ2⟩ |⟨rfl,hJx⟩
   .gi_wp2
    go_roundw
    case rel=>exact⟨k+1,pB,by simp,hJ2⟩
    case measure=>
     show n- (k+1)<n-k;omega
   gi_wp2
   refine bodyPost_ret (results_none rfl _ _ _) rfl ?_;exact⟨⟨_,rfl⟩,.inr hJx⟩
  obtain rfl:k=n:=by omega
  gi_wp2
  go_end0
  exact⟨⟨_,rfl⟩,.inl (by rw[qn];exact hJs)⟩
end
end Go.Proofs.YtcpbaddnmpeipaaGreatDoor
namespace Go.Proofs.YtcpbaddnmpeipaaGreatDoor
open Vc Go.RowKit
def F1 (g:Gh) (k n:Nat) (v:pN):Gh:={g with cur:=fun i m=>if i=k then(if m=n then some v else none) else g.cur i m}
theorem CY (g:Gh) (k n:Nat) (v:pN):(F1 g k n v).cur k n=some v:=by simp [F1]
theorem a1z (g:Gh) (k n:Nat) (v:pN) {m:Nat}(h:n<m):(F1 g k n v).cur k m=none:=by
 simp only[F1,aT5];rw[aSD pB]
theorem aLO {g:Gh}{w w':pM}{e:TypeId}{l l':p8}{n m b cap:Nat}{cur':Array pN}{side:List Prop}
  (hH:s5 g w (qP 0 [.row e .str l n])) (hcur:g.cur 0 n=some (.slice (some ⟨b,0,none⟩) n cap))
  (hcm:cap<=maxLen) (hmc:m<=cap) (hl':l'.length=m)
  (hnew:w'.heap[b]? =some (.cells cur' e (0,0))) (hcs':cur'.size=cap) (htk:cur'.toList.take m=l'.map Go.Proofs.encStr) (hgr:w.grownBy w' (some b)):
  ∃g',EV g w [.row e .str l n] ⟨side,[(.own 1 m,none)],[.dead,.row e .str l' m]⟩ g' w' (.slice (some ⟨b,0,none⟩) m cap):=by
 have hg0:pY (qP 0 [pV.row e .str l n]) 0=some (.row e .str l n):=rfl;obtain⟨hl,v,xs,hc2,hown,hF,hnone,hseal⟩:=hH.blk 0 _ hg0;rw[hcur] at hc2;obtain rfl:=aSG hc2;have hb0: ∀o,y8 g (qP 0 [pV.row e .str l n]) b o:=fun o=>⟨0,_,hg0,_,hcur,rfl⟩;have hNG:NG<=b:=hH.tab.2 0 _ b 0 hg0 ⟨_,hcur,rfl⟩;have hS: ∀b' o,g.S b' o->b'≠b:=fun b' o h e1=>hseal b rfl o (e1▸h);have hcell: ∀b' o,g.S b' o->w'.cell? ⟨b',o,none⟩=w.cell? ⟨b',o,none⟩:=fun b' o h=>aS0 (a:=⟨b',o,none⟩) (hgr.block b' (hH.sl b' o h) (fun e1=>hS b' o h (aSG e1)));refine⟨F1 g 1 m (.slice (some ⟨b,0,none⟩) m cap),fun b' o h=>⟨h,hcell b' o h⟩,⟨fun i blk h=>?_,fun i j bi bj b' o hij hi hj ho hp=>?_,fun b' o h=>aTd (hH.sl b' o h) hgr.size,HI hH.tab.1 hgr.size fun b' h=>hgr.block b' (aTd h hH.tab.1.1) (fun e1=>by have:=aSG e1;omega),fun i blk b' o h ho=>?_⟩,⟨⟨CY ..,.inr ⟨b,cap,rfl,hmc⟩⟩,trivial⟩,⟨hgr.os,hgr.tape,hgr.output,hgr.size,fun b' hb hn=>hgr.block b' hb fun e1=>hn 0 (by rw[aSG e1];exact hb0 0),fun b' o hb hn=>?_,fun b' o h=> .inl h,fun b' s h=>?_⟩,fun i blk b' o h ho=>?_,fun _ _ _ _ _=>rfl,fun i t x ts u y us h=>?_,fun i p hi h=>h,fun i q u hi h=>?_⟩
 .match i,h with
  |0,h=>cases h;trivial
  |1,h=>
   cases h;refine⟨hl',_,l'.map Go.Proofs.encStr,CY ..,⟨by simp [hl',Ty.cells],.inr ⟨b,cap,cur',rfl,aTv _,hnew,hmc,hcm,by simpa[Ty.cells] using hcs',by simpa[Ty.cells] using htk⟩⟩,a1u _,fun q hq=>a1z g 1 m _ hq,fun b' hb o hs=>?_⟩;cases hb;exact hseal b rfl o hs
  |i+2,h=>simp [qP,pY] at h
 .match i,j,hi,hj with
  |0,_,hi,_=>cases hi;exact ho
  |_,0,_,hj=>cases hj;exact hp
  |1,1,_,_=>exact hij rfl
  |i+2,_,hi,_=>simp [qP,pY] at hi
  |1,j+2,_,hj=>simp [qP,pY] at hj
 .match i,h with
  |0,h=>cases h;exact ho.elim
  |1,h=>
   cases h;obtain⟨v,h1,h2⟩:=ho;rw[CY] at h1;obtain rfl:=aSG h1;cases h2;exact hNG
  |i+2,h=>simp [qP,pY] at h
 .have hne:b'≠b:=fun e1=>hn (e1▸hb0 o);have:=hgr.block b' hb (fun e1=>hne (aSG e1));exact⟨aS0 (a:=⟨b',o,none⟩) this,aTq (a:=⟨b',o,none⟩) this⟩
 .by_cases e1:b'=b
  .exact .inr fun o=>e1▸hb0 o
  exact .inl ((BJ (hgr.block b' (BI h) (fun e2=>e1 (aSG e2)))).trans h)
 .match i,h with
  |0,h=>cases h;exact ho.elim
  |1,h=>
   cases h;obtain⟨v,h1,h2⟩:=ho;rw[CY] at h1;obtain rfl:=aSG h1;cases h2;exact .inr (hb0 o)
  |i+2,h=>simp at h
 .match i,h with
  |0,h=>cases h
  |i+1,h=>simp at h
 match i,hi with
 |0,_=>simpa[F1] using h
theorem aLP {g:Gh}{w:pM}{e:TypeId}{l:p8}{side:List Prop}
  (hH:s5 g w (qP 0 [.row e .str l 0])) {v:pN}(hcur:g.cur 0 0=some v):
  ∃g',EV g w [.row e .str l 0] ⟨side,[(.own 1 0,none)],[.dead,.row e .str [] 0]⟩ g' w v:=by
 have hg0:pY (qP 0 [pV.row e .str l 0]) 0=some (.row e .str l 0):=rfl;obtain⟨hl,v',xs,hc2,hown,hF,hnone,hseal⟩:=hH.blk 0 _ hg0;rw[hcur] at hc2;obtain rfl:=aSG hc2;have hb0: ∀b o,v.ownBlock=some b->y8 g (qP 0 [pV.row e .str l 0]) b o:=fun b o h=>⟨0,_,hg0,_,hcur,h⟩;have hv:(v= .slice none 0 0/\0=0)\/∃b cap,v= .slice (some ⟨b,0,none⟩) 0 cap/\0<=cap:=by
  rcases hown.2 with⟨h1,h2⟩ |⟨b,cap,cur,h1,_,_,h2,_⟩
  .exact .inl ⟨h1,rfl⟩
  exact .inr ⟨b,cap,h1,h2⟩
 refine⟨F1 g 1 0 v,fun b' o h=>⟨h,rfl⟩,⟨fun i blk h=>?_,fun i j bi bj b' o hij hi hj ho hp=>?_,hH.sl,hH.tab.1,fun i blk b' o h ho=>?_⟩,⟨⟨CY ..,hv⟩,trivial⟩,Fr.refl _ _ _,fun i blk b' o h ho=>?_,fun _ _ _ _ _=>rfl,fun i t x ts u y us h=>?_,fun i p hi h=>h,fun i q u hi h=>?_⟩
 .match i,h with
  |0,h=>cases h;trivial
  |1,h=>
   cases h;have hx:xs=[]:=by
    have:=hown.1;simpa using this
   subst hx;exact⟨rfl,v,[],CY ..,hown,rfl,fun q hq=>a1z g 1 0 _ hq,hseal⟩
  |i+2,h=>simp [qP,pY] at h
 .match i,j,hi,hj with
  |0,_,hi,_=>cases hi;exact ho
  |_,0,_,hj=>cases hj;exact hp
  |1,1,_,_=>exact hij rfl
  |i+2,_,hi,_=>simp [qP,pY] at hi
  |1,j+2,_,hj=>simp [qP,pY] at hj
 .match i,h with
  |0,h=>cases h;exact ho.elim
  |1,h=>
   cases h;obtain⟨v',h1,h2⟩:=ho;rw[CY] at h1;obtain rfl:=aSG h1;exact hH.tab.2 0 _ b' o hg0 ⟨_,hcur,h2⟩
  |i+2,h=>simp [qP,pY] at h
 .match i,h with
  |0,h=>cases h;exact ho.elim
  |1,h=>
   cases h;obtain⟨v',h1,h2⟩:=ho;rw[CY] at h1;obtain rfl:=aSG h1;exact .inr (hb0 b' o h2)
  |i+2,h=>simp at h
 .match i,h with
  |0,h=>cases h
  |i+1,h=>simp at h
 match i,hi with
 |0,_=>simpa[F1] using h
end Go.Proofs.YtcpbaddnmpeipaaGreatDoor
namespace Go.Proofs
open Go.RowKit Go.Lib
open Tryz
def Tryz.lays219_ren:Go.Shelf.Ren:=⟨fun|219=>110|217=>139|225=>140|224=>141|267=>142|266=>174|314=>175|n=>n,fun|9=>9|3=>3|4=>4|5=>5|46=>176|146=>203|51=>202|n=>n,fun|1=>0|n=>n⟩
theorem Tryz.lays219:Go.Proofs.Lays.n219 prog Tryz.lays219_ren:={
 mixed:=by kernel_rfl
 f217:=Tryz.func139.trans (aS4 some pP)
 f219:=Tryz.func110.trans (aS4 some pP)
 f224:=Tryz.func141.trans (aS4 some pP)
 f225:=Tryz.func140.trans (aS4 some pP)
 f266:=Tryz.func174.trans (aS4 some pP)
 f267:=Tryz.func142.trans (aS4 some pP)
 f314:=Tryz.func175.trans (aS4 some pP)
 t3:=Tryz.underlying3
 a3:=Tryz.isAgg3
 z3:=Tryz.sizeOf3
 v3:=Tryz.zeroValue3
 t4:=Tryz.underlying4
 a4:=Tryz.isAgg4
 z4:=Tryz.sizeOf4
 v4:=Tryz.zeroValue4
 t5:=Tryz.underlying5
 a5:=Tryz.isAgg5
 z5:=Tryz.sizeOf5
 v5:=Tryz.zeroValue5
 t9:=Tryz.underlying9
 a9:=Tryz.isAgg9
 z9:=Tryz.sizeOf9
 v9:=Tryz.zeroValue9
 t46:=Tryz.underlying176
 a46:=Tryz.isAgg176
 z46:=Tryz.sizeOf176
 v46:=Tryz.zeroValue176
 t51:=Tryz.underlying202
 a51:=Tryz.isAgg202
 z51:=Tryz.sizeOf202
 v51:=Tryz.zeroValue202
 t146:=Tryz.underlying203
 a146:=Tryz.isAgg203
 z146:=Tryz.sizeOf203
 v146:=Tryz.zeroValue203
 g1:=by kernel_rfl}
def Tryz.lays194_ren:Go.Shelf.Ren:=⟨fun|194=>164|n=>n,fun|31=>23|9=>9|3=>3|4=>4|0=>0|n=>n,fun|n=>n⟩
theorem Tryz.lays194:Go.Proofs.Lays.n194 prog Tryz.lays194_ren:={
 mixed:=by kernel_rfl
 f194:=Tryz.func164.trans (aS4 some pP)
 t0:=Tryz.underlying0
 a0:=Tryz.isAgg0
 z0:=Tryz.sizeOf0
 v0:=Tryz.zeroValue0
 t3:=Tryz.underlying3
 a3:=Tryz.isAgg3
 z3:=Tryz.sizeOf3
 v3:=Tryz.zeroValue3
 t4:=Tryz.underlying4
 a4:=Tryz.isAgg4
 z4:=Tryz.sizeOf4
 v4:=Tryz.zeroValue4
 t9:=Tryz.underlying9
 a9:=Tryz.isAgg9
 z9:=Tryz.sizeOf9
 v9:=Tryz.zeroValue9
 t31:=Tryz.underlying23
 a31:=Tryz.isAgg23
 z31:=Tryz.sizeOf23
 v31:=Tryz.zeroValue23}
def Tryz.lays153_ren:Go.Shelf.Ren:=⟨fun|153=>146|152=>177|226=>178|227=>112|228=>143|137=>133|119=>199|224=>141|225=>140|217=>139|266=>174|n=>n,fun|9=>9|3=>3|4=>4|5=>5|21=>21|117=>152|116=>151|0=>0|46=>176|124=>155|n=>n,fun|n=>n⟩
theorem Tryz.lays153:Go.Proofs.Lays.n153 prog Tryz.lays153_ren:={
 mixed:=by kernel_rfl
 f119:=Tryz.func199.trans (aS4 some pP)
 f137:=Tryz.func133.trans (aS4 some pP)
 f152:=Tryz.func177.trans (aS4 some pP)
 f153:=Tryz.func146.trans (aS4 some pP)
 f217:=Tryz.func139.trans (aS4 some pP)
 f224:=Tryz.func141.trans (aS4 some pP)
 f225:=Tryz.func140.trans (aS4 some pP)
 f226:=Tryz.func178.trans (aS4 some pP)
 f227:=Tryz.func112.trans (aS4 some pP)
 f228:=Tryz.func143.trans (aS4 some pP)
 f266:=Tryz.func174.trans (aS4 some pP)
 t0:=Tryz.underlying0
 a0:=Tryz.isAgg0
 z0:=Tryz.sizeOf0
 v0:=Tryz.zeroValue0
 t3:=Tryz.underlying3
 a3:=Tryz.isAgg3
 z3:=Tryz.sizeOf3
 v3:=Tryz.zeroValue3
 t4:=Tryz.underlying4
 a4:=Tryz.isAgg4
 z4:=Tryz.sizeOf4
 v4:=Tryz.zeroValue4
 t5:=Tryz.underlying5
 a5:=Tryz.isAgg5
 z5:=Tryz.sizeOf5
 v5:=Tryz.zeroValue5
 t9:=Tryz.underlying9
 a9:=Tryz.isAgg9
 z9:=Tryz.sizeOf9
 v9:=Tryz.zeroValue9
 t21:=Tryz.underlying21
 a21:=Tryz.isAgg21
 z21:=Tryz.sizeOf21
 v21:=Tryz.zeroValue21
 t46:=Tryz.underlying176
 a46:=Tryz.isAgg176
 z46:=Tryz.sizeOf176
 v46:=Tryz.zeroValue176
 t116:=Tryz.underlying151
 a116:=Tryz.isAgg151
 z116:=Tryz.sizeOf151
 t117:=Tryz.underlying152
 a117:=Tryz.isAgg152
 z117:=Tryz.sizeOf152
 v117:=Tryz.zeroValue152
 t124:=Tryz.underlying155
 a124:=Tryz.isAgg155
 z124:=Tryz.sizeOf155
 v124:=Tryz.zeroValue155}
def Tryz.lays106_ren:Go.Shelf.Ren:=⟨fun|106=>153|213=>187|265=>205|n=>n,fun|9=>9|3=>3|n=>n,fun|n=>n⟩
theorem Tryz.lays106:Go.Proofs.Lays.n106 prog Tryz.lays106_ren:={
 mixed:=by kernel_rfl
 f106:=Tryz.func153.trans (aS4 some pP)
 f213:=Tryz.func187.trans (aS4 some pP)
 f265:=Tryz.func205.trans (aS4 some pP)
 t3:=Tryz.underlying3
 a3:=Tryz.isAgg3
 z3:=Tryz.sizeOf3
 v3:=Tryz.zeroValue3
 t9:=Tryz.underlying9
 a9:=Tryz.isAgg9
 z9:=Tryz.sizeOf9
 v9:=Tryz.zeroValue9}
end Go.Proofs
namespace Go.Proofs.YtcpbaddnmpeipaaGreatDoor
open Vc Go.RowKit
open Tryz
theorem aLQ {g:Gh}{w:pM}{e:TypeId}{l:p8}{n:Nat}{v:pN}(hH:s5 g w (qP 0 [.row e .str l n])) (hv:rH g w (.own 0 n,none) v):
  l.length=n/\g.cur 0 n=some v/\((v= .slice none 0 0/\n=0)\/∃b cap cur,v= .slice (some ⟨b,0,none⟩) n cap/\w.heap[b]? =some (.cells cur e (0,0))/\n<=cap/\cap<=maxLen/\cur.size=cap/\Go.Sort.Holds Go.Proofs.encStr w b 0 l.toArray/\b<w.heap.size):=by
 have hg0:pY (qP 0 [pV.row e .str l n]) 0=some (.row e .str l n):=rfl;obtain⟨hl,v',xs,hcur,hown,hF,hnone,hseal⟩:=hH.blk 0 _ hg0;have hva:v=v':=by
  have:=hv.1.1;rw[hcur] at this;exact(aSG this).symm
 subst hva;subst hl;refine⟨rfl,hcur,?_⟩;obtain⟨hx,⟨rfl,h0⟩ |⟨b,cap,cur,rfl,hb0,hbk,hnc,hcm,hcs,htk⟩⟩:=hown
 .exact .inl ⟨rfl,h0⟩
 have hxs:=a1t hF;subst hxs;have hc1:(Ty.str).cells=1:=rfl;rw[hc1,aUs] at hcs htk;refine .inr ⟨b,cap,cur,rfl,hbk,hnc,hcm,hcs,?_,?_⟩
 .intro j hj;have hj':j<l.length:=by simpa using hj
  refine⟨?_,Lib.frozen_of_heap hbk _⟩;rw[Lib.cell_of_heap hbk,aTa];have h2:(cur.toList.take l.length)[j]? =(l.map Go.Proofs.encStr)[j]? :=by rw[htk]
  rw[aTy hj',aTE] at h2;rw[h2];simp [hj']
 rcases aTD b w.heap.size with h|h
 .exact h
 rw[Array.getElem?_eq_none h] at hbk;cases hbk
theorem aLR {g:Gh}{w:pM}{e:TypeId}{l l':p8}{n q b cap:Nat}{cur:Array pN}{side:List Prop}{pad:p8}
  (hH:s5 g w (qP 0 [.row e .str l n])) (hcur:g.cur 0 n=some (.slice (some ⟨b,0,none⟩) n cap)) (hbk:w.heap[b]? =some (.cells cur e (0,0))) (hcs:cur.size=cap)
  (hcm:cap<=maxLen) (hp:l'.length+pad.length<=cap):
  ∃g',EV g w [.row e .str l n] ⟨side,[(.own 1 l'.length,none)],[.dead,.row e .str l' l'.length]⟩ g' (Go.Sort.putRow Go.Proofs.encStr (Go.Sort.ahead w q) b 0 (l'++pad).toArray) (.slice (some ⟨b,0,none⟩) l'.length cap):=by
 refine aLO (cur':=Go.Sort.putCells Go.Proofs.encStr 0 (l'++pad).toArray cur) hH hcur hcm pB rfl ?_ (by simpa[Go.Sort.putCells] using hcs) ?_ ⟨rfl,rfl,rfl,by simp,fun k hk hne=>?_⟩
 .simp [Go.Sort.putRow,Go.Sort.mapBlock,aTC,hbk,Go.Sort.onCells]
 .have h1:=aCB (l'++pad) cur (by rw[aSH];omega);have h2:=aS4 (List.take l'.length) h1;rw[List.take_take,aSH,Nat.min_eq_left (Nat.le_add_right _ _),List.map_append,List.take_append_of_le_length pD] at h2;exact h2.trans (List.take_of_length_le pD)
 have hkb:b≠k:=fun h=>hne (by rw[h]);simp [Go.Sort.putRow,Go.Sort.mapBlock,aTC,hkb]
@[go_sem] def W8:List pW->List pV->Option qH
 |[(.own 0 n,none)],[.row 9 .str l n2]=>some ⟨[n=n2,n2<=9223372036854775807],[(.own 1 (List.length (Lib.compact l)),none)],[.dead,.row 9 .str (Lib.compact l) (List.length (Lib.compact l))]⟩
 |_,_=>none
theorem aCO:yJ prog 164 W8:=by
 refine⟨fun _ _=>rfl,fun g w args vals L r hH ha hC hs=>?_⟩;unfold W8 at hC;split at hC
 .rename_i n l n2;cases hC;obtain rfl:n=n2:=hs _ pD;have hn:=hs (n<=9223372036854775807) pD;clear hs;obtain⟨va,_,rfl,ra,hv⟩:=ha;cases hv;obtain⟨hl,hcur,⟨rfl,rfl⟩ |⟨b,cap,cur,rfl,hbk,hnc,hcm,hcs,hho,hb⟩⟩:=aLQ hH ra
  .obtain rfl:l=[]:=aTB.1 hl;refine(Any.slices_Compact_string_empty Tryz.lays194 none 0 w).mono ?_;rintro en w' ⟨rfl,rfl⟩;obtain⟨g',hg⟩:=aLP (side:=[]) hH hcur;exact⟨_,g',rfl,hg.shut,hg.heap,hg.ret,hg.fr,hg.perm,hg.J,hg.ty,hg.Jt,hg.cur⟩
  subst hl;refine(Any.slices_Compact_string Tryz.lays194 b 0 cap l w hho hn hnc).mono ?_;rintro en w' ⟨rfl,q,rfl⟩;obtain⟨g',hg⟩:=aLR (side:=[]) (q:=q) (l':=Lib.compact l) (pad:=List.replicate (l.length- (Lib.compact l).length) []) hH hcur hbk hcs hcm (by have:=Lib.compact_length_le l;simp;omega);exact⟨_,g',rfl,hg.shut,hg.heap,hg.ret,hg.fr,hg.perm,hg.J,hg.ty,hg.Jt,hg.cur⟩
 cases hC
@[go_sem] def W9:List pW->List pV->Option qH
 |[(.val .str O,none),(.val .str Z,none)],[]=>some ⟨[List.length O<4294967281],[(.val (.int .i64) (EZ O Z),none)],[]⟩
 |_,_=>none
theorem aCP:yJ prog 110 W9:=by
 refine QO (fun _ _=>rfl) fun g w args vals L r hT ha hC hs=>?_;unfold W9 at hC;split at hC
 .rename_i s c;cases hC;have h1:=hs _ aS2;obtain⟨va,_,rfl,ra,vb,_,rfl,rb,hv⟩:=ha;obtain rfl:=wY ra.1;obtain rfl:=wY rb.1;cases hv;obtain⟨m,hm⟩:=hT.2.2.1;exact⟨rfl,rfl,(aCx (Any.stringslite_Index Tryz.lays219 ⟨List.toArray s⟩ ⟨List.toArray c⟩ m w h1 hm)).mono fun e w' ⟨he,hb⟩=>⟨_,he,hb,w9 _ _ _ _,trivial⟩⟩
 cases hC
end Go.Proofs.YtcpbaddnmpeipaaGreatDoor
namespace Go.Proofs
open Go.RowKit Go.Lib Go.Shelf
def Tryz.sortFld_ren:Go.Shelf.Ren:=⟨fun|6=>185|15=>192|14=>204|28=>217|29=>218|20=>228|21=>229|22=>230|23=>231|24=>232|25=>233|26=>234|27=>235|46=>249|47=>237|48=>238|49=>250|50=>251|57=>256|n=>n,fun|22=>24|24=>110|25=>188|3=>3|39=>176|0=>0|53=>202|55=>241|4=>4|46=>234|45=>233|50=>54|5=>5|9=>9|66=>255|70=>259|76=>268|77=>140|n=>n,fun|n=>n⟩
theorem Tryz.sortFld:Go.Proofs.SlLaysF0.n6 Tryz.prog Tryz.sortFld_ren:={
 mixed:=by kernel_rfl
 f6:=⟨Tryz.f185.name,pC,Tryz.func185.trans (aS4 some pP)⟩
 f14:=⟨Tryz.f204.name,pC,Tryz.func204.trans (aS4 some pP)⟩
 f15:=Tryz.func192.trans (aS4 some pP)
 f20:=⟨Tryz.f228.name,pC,Tryz.func228.trans (aS4 some pP)⟩
 f21:=⟨Tryz.f229.name,pC,Tryz.func229.trans (aS4 some pP)⟩
 f22:=⟨Tryz.f230.name,pC,Tryz.func230.trans (aS4 some pP)⟩
 f23:=⟨Tryz.f231.name,pC,Tryz.func231.trans (aS4 some pP)⟩
 f24:=⟨Tryz.f232.name,pC,Tryz.func232.trans (aS4 some pP)⟩
 f25:=⟨Tryz.f233.name,pC,Tryz.func233.trans (aS4 some pP)⟩
 f26:=⟨Tryz.f234.name,pC,Tryz.func234.trans (aS4 some pP)⟩
 f27:=⟨Tryz.f235.name,pC,Tryz.func235.trans (aS4 some pP)⟩
 f28:=Tryz.func217.trans (aS4 some pP)
 f29:=Tryz.func218.trans (aS4 some pP)
 f46:=⟨Tryz.f249.name,pC,Tryz.func249.trans (aS4 some pP)⟩
 f47:=Tryz.func237.trans (aS4 some pP)
 f48:=Tryz.func238.trans (aS4 some pP)
 f49:=⟨Tryz.f250.name,pC,Tryz.func250.trans (aS4 some pP)⟩
 f50:=⟨Tryz.f251.name,pC,Tryz.func251.trans (aS4 some pP)⟩
 f57:=⟨Tryz.f256.name,pC,Tryz.func256.trans (aS4 some pP)⟩
 t0:=Tryz.underlying0
 a0:=Tryz.isAgg0
 z0:=Tryz.sizeOf0
 v0:=Tryz.zeroValue0
 t3:=Tryz.underlying3
 a3:=Tryz.isAgg3
 z3:=Tryz.sizeOf3
 v3:=Tryz.zeroValue3
 t4:=Tryz.underlying4
 a4:=Tryz.isAgg4
 z4:=Tryz.sizeOf4
 v4:=Tryz.zeroValue4
 t5:=Tryz.underlying5
 a5:=Tryz.isAgg5
 z5:=Tryz.sizeOf5
 v5:=Tryz.zeroValue5
 t9:=Tryz.underlying9
 a9:=Tryz.isAgg9
 z9:=Tryz.sizeOf9
 v9:=Tryz.zeroValue9
 t22:=Tryz.underlying24
 a22:=Tryz.isAgg24
 z22:=Tryz.sizeOf24
 v22:=Tryz.zeroValue24
 t25:=Tryz.underlying188
 a25:=Tryz.isAgg188
 z25:=Tryz.sizeOf188
 v25:=Tryz.zeroValue188
 t39:=Tryz.underlying176
 a39:=Tryz.isAgg176
 z39:=Tryz.sizeOf176
 v39:=Tryz.zeroValue176
 t45:=Tryz.underlying233
 a45:=Tryz.isAgg233
 z45:=Tryz.sizeOf233
 v45:=Tryz.zeroValue233
 t46:=Tryz.underlying234
 a46:=Tryz.isAgg234
 z46:=Tryz.sizeOf234
 v46:=Tryz.zeroValue234
 t50:=Tryz.underlying54
 a50:=Tryz.isAgg54
 z50:=Tryz.sizeOf54
 v50:=Tryz.zeroValue54
 t53:=Tryz.underlying202
 a53:=Tryz.isAgg202
 z53:=Tryz.sizeOf202
 v53:=Tryz.zeroValue202
 t55:=Tryz.underlying241
 a55:=Tryz.isAgg241
 z55:=Tryz.sizeOf241
 v55:=Tryz.zeroValue241
 t66:=Tryz.underlying255
 a66:=Tryz.isAgg255
 z66:=Tryz.sizeOf255
 v66:=Tryz.zeroValue255
 t70:=Tryz.underlying259
 a70:=Tryz.isAgg259
 z70:=Tryz.sizeOf259
 v70:=Tryz.zeroValue259
 t76:=Tryz.underlying268
 a76:=Tryz.isAgg268
 z76:=Tryz.sizeOf268
 v76:=Tryz.zeroValue268
 t77:=Tryz.underlying140
 a77:=Tryz.isAgg140
 z77:=Tryz.sizeOf140
 v77:=Tryz.zeroValue140}
end Go.Proofs
namespace Go.Proofs.YtcpbaddnmpeipaaGreatDoor
open Vc Go.RowKit Go.Sort
def CZ (x y:w4):Int:=Lib.compareBytes x.1 y.1
theorem a1A: ∀(a b:p7),Lib.compareBytes a b<0↔a<b
 |[],[]=>by simp [Lib.compareBytes]
 |[],_::_=>by simp [Lib.compareBytes]
 |_::_,[]=>by simp [Lib.compareBytes]
 |a::u,b::bs=>by
  rw[List.cons_lt_cons_iff];unfold Lib.compareBytes;by_cases h1:a<b
  .simp [h1]
  by_cases h2:b<a
  .have: ¬a=b:=fun e=>by subst e;exact h1 h2
   simp [h1,h2,this]
  have:a=b:=UInt8.le_antisymm (by simpa using h2) (by simpa using h1);subst this;simp only[h1,aUy,false_or,true_and];exact a1A u bs
theorem a1B (x y:w4):ltOf CZ x y=decide (x.1<y.1):=by
 unfold ltOf CZ;rw[decide_eq_decide];exact a1A _ _
theorem aCQ:SWO (ltOf CZ) where
 irrefl x:=by rw[a1B];simp [List.lt_irrefl]
 trans x y z h1 h2:=by
  rw[a1B,aSL] at*;exact List.lt_trans h1 h2
 ntrans x y z h1 h2:=by
  rw[a1B,aTo,List.not_lt] at*;exact List.le_trans h2 h1
def L2 (x:w4):pI:=[.string ⟨x.1.toArray⟩,.string ⟨x.2.1.toArray⟩]
def xQ:List w4->pI
 |[]=>[]
 |x::l=> .string ⟨x.1.toArray⟩:: .string ⟨x.2.1.toArray⟩::xQ l
theorem I8: ∀l:List w4,(xQ l).length=l.length*2
 |[]=>rfl
 |x::l=>by simp only[xQ,aSI,I8 l];omega
theorem aCR: ∀(l:List w4) (t:Nat),t<l.length*2->(xQ l)[t]? =(L2 (l.getD (t/2) default))[t%2]?
 |[],t,h=>by simp at h
 |x::l,0,_=>rfl
 |x::l,1,_=>rfl
 |x::l,t+2,h=>by
  have h':t<l.length*2:=by simp only[aSI] at h;omega
  have e1:(t+2) /2=t/2+1:=by omega
  have e2:(t+2) %2=t%2:=by omega
  rw[e1,e2];simp only[xQ,aTp,List.getD_cons_succ];exact aCR l t h'
theorem aCS (l:List w4):flatK L2 2 l.toArray=(xQ l).toArray:=by
 refine ext_get! (by simp [I8]) fun t ht=>?_;have ht':t<l.length*2:=by simpa using ht
 rw[get_flatK _ _ _ t (by simpa using ht')];have hq:t<(xQ l).length:=by rw[I8];exact ht'
 have h1:=aCR l t ht';have e1:(xQ l).toArray[t]! =(xQ l)[t]:=by simp [hq]
 rw[e1];rw[aSK hq] at h1;have e2:l.toArray[t/2]! =l.getD (t/2) default:=by simp [aSZ]
 rw[e2];have h2:t%2<(L2 (l.getD (t/2) default)).length:=by show _<2;omega
 rw[aSK h2] at h1;rw[getElem!_pos (L2 (l.getD (t/2) default)) (t%2) h2];exact(aSG h1).symm
theorem WA {g:Gh}{w:pM}: ∀{l:List w4}{xs:pI},tU (Rd g w (.pair .str (.pair .str .unit))) 2 l xs->xs=xQ l
 |[],_,h=>h
 |x::l,_,⟨c1,c2,e,_,h2,h3⟩=>by
  obtain⟨d1,d2,e1,k1,d3,d4,e2,k2,k3⟩:=h2;rw[e,e1,e2,show d1=_ from k1,show d3=_ from k2,show d4=_ from k3,WA h3];rfl
theorem WB {g:Gh}{w:pM}: ∀(l:List w4),tU (Rd g w (.pair .str (.pair .str .unit))) 2 l (xQ l)
 |[]=>rfl
 |x::l=>⟨[.string ⟨x.1.toArray⟩,.string ⟨x.2.1.toArray⟩],_,rfl,rfl,⟨[_],[_],rfl,rfl,[_],[],rfl,rfl,rfl⟩,WB l⟩
theorem aLS (s:pI) (cur:Array pN) (h:s.length<=cur.size):(Go.Sort.putCells id 0 s.toArray cur).toList.take s.length=s:=by
 apply List.ext_getElem
 .simp [Go.Sort.putCells];omega
 intro i h1 h2;simp only[Go.Sort.putCells,List.getElem_take,Array.getElem_toList,Array.getElem_mapIdx];rw[aSB (by simp;exact h2)];simp [h2]
theorem aLT (x y:w4) (W:pM):Calls Tryz.prog 152 #[.agg #[.string ⟨x.1.toArray⟩,.string ⟨x.2.1.toArray⟩],.agg #[.string ⟨y.1.toArray⟩,.string ⟨y.2.1.toArray⟩]] W fun e w'=>e= .returned (.int .i64 (CZ x y))/\∃q os',w'=grow (W.drewN q) os':=by
 have hcon:=fun W'=>Any.strings_Compare Tryz.lays106 ⟨x.1.toArray⟩ ⟨y.1.toArray⟩ W';change ∀W',Calls Tryz.prog 153 _ _ _ at hcon;have e0:Lib.compareBytes (⟨x.1.toArray⟩:ByteArray).data.toList (⟨y.1.toArray⟩:ByteArray).data.toList=CZ x y:=rfl;rw[e0] at hcon;generalize CZ x y=r at hcon|-
 go_enter Tryz.func152,Tryz.ntmps152
 go_wp2_with (go_at_call 153;refine(hcon _).mono ?_;rintro e w' ⟨rfl,rfl⟩)
 go_ret
 exact⟨rfl,0,_,by rw[alloc_eq_grow,alloc_eq_grow,grow_grow];rfl⟩
def vG (l:List w4):List w4:=(pdq (ltOf CZ) l.toArray 0 l.length (Lib.bitLen l.length) true true).toList
theorem aCT (l:List w4):PermIn 0 l.length l.toArray (vG l).toArray/\SortedIn (ltOf CZ) 0 l.length (vG l).toArray:=by
 have h:=pdq_sorts (ltOf CZ) aCQ l.toArray 0 l.length (Lib.bitLen l.length) true true (aTv _) pD (Or.inl rfl);unfold vG;exact⟨h.1,h.2⟩
theorem WC (l:List w4):(vG l).length=l.length:=by
 have:=(aCT l).1.1;simpa using this
theorem aLU {g:Gh}{w:pM}{e:TypeId}{l:List w4}{v:pN}{xs:pI}(hown:w.ownsRow 0 e 2 v l.length xs) (hF:tU (Rd g w (.pair .str (.pair .str .unit))) 2 l xs) (hn:l.length<4611686018427387904):
  Calls Tryz.prog 185 #[v,.func (.func 152) #[] #[]] w (fun en w'=>en= .returned (.tuple #[])/\w'.ownsRow 0 e 2 v l.length (xQ (vG l))/\w.grownBy w' v.ownBlock):=by
 have hlen:=WC l;have hxs:=WA hF;subst hxs;obtain⟨hx,⟨rfl,h0⟩ |⟨b,cap,cur,rfl,hb0,hbk,hnc,hcm,hcs,htk⟩⟩:=hown
 .obtain rfl:l=[]:=aTB.1 h0;have e0:vG []=[]:=aTB.1 hlen;rw[e0];refine(AnyF.slices_SortFunc_none Tryz.sortFld none 0 (.func (.func 152) #[] #[]) w).mono ?_;rintro en w' ⟨rfl,rfl⟩;exact⟨rfl,⟨rfl,.inl ⟨rfl,rfl⟩⟩,rfl,rfl,rfl,aSW _,fun _ _ _=>rfl⟩
 have hbl:b<w.heap.size:=by
  rcases aTD b w.heap.size with h|h
  .exact h
  rw[Array.getElem?_eq_none h] at hbk;cases hbk
 have hfl:=I8 l;have hH:HoldsK L2 2 w b 0 l.toArray:=by
  unfold HoldsK;rw[aCS];intro j hj;have hj':j<(xQ l).length:=by simpa using hj
  refine⟨?_,Lib.frozen_of_heap hbk _⟩;rw[Lib.cell_of_heap hbk,aTa];have h2:(cur.toList.take (l.length*2))[j]? =(xQ l)[j]? :=by rw[htk]
  rw[aTy pB,aTE] at h2;rw[h2];simp [hj']
 have eg: ∀args w,(callFunc 152 args).run Tryz.prog w= .ok (.enter 152 args) w:=fun _ _=>rfl;refine(AnyQ.slices_SortFunc_eq Tryz.sortFld 2 Tryz.isAgg110 Tryz.sizeOf110 L2 (fun _=>rfl) (fun x v hv=>by simp [L2] at hv;rcases hv with rfl|rfl<;>rfl) CZ aCQ 152 #[] b 0 cap l.toArray w eg (fun _ _ _ _ x y=>aLT x y _) hH hbl (by simpa using hn)).mono ?_
 rintro en w' ⟨rfl,m,os,hw⟩;have hd:pdq (ltOf CZ) l.toArray 0 l.toArray.size (Lib.bitLen l.toArray.size) true true=(vG l).toArray:=by
  unfold vG;simp
 rw[hd] at hw;unfold sortWorldK putRowK at hw;rw[aCS] at hw;subst hw;have hsz:(xQ (vG l)).length<=cur.size:=by rw[I8,hlen,hcs];exact Nat.mul_le_mul_right 2 hnc
 have hnew:(grow (putRow id (Go.Sort.ahead w m) b 0 (xQ (vG l)).toArray) os).heap[b]? =some (.cells (putCells id 0 (xQ (vG l)).toArray cur) e (0,0)):=by
  rw[heap_grow_old _ _ (by simpa using hbl)];simp [putRow,mapBlock,aTC,hbk,onCells]
 refine⟨rfl,⟨by rw[I8,hlen],.inr ⟨b,cap,_,rfl,hb0,hnew,hnc,hcm,?_,?_⟩⟩,rfl,rfl,rfl,by simp,fun k hk hne=>?_⟩
 .simpa[putCells] using hcs
 .have:=aLS (xQ (vG l)) cur hsz;rwa [I8,hlen] at this
 rw[heap_grow_old _ _ (by simpa using hk)];have hkb:b≠k:=fun h=>hne (by rw[h];rfl);simp [putRow,mapBlock,aTC,hkb]
@[go_sem] def a1C:List pW->List pV->Option qH
 |[(.own 0 n,none),(.val .clo (some (152,[])),none)],[.row e (.pair .str (.pair .str .unit)) l n2]=>some ⟨[n=n2,List.length l<4611686018427387904],[],[.row e (.pair .str (.pair .str .unit)) (vG l) n2]⟩
 |_,_=>none
theorem aLV {g:Gh}{k n:Nat}{v:pN}(h:g.cur k n=some v):g.tok k n v=g:=by
 have:(fun k' n'=>if k'=k/\n'=n then some v else g.cur k' n')=g.cur:=by
  funext k' n';split
  .rename_i e;rw[e.1,e.2,h]
  rfl
 show ({g with cur:=_}:Gh)=g
 cases g;simp only at this;simp only[this]
theorem aLW:yJ Tryz.prog 185 a1C:=by
 refine⟨fun _ _=>rfl,fun g w args vals L r hH ha hC hs=>?_⟩;unfold a1C at hC;split at hC
 .rename_i n e l n2;cases hC;obtain rfl:n=n2:=hs _ pD;have hn:=hs (List.length l<4611686018427387904) pD;clear hs;obtain⟨va,_,rfl,ra,vb,_,rfl,rb,hv⟩:=ha;cases hv;obtain rfl:vb= .func (.func 152) #[] #[]:=by
   rcases rb.1 with⟨h1,_⟩ |⟨_,vs,h2,h3⟩
   .cases h1
   rw[show vs=[] from h2] at h3;simpa using h3
  have hg0:pY (qP 0 [pV.row e (.pair .str (.pair .str .unit)) l n]) 0=some (.row e (.pair .str (.pair .str .unit)) l n):=rfl;obtain⟨hl,v,xs,hcur,hown,hF,hnone,hseal⟩:=hH.blk 0 _ hg0;subst hl;have hva:va=v:=by
   have:=ra.1.1;rw[hcur] at this;exact(aSG this).symm
  subst hva;have hlen:=WC l;refine(aLU hown hF hn).mono ?_;rintro en w' ⟨rfl,k1,k3⟩;have hownk: ∀b,va.ownBlock=some b->∀o,sI g (qP 0 [pV.row e (.pair .str (.pair .str .unit)) l (List.length l)]) [0] b o:=fun b hb o=>⟨0,_,by simp,hg0,va,hcur,hb⟩;have hE:=rD.row (side:=[]) (rds:=[]) (s:=(.tup [],none)) (val:= .tuple #[]) (v:=va) (xs:=xQ (vG l)) (l:=vG l) hH hlen k1 (WB _) hnone (fun u hu=>by rw[hcur] at hu;exact(aSG hu).symm) (.inr ⟨va.ownBlock,k3,hownk⟩) (fun b o hS=>by
   have hne:va.ownBlock≠some b:=fun e=>hseal b e o hS;exact aS0 (a:=⟨b,o,none⟩) (k3.block b (hH.sl b o hS) (fun e=>hne e.symm))) hseal (fun b hb=> .inr (hownk b hb)) ⟨⟨[],rfl,rfl⟩,trivial⟩
  rw[aLV hcur] at hE;refine⟨_,g,rfl,aCD hE ?_ ?_ rfl ?_ ?_ ?_⟩
  .intro i;cases i with
   |zero=>rfl
   |succ i=>rfl
  .intro i hi;simp only[q9,aSP,aT2,or_false] at hi;subst hi;exact Nat.zero_lt_one
  .intro i blk b o hi ho;cases i with
   |zero=>
    cases hi;obtain⟨u,hu,hub⟩:=ho;exact .inr ⟨0,_,hg0,u,hu,hub⟩
   |succ i=>cases hi
  .intro i t x ts u y us hi hi2;cases i with
   |zero=>cases hi
   |succ i=>cases hi
  exact⟨[],rfl,rfl⟩
 cases hC
end Go.Proofs.YtcpbaddnmpeipaaGreatDoor
namespace Go.Proofs.YtcpbaddnmpeipaaGreatDoor
open Vc
open Tryz
namespace Bs
noncomputable section
@[go_sem] abbrev DL:Ty:=(.pair .str (.pair .str (.pair .str (.pair (.list .str) (.pair (.list .str) (.pair (.int .i64) (.pair (.list (.pair .str (.pair .str .unit))) .unit)))))))
@[go_sem] abbrev DM:Ty:=(.pair .str (.pair (.list .str) (.pair (.list (.pair .str (.pair .str .unit))) (.pair (.list DL) .unit))))
@[go_sem] abbrev y9:Ty:=(.pair .str (.pair (.list .str) (.pair .str .unit)))
@[go_sem] abbrev xR:Ty:=(.pair .mref (.pair (.list (.int .u8)) .unit))
@[go_sem] abbrev NL:Ty:=(.pair (.int .i64) (.pair .str .unit))
abbrev qG:Type:=(p7×(p7×Unit))
abbrev sA:Type:=(p7×(p7×(p7×(p8×(p8×(Int×((List qG)×Unit)))))))
abbrev wI:Type:=(p7×(p8×(p7×Unit)))
abbrev sK:Type:=(p7×(p8×((List qG)×((List sA)×Unit))))
@[go_sem] abbrev I9:Nat×TI:=(24,⟨(.list (.pair .str (.pair .str .unit))),110,32,true,[]⟩)
theorem WD:sU prog I9.1 I9.2:=⟨pP,(show _/\_/\_ from⟨pP,pP,pP⟩)⟩
@[go_sem] abbrev D0:Nat×TI:=(110,⟨(.pair .str (.pair .str .unit)),0,1,false,[]⟩)
theorem IA:sU prog D0.1 D0.2:=⟨pP,(show ((_/\∃_,_/\_)\/_)/\_ from⟨.inl ⟨rfl,_,Tryz.underlying110,(show _/\_/\_/\_ from⟨rfl,pP,pP,(show _/\_/\_/\_ from⟨rfl,pP,pP,trivial⟩)⟩)⟩,(fun _=>⟨pP,1,pC,(.struct rfl Tryz.underlying110 pP (.cons pC rfl pP pP (.str Tryz.underlying9) (.cons pC rfl pP pP (.str Tryz.underlying9) .nil)))⟩)⟩)⟩
@[go_sem] abbrev A3:Nat×TI:=(24,⟨(.list (.pair .str (.pair .str .unit))),110,32,false,[]⟩)
theorem D1:sU prog A3.1 A3.2:=⟨pP,(show _/\_/\_ from⟨pP,pP,pP⟩)⟩
theorem qZ:Tryz.prog.follows .mixedOrders=true:=by kernel_rfl
@[go_sem] abbrev NM:Nat×r5:=(133,⟨[.v,.v],VY,[],[],none⟩)
theorem WE:rC prog NM:=⟨aCy,fun _ h=>by cases h⟩
@[go_sem] abbrev QQ:Nat×r5:=(80,⟨[.v,.v],VZ,[],[],none⟩)
theorem a1D:rC prog QQ:=⟨aCz,fun _ h=>by cases h⟩
@[go_sem] abbrev WF:Nat×r5:=(168,⟨[.v],W3,[],[],none⟩)
theorem aCU:rC prog WF:=⟨aCA,fun _ h=>by cases h⟩
@[go_sem] abbrev WG:Nat×r5:=(110,⟨[.v,.v],W9,[],[],none⟩)
theorem aCV:rC prog WG:=⟨aCP,fun _ h=>by cases h⟩
@[go_sem] abbrev NN:Nat×r5:=(78,⟨[.p xR [1]],W4,[],[],none⟩)
theorem WH:rC prog NN:=⟨aCE,fun _ h=>by cases h⟩
@[go_sem] abbrev QR:Nat×r5:=(53,⟨[.p xR [1]],W5,[],[],none⟩)
theorem a1E:rC prog QR:=⟨aCH,fun _ h=>by cases h⟩
@[go_sem] abbrev aCW:Nat×r5:=(185,⟨[.r,.v],a1C,[],[],none⟩)
theorem aLX:rC prog aCW:=⟨aLW,fun _ h=>by cases h⟩
@[go_sem] abbrev QS:Nat×r5:=(164,⟨[.r],W8,[],[],none⟩)
theorem aCX:rC prog QS:=⟨aCO,fun _ h=>by cases h⟩
@[go_sem] abbrev QT:Nat×r5:=(163,⟨[.v],noC,[],[],some a1s⟩)
theorem aCY:rC prog QT:=aCC
end
end Bs
namespace Bs
noncomputable section
def slices_AppendSeq_api_Field_api_Field_F1_step1:w4→(List qG)→Option ((List qG)⊕(List qG)):=fun O Z=>if ((Z.length)+([O]:List qG).length)*32≤140737488355328 then some (.inl (Z++([O]:List qG))) else none
def slices_AppendSeq_api_Field_api_Field_F1 (O:(List qG)):Option (List qG):=if List.length O≤4611686018427387904 then tI (F0 (slices_AppendSeq_api_Field_api_Field_F1_step1) (QP O) ([]:List qG)) fun Z=>some (Z) else none
section
variable (O:(List qG))
abbrev a1F:List pW:=[(.nilS,none),(.val .clo (some (186,[(0,0)])),none)]
abbrev a1G:List pV:=[.cells (.list (.pair .str (.pair .str .unit))) O []]
@[go_sem] def a1H:qH:=⟨[((slices_AppendSeq_api_Field_api_Field_F1 O)).isSome=true],[(.own 1 ((val (slices_AppendSeq_api_Field_api_Field_F1 O)).length),none)],[.cells (.list (.pair .str (.pair .str .unit))) O [],.row 110 (.pair .str (.pair .str .unit)) (val (slices_AppendSeq_api_Field_api_Field_F1 O)) ((val (slices_AppendSeq_api_Field_api_Field_F1 O)).length)]⟩
def aCZ:List pW→List pV→Option qH:=rQ (V:=(List qG)) (fun x=>a1F) (a1G) fun x=>a1H x
@[go_sem] def aQq:aCZ (no_index a1F) (no_index (a1G O))=some (a1H O):=rR (fun a0 b0 h1 h2=>by cases h1;cases h2;rfl) O
end
@[go_sem] abbrev a1I:Nat×r5:=(203,⟨[.v,.f [((.list (.pair .str (.pair .str .unit))),[])]],aCZ,[],[0],none⟩)
def a1J:qW prog [I9] (qY []):=⟨⟨WD,trivial⟩,rL,qZ⟩
def WI:qW prog [I9,D0] (qY []):=⟨⟨WD,⟨IA,trivial⟩⟩,a1J.Γ,qZ⟩
def aC0:rC prog a1I:=by
 refine rS a1J func203 (c:=_) rfl (N:=13) pP (ts:=[(4,none)]) rfl (fun _ _=>rfl) ?_;intro O hs hrow;dsimp only[a1F,a1G,a1H,rM,qP,qU,r6,rP,Nat.reduceAdd] at hs hrow|-;have hz:=hs;obtain⟨z0,d⟩:=aSF.1 hz
 try rw[rU d]
 clear hz hs;unfold slices_AppendSeq_api_Field_api_Field_F1 at d;refine pU a1J ?_;refine qC (pU WI ?_);refine rN ?_;obtain⟨hgF2,d⟩:=pZ d;obtain⟨y1,hy1,d⟩:=v6 d;refine aLJ aLN aLM pQ pQ hgF2 hy1 [(2,.val .ref (some (1,0)),none)] (fun Z=>[(2,.val .ref (some (1,0)),none),(5,.val .ref (some (3,0)),none)]) (fun x=>[.cells (.list (.pair .str (.pair .str .unit))) O [],.cells (.rl 110 (.pair .str (.pair .str .unit))) (some (2,(x.length))) [],.row 110 (.pair .str (.pair .str .unit)) x (x.length)]) (fun Z x=>[.cells (.list (.pair .str (.pair .str .unit))) O [],.cells (.rl 110 (.pair .str (.pair .str .unit))) (some (2,(x.length))) [],.row 110 (.pair .str (.pair .str .unit)) x (x.length),.cells (.pair .str (.pair .str .unit)) Z []]) 2 ⟨[2],[(0,0),(1,1),(2,2)]⟩ pQ pQ (aT8 pQ) pQ (aT8 pQ) (fun _=>aT8 rfl) (fun _=>by rfl) (fun _ _=>by rfl) (fun _ _=>aT8 rfl) (fun _=>rfl) pQ ?_ ?_
 .intro Z aA w1 e g;refine⟨?_,?_⟩
  .dsimp only[NJ,aCN,uJ,qP,qU,Nat.reduceAdd,List.toList_toArray];refine qV WI ?_;exact aLK ⟨[2,5],[(0,0),(1,1),(2,2),(3,3)]⟩ pQ
  unfold slices_AppendSeq_api_Field_api_Field_F1_step1 at e;dsimp only[qP,qU,Nat.reduceAdd] at e|-;refine rN ?_;obtain⟨X,e⟩:=pZ e;refine qV WI ?_ (hp:=by exact⟨pO,X⟩)
  refine rK ?_;cases e;exact aLL ⟨[],[(0,0),(1,1),(2,2)]⟩ _ rfl pQ
 rintro aA rfl;dsimp only[qP,qU,Nat.reduceAdd] at d|-;refine rK (q8 (pU WI ?_));refine qB ?_;cases d;exact p9 [(0,0),(1,2)]
def slices_Collect_api_Field_api_Field_F1 (O:(List qG)):Option (List qG):=(slices_AppendSeq_api_Field_api_Field_F1 O).bind fun Z=>some (Z)
section
variable (O:(List qG))
abbrev a1K:List pW:=[(.val .clo (some (186,[(0,0)])),none)]
abbrev a1L:List pV:=[.cells (.list (.pair .str (.pair .str .unit))) O []]
@[go_sem] def a1M:qH:=⟨[((slices_Collect_api_Field_api_Field_F1 O)).isSome=true],[(.own 1 ((val (slices_Collect_api_Field_api_Field_F1 O)).length),none)],[.cells (.list (.pair .str (.pair .str .unit))) O [],.row 110 (.pair .str (.pair .str .unit)) (val (slices_Collect_api_Field_api_Field_F1 O)) ((val (slices_Collect_api_Field_api_Field_F1 O)).length)]⟩
def aC1:List pW→List pV→Option qH:=rQ (V:=(List qG)) (fun x=>a1K) (a1L) fun x=>a1M x
@[go_sem] def aQr:aC1 (no_index a1K) (no_index (a1L O))=some (a1M O):=rR (fun a0 b0 h1 h2=>by cases h1;cases h2;rfl) O
end
@[go_sem] abbrev aC2:Nat×r5:=(184,⟨[.f [((.list (.pair .str (.pair .str .unit))),[])]],aC1,[],[0],none⟩)
def aC3:qW prog [A3] (qY [a1I]):=⟨⟨D1,trivial⟩,qJ aC0 rL,qZ⟩
def aLY:qW prog [] (qY [a1I]):=⟨trivial,qJ aC0 rL,qZ⟩
def aLZ:rC prog aC2:=by
 refine rS aC3 func184 (c:=_) rfl (N:=5) pP (ts:=[(2,none)]) rfl (fun _ _=>rfl) ?_;intro O hs hrow;dsimp only[a1K,a1L,a1M,rM,qP,qU,r6,rP,Nat.reduceAdd] at hs hrow|-;have hz:=hs;obtain⟨z0,d⟩:=aSF.1 hz
 try rw[rU d]
 clear hz hs;unfold slices_Collect_api_Field_api_Field_F1 at d;refine pU aC3 ?_;obtain⟨Z,hv1,hw1,d⟩:=rG d
 try simp only[go_sem] at hw1
 refine pU aLY ?_ (hp:=by exact⟨pO,(rE hv1)⟩) (h:=by simp only[go_sem,hw1];rfl)
 refine qB ?_;cases d;exact p9 [(0,0),(1,66)]
def aC4 (O:(List qG)):Unit:=()
section
variable (O:(List qG))
abbrev a1N:List pW:=[(.val (.list (.pair .str (.pair .str .unit))) O,none)]
abbrev a1O:List pV:=[]
@[go_sem] def a1P:qH:=⟨[],[(.val .clo (some (186,[(0,0)])),none)],[.cells (.list (.pair .str (.pair .str .unit))) O []]⟩
def aC5:List pW→List pV→Option qH:=rQ (V:=(List qG)) (a1N) (fun x=>a1O) fun x=>a1P x
@[go_sem] def aQs:aC5 (no_index (a1N O)) (no_index a1O)=some (a1P O):=rR (fun a0 b0 h1 h2=>by cases h1;cases h2;rfl) O
end
@[go_sem] abbrev aC6:Nat×r5:=(151,⟨[.v],aC5,[],[],none⟩)
def a1Q:qW prog [A3] (qY []):=⟨⟨D1,trivial⟩,rL,qZ⟩
def aL0:rC prog aC6:=by
 refine rS a1Q func151 (c:=_) rfl (N:=4) pP (ts:=[(2,none)]) rfl (fun _ _=>rfl) ?_;intro O hs hrow;dsimp only[a1N,a1O,a1P,rM,qP,qU,r6,rP,Nat.reduceAdd] at hs hrow|-;obtain⟨z0,d⟩: ∃z,(aC4 O)=z:=⟨_,rfl⟩
 try rw[d]
 unfold aC4 at d;refine pU a1Q ?_;refine pU a1Q ?_;refine qB ?_;cases d;exact p9 [(0,0)]
def slices_SortedFunc_api_Field_api_Field_F1_blocks_sortedF1 (O:(List qG)):Option ((List qG)×Nat):=(slices_Collect_api_Field_api_Field_F1 O).bind fun Z=>if List.length Z<4611686018427387904 then some (((vG Z),(Z.length))) else none
section
variable (O:(List qG))
abbrev a1R:List pW:=[(.val .clo (some (186,[(0,0)])),none),(.val .clo (some (152,[])),none)]
abbrev a1S:List pV:=[.cells (.list (.pair .str (.pair .str .unit))) O []]
@[go_sem] def a1T:qH:=⟨[((slices_SortedFunc_api_Field_api_Field_F1_blocks_sortedF1 O)).isSome=true],[(.own 1 ((val (slices_SortedFunc_api_Field_api_Field_F1_blocks_sortedF1 O)).2),none)],[.cells (.list (.pair .str (.pair .str .unit))) O [],.row 110 (.pair .str (.pair .str .unit)) ((val (slices_SortedFunc_api_Field_api_Field_F1_blocks_sortedF1 O)).1) ((val (slices_SortedFunc_api_Field_api_Field_F1_blocks_sortedF1 O)).2)]⟩
def aC7:List pW→List pV→Option qH:=rQ (V:=(List qG)) (fun x=>a1R) (a1S) fun x=>a1T x
@[go_sem] def aQt:aC7 (no_index a1R) (no_index (a1S O))=some (a1T O):=rR (fun a0 b0 h1 h2=>by cases h1;cases h2;rfl) O
end
@[go_sem] abbrev aC8:Nat×r5:=(150,⟨[.f [((.list (.pair .str (.pair .str .unit))),[])],.v],aC7,[],[0],none⟩)
def QU:qW prog [A3] (qY [aC2,aCW]):=⟨⟨D1,trivial⟩,qJ aLZ (qJ aLX rL),qZ⟩
def aL1:rC prog aC8:=by
 refine rS QU func150 (c:=_) rfl (N:=12) pP (ts:=[(4,none)]) rfl (fun _ _=>rfl) ?_;intro O hs hrow;dsimp only[a1R,a1S,a1T,rM,qP,qU,r6,rP,Nat.reduceAdd] at hs hrow|-;have hz:=hs;obtain⟨z0,d⟩:=aSF.1 hz
 try rw[rU d]
 clear hz hs;unfold slices_SortedFunc_api_Field_api_Field_F1_blocks_sortedF1 at d;refine pU QU ?_;obtain⟨Z,hv1,hw1,d⟩:=rG d
 try simp only[go_sem] at hw1
 refine pU QU ?_ (hp:=by exact⟨pO,(rE hv1)⟩) (h:=by simp only[go_sem,hw1];rfl)
 obtain⟨X,d⟩:=pZ d;refine pU QU ?_ (hp:=by exact⟨pO,X⟩)
 refine pU QU ?_;refine qB ?_;cases d;exact p9 [(0,0),(1,66)]
def blocks_sorted (O:(List qG)):Option ((List qG)×Nat):=(slices_SortedFunc_api_Field_api_Field_F1_blocks_sortedF1 O).bind fun Z=>some ((Z.1,Z.2))
section
variable (O:(List qG))
abbrev a1U:List pW:=[(.val (.list (.pair .str (.pair .str .unit))) O,none)]
abbrev a1V:List pV:=[]
@[go_sem] def a1W:qH:=⟨[((blocks_sorted O)).isSome=true],[(.own 0 ((val (blocks_sorted O)).2),none)],[.row 110 (.pair .str (.pair .str .unit)) ((val (blocks_sorted O)).1) ((val (blocks_sorted O)).2)]⟩
def aC9:List pW→List pV→Option qH:=rQ (V:=(List qG)) (a1U) (fun x=>a1V) fun x=>a1W x
@[go_sem] def blocks_sortedC_eq:aC9 (no_index (a1U O)) (no_index a1V)=some (a1W O):=rR (fun a0 b0 h1 h2=>by cases h1;cases h2;rfl) O
end
@[go_sem] abbrev aL2:Nat×r5:=(116,⟨[.v],aC9,[],[],none⟩)
def a1X:qW prog [A3] (qY [aC6,aC8]):=⟨⟨D1,trivial⟩,qJ aL0 (qJ aL1 rL),qZ⟩
def blocks_sorted_con:rC prog aL2:=by
 refine rS a1X func116 (c:=_) rfl (N:=6) pP (ts:=[(2,none)]) rfl (fun _ _=>rfl) ?_;intro O hs hrow;dsimp only[a1U,a1V,a1W,rM,qP,qU,r6,rP,Nat.reduceAdd] at hs hrow|-;have hz:=hs;obtain⟨z0,d⟩:=aSF.1 hz
 try rw[rU d]
 clear hz hs;unfold blocks_sorted at d;refine pU a1X ?_;obtain⟨Z,hv1,hw1,d⟩:=rG d
 try simp only[go_sem] at hw1
 refine pU a1X ?_ (hp:=by exact⟨pO,(rE hv1)⟩) (h:=by simp only[go_sem,hw1];rfl)
 refine qB ?_;cases d;exact p9 [(0,97)]
attribute [irreducible] slices_AppendSeq_api_Field_api_Field_F1 slices_Collect_api_Field_api_Field_F1 slices_SortedFunc_api_Field_api_Field_F1_blocks_sortedF1 blocks_sorted
end
end Bs
end Go.Proofs.YtcpbaddnmpeipaaGreatDoor
section
end
namespace Go.Proofs.YtcpbaddnmpeipaaGreatDoor
open Vc Go.RowKit
open Tryz
abbrev GC:Ty:= .pair .str (.pair .str .unit)
@[go_sem] def WJ (F:List w4->Option (List w4×Nat)):List pW->List pV->Option qH
 |[(.own 0 n,none)],[.row 110 (.pair .str (.pair .str .unit)) l n2]=>some ⟨[n=n2,(F l).isSome=true],[(.own 1 (val (F l)).2,none)],[.dead,.row 110 (.pair .str (.pair .str .unit)) (val (F l)).1 (val (F l)).2]⟩
 |_,_=>none
theorem aL3 {g g1:Gh}{w:pM}{b:Nat}{cur:Array pN}{e:TypeId}(hbk:w.heap[b]? =some (.cells cur e (0,0))) (l:List w4) (htk:cur.toList.take (l.length*2)=xQ l) (hS: ∀o,o<l.length*2->g1.S b o):
  yG (Rd g1 w GC) w g1.S 2 b 0 l:=by
 refine I1 (WB l) (fun j u hu=>?_) (fun j hj=>?_)
 .rw[aTa,Lib.cell_of_heap hbk];have hj:j<(xQ l).length:=(aSR.1 hu).1;rw[I8] at hj;rw[<-htk,aTy hj,aTE] at hu;exact hu
 rw[aTa];exact hS j hj
theorem aL4 {f:FuncId}{C:List pW->List pV->Option qH}{F:List w4->Option (List w4×Nat)}(h:yJ prog f C)
  (hC: ∀l,C [(.val (.list GC) l,none)] []=some ⟨[(F l).isSome=true],[(.own 0 (val (F l)).2,none)],[.row 110 GC (val (F l)).1 (val (F l)).2]⟩):yJ prog f (WJ F):=by
 refine⟨h.1,fun g w args vals L r hH ha hC' hs=>?_⟩;unfold WJ at hC';split at hC'
 .rename_i n l n2;cases hC';obtain rfl:n=n2:=hs _ pD;have hsome:=hs ((F l).isSome=true) pD;clear hs;obtain⟨va,_,rfl,ra,hv⟩:=ha;cases hv;have hg0:pY (qP 0 [pV.row 110 GC l n]) 0=some (.row 110 GC l n):=rfl;obtain⟨hl,v,xs,hcur,hown,hF,hnone,hseal⟩:=hH.blk 0 _ hg0;subst hl;have hva:va=v:=by
   have:=ra.1.1;rw[hcur] at this;exact(aSG this).symm
  subst hva;have hxs:=WA hF;subst hxs
  let g1:Gh:=⟨fun b o=>va.ownBlock=some b/\o<l.length*2,fun _=>none,fun _ _=>none⟩
  have hH1:s5 g1 w (qP 0 []):=⟨fun _ _ h=>(by cases h),fun _ _ _ _ _ _ _ h=>(by cases h),fun b o h=>KI hown h.1,⟨hH.tab.1,fun _ _ _ _ h=>(by cases h)⟩⟩;have hrd:sW g1 w (.list GC) l va:=by
   refine .inr ⟨rfl,?_⟩;obtain⟨hx,⟨rfl,h0⟩ |⟨b,cap,cur,rfl,hb0,hbk,hnc,hcm,hcs,htk⟩⟩:=hown
   .obtain rfl:l=[]:=aTB.1 h0;exact⟨none,0,rfl,aSW _,.inl rfl⟩
   exact⟨some ⟨b,0,none⟩,cap,rfl,hnc,.inr ⟨b,0,rfl,aL3 (g:=g) hbk l htk (fun o ho=>⟨rfl,ho⟩)⟩⟩
  have hcall:=h.2 g1 w [(.val (.list GC) l,none)] [va] [] _ hH1 ⟨_,_,rfl,⟨hrd,trivial⟩,rfl⟩ (hC l) (fun p hp=>by simp only[aST] at hp;rw[hp];exact hsome);refine hcall.mono ?_;rintro en w' ⟨v',g',rfl,ho⟩;have hbel:Below w.heap.size w w':=⟨ho.fr.os,ho.fr.tape,ho.fr.output,ho.fr.size,fun b hb=>ho.fr.blk b hb fun o ⟨i,blk,h1,_⟩=>(by cases h1)⟩;have hret:rH g' w' (.own 0 (val (F l)).2,none) v':=ho.ret;have hg1:pY (qP 0 [pV.row 110 GC (val (F l)).1 (val (F l)).2]) 0=some (.row 110 GC (val (F l)).1 (val (F l)).2):=rfl;obtain⟨kl,v2,xs2,kcur,kown,kF,knone,kseal⟩:=ho.heap.blk 0 _ hg1;have hv2:v2=v':=by
   have:=hret.1.1;rw[kcur] at this;exact aSG this
  subst hv2;have hxs2:=WA kF;subst hxs2;generalize hfl:(val (F l)).1=l' at*;generalize hfn:(val (F l)).2=n' at*;have hnewb: ∀b,v2.ownBlock=some b->w.heap.size<=b:=fun b hb=>by
   rcases ho.perm 0 _ b 0 rfl ⟨v2,kcur,hb⟩ with h1|⟨i,blk,h1,_⟩
   .exact h1
   cases h1
  have hlt: ∀b o,g.S b o->v2.ownBlock≠some b:=fun b o h e1=>by have:=hH.sl b o h;have:=hnewb b e1;omega
  have hshape:=hret.1.2;refine⟨_,F1 g 1 n' v2,rfl,fun b' o h=>⟨h,aS0 (a:=⟨b',o,none⟩) (hbel.block b' (hH.sl b' o h))⟩,⟨fun i blk h=>?_,fun i j bi bj b' o hij hi hj h1 h2=>?_,fun b' o h=>aTd (hH.sl b' o h) hbel.size,HI hH.tab.1 hbel.size fun b' h=>hbel.block b' (aTd h hH.tab.1.1),fun i blk b' o h h1=>?_⟩,
   ⟨⟨CY ..,hshape⟩,trivial⟩,⟨hbel.os,hbel.tape,hbel.output,hbel.size,fun b hb _=>hbel.block b hb,fun b o hb _=>⟨aS0 (a:=⟨b,o,none⟩) (hbel.block b hb),aTq (a:=⟨b,o,none⟩) (hbel.block b hb)⟩,fun b o hS=> .inl hS,fun b s h=> .inl ((BJ (hbel.block b (BI h))).trans h)⟩,fun i blk b' o h h1=>?_,fun _ _ _ _ _=>rfl,fun i t x ts u y us h=>?_,fun i p hi h=>h,fun i q u hi h=>?_⟩
  .match i,h with
   |0,h=>cases h;trivial
   |1,h=>
    cases h;exact⟨kl,v2,_,CY ..,kown,WB _,fun q hq=>a1z g 1 n' _ hq,fun b' hb o hs=>hlt b' o hs hb⟩
   |i+2,h=>simp [qP,pY] at h
  .match i,j,hi,hj with
   |0,_,hi,_=>cases hi;exact h1
   |_,0,_,hj=>cases hj;exact h2
   |1,1,_,_=>exact hij rfl
   |i+2,_,hi,_=>simp [qP,pY] at hi
   |1,j+2,_,hj=>simp [qP,pY] at hj
  .match i,h with
   |0,h=>cases h;exact h1.elim
   |1,h=>
    cases h;obtain⟨v,h3,h4⟩:=h1;rw[CY] at h3;obtain rfl:=aSG h3;exact aTA hH.tab.1.1 (hnewb b' h4)
   |i+2,h=>simp [qP,pY] at h
  .match i,h with
   |0,h=>cases h;exact h1.elim
   |1,h=>
    cases h;obtain⟨v,h3,h4⟩:=h1;rw[CY] at h3;obtain rfl:=aSG h3;exact .inl (hnewb b' h4)
   |i+2,h=>simp at h
  .match i,h with
   |0,h=>cases h
   |i+1,h=>simp at h
  match i,hi with
  |0,_=>simpa[F1] using h
 cases hC'
theorem aL5:yJ prog 116 (WJ Bs.blocks_sorted):=
 aL4 Bs.blocks_sorted_con.1 (fun l=>Bs.blocks_sortedC_eq l)
end Go.Proofs.YtcpbaddnmpeipaaGreatDoor
namespace Go.Proofs.YtcpbaddnmpeipaaGreatDoor.Vc
open Go.RowKit
section
variable {P:Program}{R:Bool}
theorem aL6 {c:Code}{s:St}{Q:Ex->St->Prop}(env':List (Nat×pW)) (h0: ∀(g:Gh) (w:pM) (i:Nat) (v:pN),rH g w (lk s.env i) v->rH g w (lk env' i) v)
  (h:Ev R P c ⟨env',s.H,s.nb,s.N,s.np⟩ Q):Ev R P c s Q:=by
 intro ro hro A L g0 w0 g a w B hB hr hg hn;exact h ro hro A L g0 w0 g a w B hB ⟨fun i=>h0 _ _ _ _ (hr.env i),hr.heap,hr.size,hr.nb,hr.def_,hr.np⟩ hg hn
@[go_sem] def WK:pW->pW
 |(.val .clo (some (f,[])),_)=>(.val .fn (some f),none)
 |(.val .clo none,_)=>(.val .fn none,none)
 |s=>s
@[go_sem] def QV (i:Nat):List (Nat×pW)->List (Nat×pW)
 |[]=>[]
 |(j,s)::r=>(j,if j=i then WK s else s)::QV i r
theorem aDa {i:Nat}: ∀{env:List (Nat×pW)}{j:Nat},lk (QV i env) j=if j=i then WK (lk env j) else lk env j
 |[],j=>by simp only[QV,lk];split<;>rfl
 |(k,s)::r,j=>by
  simp only[QV,lk];split
  .rename_i h;subst h;rfl
  exact aDa
theorem aL7 {g:Gh}{w:pM}{s:pW}{v:pN}(h:rH g w s v):rH g w (WK s) v:=by
 unfold WK;split
 .rename_i f k;refine⟨?_,trivial⟩;rcases h.1 with⟨h1,_⟩ |⟨_,vs,h2,h3⟩
  .cases h1
  rw[show vs=[] from h2] at h3;exact .inr ⟨rfl,h3⟩
 .rename_i k;refine⟨?_,trivial⟩;rcases h.1 with⟨h1,_⟩ |⟨_,h2⟩
  .cases h1
  exact .inr ⟨rfl,h2⟩
 exact h
theorem aDb {c:Code}{s:St}{Q:Ex->St->Prop}(i:Nat) (h:Ev R P c ⟨QV i s.env,s.H,s.nb,s.N,s.np⟩ Q):Ev R P c s Q:=by
 refine aL6 _ (fun g w j v hv=>?_) h;rw[aDa];split
 .exact aL7 hv
 exact hv
@[go_sem] def aDc (q:Nat×(Nat×Nat)×(Nat×Nat)):Nat×Nat×(Nat×Nat)×(Nat×Nat)->Nat×Nat×(Nat×Nat)×(Nat×Nat)
 |(0,_)=>(0,q)
 |(n+1,x)=>(n+1,x)
@[go_sem] def CA (q:Nat×(Nat×Nat)×(Nat×Nat)):(t:Ty)->t.den->t.den
 | .ap,x=>aDc q x
 | .pair a b,x=>(CA q a x.1,CA q b x.2)
 | .bool,x=>x
 | .int _,x=>x
 | .str,x=>x
 | .list _,x=>x
 | .unit,x=>x
 | .ref,x=>x
 | .clo,x=>x
 | .mp,x=>x
 | .mref,x=>x
 | .fn,x=>x
 | .rl _ _,x=>x
theorem aL8 {g:Gh}{w:pM}{q:Nat×(Nat×Nat)×(Nat×Nat)}: ∀{x:Nat×Nat×(Nat×Nat)×(Nat×Nat)}{cs:pI},ES g w x cs->ES g w (aDc q x) cs
 |(0,i,(k3,n3),(k4,n4)),cs,h=>by
  obtain⟨a,⟨b1,b2⟩,d1,d2⟩:=q;rcases h with⟨_,h⟩ |⟨h,_⟩
  .exact .inl ⟨rfl,h⟩
  .exact absurd rfl h
 |(n+1,x),cs,h=>h
theorem a1Y {g:Gh}{w:pM}{q:Nat×(Nat×Nat)×(Nat×Nat)}: ∀{t:Ty}{x:t.den}{cs:pI},Rd g w t x cs->Rd g w t (CA q t x) cs
 | .ap,_,_,h=>aL8 h
 | .pair a b,x,cs,⟨c1,c2,e,h1,h2⟩=>⟨c1,c2,e,a1Y h1,a1Y h2⟩
 | .bool,_,_,h=>h
 | .int _,_,_,h=>h
 | .str,_,_,h=>h
 | .list _,_,_,h=>h
 | .unit,_,_,h=>h
 | .ref,_,_,h=>h
 | .clo,_,_,h=>h
 | .mp,_,_,h=>h
 | .mref,_,_,h=>h
 | .fn,_,_,h=>h
 | .rl _ _,_,_,h=>h
theorem QW (q:Nat×(Nat×Nat)×(Nat×Nat)) (u:Ty): ∀(t:Ty) (x:t.den) (o:Nat),qT (.list u) t (CA q t x) o=qT (.list u) t x o
 | .pair a b,x,0=>by
  have h: ¬(Ty.pair a b= .list u):=fun h=>by cases h
  unfold qT;rw[aT0 h,aT0 h];show (if 0<a.cells then qT (.list u) a (CA q a x.1) 0 else qT (.list u) b (CA q b x.2) 0)=_;rw[QW q u a x.1 0,QW q u b x.2 0]
 | .pair a b,x,o+1=>by
  show (if o+1<a.cells then qT (.list u) a (CA q a x.1) (o+1) else qT (.list u) b (CA q b x.2) (o+1-a.cells))=_;rw[QW q u a x.1 (o+1),QW q u b x.2 (o+1-a.cells)];rfl
 | .ap,x,0=>by
  have h: ¬(Ty.ap= .list u):=fun h=>by cases h
  unfold qT;rw[aT0 h,aT0 h]
 | .ap,x,o+1=>rfl
 | .bool,_,_=>rfl
 | .int _,_,_=>rfl
 | .str,_,_=>rfl
 | .list _,_,_=>rfl
 | .unit,_,_=>rfl
 | .ref,_,_=>rfl
 | .clo,_,_=>rfl
 | .mp,_,_=>rfl
 | .mref,_,_=>rfl
 | .fn,_,_=>rfl
 | .rl _ _,_,_=>rfl
@[go_sem] def aDd (q:Nat×(Nat×Nat)×(Nat×Nat)) (i:Nat):Option pV->List (Nat×pV)->List (Nat×pV)
 |some (.cells t x ts),H=>(i,.cells t (CA q t x) ts)::H
 |_,H=>H
@[go_sem] def NO (i:Nat) (q:Nat×(Nat×Nat)×(Nat×Nat)) (s:St):St:=⟨s.env,aDd q i (pY s.H i) s.H,s.nb,s.N,s.np⟩
theorem aDe {B:Nat}{A:Nat->Nat->Prop}{L:List pV}{g0 g:Gh}{w0 w:pM}{s:St}{a:Act}(hr:uM B g w s a) (hg:sX A L g0 w0 g w s.H) (i:Nat) (q:Nat×(Nat×Nat)×(Nat×Nat)):
  uM B g w (NO i q s) a/\sX A L g0 w0 g w (NO i q s).H:=by
 unfold NO;cases hb:pY s.H i with
 |none=>exact⟨hr,hg⟩
 |some blk=>
  cases blk with
  |cells t x ts=>
   simp only[aDd];have hget: ∀j b,pY ((i,pV.cells t (CA q t x) ts)::s.H) j=some b->(j=i/\b= .cells t (CA q t x) ts)\/(j≠i/\pY s.H j=some b):=by
    intro j b hjb;simp only[pY] at hjb;split at hjb
    .rename_i e1;exact .inl ⟨e1.symm,(aSG hjb).symm⟩
    rename_i e1;exact .inr ⟨Ne.symm e1,hjb⟩
   have howns: ∀j b bb o,pY ((i,pV.cells t (CA q t x) ts)::s.H) j=some b->rY g j b bb o->∃b0,pY s.H j=some b0/\rY g j b0 bb o:=by
    intro j b bb o hj ho;rcases hget j b hj with⟨rfl,rfl⟩ |⟨_,h1⟩
    .exact⟨_,hb,ho⟩
    exact⟨b,h1,ho⟩
   refine⟨⟨hr.env,⟨fun j b hj=>?_,fun j k bj bk b o hjk h1 h2 o1 o2=>?_,hr.heap.sl,hr.heap.tab.1,fun j blk b o hj ho=>?_⟩,hr.size,hr.nb,hr.def_,hr.np⟩,⟨hg.shut,hg.fr,fun j b bb o hj ho=>?_,hg.J,hg.live,fun j u y us hj hb'=>?_,hg.cur⟩⟩
   .rcases hget j b hj with⟨rfl,rfl⟩ |⟨_,h1⟩
    .obtain⟨p,cs,h1,h2,h3,h4,h5,h6⟩:=hr.heap.blk j _ hb;refine⟨p,cs,h1,a1Y h2,h3,h4,h5,fun o k hk=>?_⟩;obtain⟨u,l,v,k1,k2,k3⟩:=h6 o k hk;exact⟨u,l,v,(QW q u t x o).trans k1,k2,k3⟩
    exact hr.heap.blk j b h1
   .obtain⟨c1,k1,k2⟩:=howns j bj b o h1 o1;obtain⟨c2,k3,k4⟩:=howns k bk b o h2 o2;exact hr.heap.dis j k c1 c2 b o hjk k1 k3 k2 k4
   .obtain⟨c1,k1,k2⟩:=howns j blk b o hj ho;exact hr.heap.tab.2 j c1 b o k1 k2
   .obtain⟨c1,k1,k2⟩:=howns j b bb o hj ho;exact hg.perm j c1 bb o k1 k2
   .rcases hget j _ hb' with⟨rfl,h1⟩ |⟨_,h1⟩
    .cases h1;exact hg.ty j t x ts hj hb
    .exact hg.ty j u y us hj h1
  |_=>exact⟨hr,hg⟩
theorem aL9 {c:Code}{s:St}{Q:Ex->St->Prop}(i:Nat) (q:Nat×(Nat×Nat)×(Nat×Nat)) (h:Ev R P c (NO i q s) Q):Ev R P c s Q:=by
 intro ro hro A L g0 w0 g a w B hB hr hg hn;obtain⟨h1,h2⟩:=aDe hr hg i q;exact h ro hro A L g0 w0 g a w B hB h1 h2 hn
theorem aDf {c:Code}{s:St}{Q:Ex->St->Prop}(i:Nat) (q:Nat×(Nat×Nat)×(Nat×Nat)) (h:Ev R P c s (fun e s=>Q e (NO i q s))):Ev R P c s Q:=by
 intro ro hro A L g0 w0 g a w B hB hr hg hn;refine aUh (h ro hro A L g0 w0 g a w B hB hr hg hn) fun x a' w' hp=>?_;obtain⟨e,g',s',h1,h2,h3,h4,h5⟩:=hp;obtain⟨k1,k2⟩:=aDe h3 h4 i q;exact⟨e,g',_,h1,h2,k1,k2,h5⟩
theorem yX {c:Code}{s:St}{Q:Ex->St->Prop}(i:Nat) (q:Nat×(Nat×Nat)×(Nat×Nat)) {t:Ty}{x x2:t.den}{ts:pG}(hb:pY s.H i=some (.cells t x ts)) (hx:CA q t x=x2)
  (h:Ev R P c ⟨s.env,(i,.cells t x2 ts)::s.H,s.nb,s.N,s.np⟩ Q):Ev R P c s Q:=by
 refine aL9 i q ?_;unfold NO;rw[hb];subst hx;exact h
end
def rW (e:TypeId) (t:Ty) (o:Option (List t.den)) (n:Nat):pV:=match o with
 |some l=> .row e t l n
 |none=> .grow e t.cells n
@[go_sem high] theorem aQu (e:TypeId) (t:Ty) (l:List t.den) (n:Nat):rW e t (some l) n= .row e t l n:=rfl
@[go_sem high] theorem aQv (e:TypeId) (t:Ty) (n:Nat):rW e t none n= .grow e t.cells n:=rfl
theorem A4 {e:TypeId}{t:Ty}{o o2:Option (List t.den)}{n n2:Nat}(h:rW e t o n=rW e t o2 n2):o=o2/\n=n2:=by
 cases o<;>cases o2<;>simp only[rW] at h<;>cases h<;>exact⟨rfl,rfl⟩
@[go_sem high] theorem aMa {e:TypeId}{t:Ty}(ht:t.pure=true) (k n:Nat) (a:sQ) (o:Option (List t.den)) (m:Nat):
  xG k n a (some (rW e t o m))=if (!zV k (s7 a.ws))=true then some ⟨(.own a.n n,none)::a.args,rW e t o m::a.H,.tok k::a.ws,a.n+1⟩ else none:=by
 cases o<;>simp [rW,xG,ht]
@[go_sem high] theorem aQw (W:List rJ) (e:TypeId) (t:Ty) (o:Option (List t.den)) (n:Nat):JU W (rW e t o n)=some (rW e t o n):=by
 cases o<;>rfl
@[go_sem high] theorem aMb (base m c:Nat) (W:List rJ) {e:TypeId}{t:Ty}(ht:t.pure=true) (o:Option (List t.den)) (n:Nat):y5 base m c W (rW e t o n)=some (base+c,rW e t o n):=by
 cases o<;>simp [rW,y5,ht]
@[go_sem high] theorem aMc (k:Nat) {e:TypeId}{t:Ty}(ht:t.pure=true) (o:Option (List t.den)) (n:Nat):w6 k (rW e t o n)=some (k,rW e t o n):=by
 cases o<;>simp [rW,w6,ht]
@[go_sem high] theorem aMd (m:pG) {e:TypeId}{t:Ty}(ht:t.pure=true) (o:Option (List t.den)) (n:Nat):yU m (some (rW e t o n))=rW e t o n:=by
 cases o<;>simp [rW,yU,ht]
theorem A5 {α β:Type}{o:Option α}{f:α->Option β}{y:β}(h:o.bind f=some y): ∃x,o=some x/\f x=some y:=by
 cases o with
 |none=>cases h
 |some x=>exact⟨x,rfl,h⟩
theorem A6 {P:Program}{R:Bool}{c:Code}{s:St}{Q:Ex->St->Prop}(k:Nat) {e:TypeId}{t:Ty}{l:List t.den}{n:Nat}(hk:pY s.H k=some (.row e t l n)) (h:l.length=n->Ev R P c s Q):Ev R P c s Q:=by
 intro ro hro A L g0 w0 g a w B hB hr hg hn;exact h (hr.heap.blk k _ hk).1 ro hro A L g0 w0 g a w B hB hr hg hn
@[go_sem high] theorem aQx (m:pG) (e:TypeId) (o:Option (List (Ty.str.den))) (n:Nat):yU m (some (rW e .str o n))=rW e .str o n:=aMd m rfl o n
@[go_sem high] theorem aQy (e:TypeId) (k n:Nat) (a:sQ) (o:Option (List (Ty.str.den))) (m:Nat):
  xG k n a (some (rW e .str o m))=if (!zV k (s7 a.ws))=true then some ⟨(.own a.n n,none)::a.args,rW e .str o m::a.H,.tok k::a.ws,a.n+1⟩ else none:=aMa rfl k n a o m
@[go_sem high] theorem aQz (base m c:Nat) (W:List rJ) (e:TypeId) (o:Option (List (Ty.str.den))) (n:Nat):y5 base m c W (rW e .str o n)=some (base+c,rW e .str o n):=aMb base m c W rfl o n
@[go_sem high] theorem aQA (k:Nat) (e:TypeId) (o:Option (List (Ty.str.den))) (n:Nat):w6 k (rW e .str o n)=some (k,rW e .str o n):=aMc k rfl o n
theorem IB {m:pG}{e:TypeId}{t:Ty}{o:Option (List t.den)}{n:Nat}{r:List pV}(ht:t.pure=true) (h:KW m r):KW m (rW e t o n::r):=by
 cases o with
 |none=>exact⟨rfl,h⟩
 |some l=>exact⟨by simp [rW,yU,ht],h⟩
attribute [go_sem] Y5
end Go.Proofs.YtcpbaddnmpeipaaGreatDoor.Vc
namespace Go.Proofs.YtcpbaddnmpeipaaGreatDoor
open Vc Go.RowKit
open Tryz
theorem aMe (w:pM) (p:Option Addr):Calls prog HH #[.pointer p] w fun e w'=> ∃b,e= .returned (.func (.func HG) #[] #[.pointer (some ⟨b,0,none⟩)])/\w.heap.size<=b/\b<w'.heap.size/\w'.cell? ⟨b,0,none⟩=some (.pointer p)/\Below w.heap.size w w':=by
 show Calls prog 155 #[.pointer p] w _
 go_enter func155,Tryz.ntmps155
 go_wp2
 go_ret
 refine⟨w.heap.size,rfl,aSW _,by simp,?_,(Below.refl _ _).alloc (aSW _) _⟩;exact Lib.cell_of_heap (World.alloc_heap_new w _) 0
theorem aMf (w:pM) (b:Nat) (α:Addr) (y s:p7) (ok:Bool) (hb:w.cell? ⟨b,0,none⟩=some (.pointer (some α))) (hy:w.cell? α=some (.string ⟨y.toArray⟩)) (hf:w.frozen? α=false) (hsp:α.spot=none)
  (hl:((y++s).length:Int)<=9223372036854775807) (hV: ∀w1,Below w.heap.size w w1->Calls prog FO #[.string ⟨(y++s).toArray⟩] w1 fun e w'=>e= .returned (.bool ok)/\Below w1.heap.size w1 w'):
  Calls prog HG #[.string ⟨s.toArray⟩,.pointer (some ⟨b,0,none⟩)] w fun e w'=>e= .returned (.bool ok)/\∃w1,Below w.heap.size w w1/\w'=if ok=true then w1.setCells α.block α.off [.string ⟨(y++s).toArray⟩] else w1:=by
 show Calls prog 188 #[.string ⟨s.toArray⟩,.pointer (some ⟨b,0,none⟩)] w _;obtain⟨ab,ao,asp⟩:=α;obtain rfl:asp=none:=hsp;have hext:((⟨y.toArray⟩:ByteArray)++⟨s.toArray⟩)=⟨(y++s).toArray⟩:=by
  apply ByteArray.ext;simp
 have hVw:=hV w (Below.refl _ _);have hbb:b<w.heap.size:=World.block_lt_of_cell? _ _ hb;have hab:ab<w.heap.size:=World.block_lt_of_cell? _ _ hy;clear hV;cases ok
 .go_enter func188,Tryz.ntmps188
  go_wp2_with (go_at_call 98;refine hVw.mono ?_;rintro e w' ⟨rfl,hbl⟩)
  all_goals first
   |(exfalso;simp at hl;omega)
   |(go_ret;exact⟨rfl,hbl⟩)
 go_enter func188,Tryz.ntmps188
 go_wp2_with (go_at_call 98;refine hVw.mono ?_;rintro e w' ⟨rfl,hbl⟩;have hb':=(aS0 (a:=⟨b,0,none⟩) (hbl.block b hbb)).trans hb;have hy':=(aS0 (a:=⟨ab,ao,none⟩) (hbl.block ab hab)).trans hy;have hf':=(hbl.frozen (p:=⟨ab,ao,none⟩) hab).trans hf)
 all_goals first
  |(exfalso;simp at hl;omega)
  |(go_ret;exact⟨rfl,_,hbl,rfl⟩)
theorem aMg:aAe prog:=⟨aMe,fun _ _=>rfl,fun _ _=>rfl,aMf⟩
end Go.Proofs.YtcpbaddnmpeipaaGreatDoor
namespace Go.Proofs.YtcpbaddnmpeipaaGreatDoor
open Tryz
section
open Go.Shelf Go.RowKit Go.Lib
variable {P:Program}{ρ:Ren}
def xS:ByteArray:=⟨#[32,9,34]⟩
theorem aMh {r:Int}(h0:128<=r) (h1:r<=1114111) (hv:r<55296\/57343<r): ∃n,1<=n/\n<=3/\(Utf8.encode r).size=n+1/\∃b:UInt8,(Utf8.encode r).data.toList[n]? =some b/\128<=b.toNat:=by
 have hval:Utf8.valid r=true:=by
  unfold Utf8.valid;simp;omega
 have hb: ∀k:Nat,k<64->128<=(UInt8.ofNat (0x80+k)).toNat:=fun k hk=>by
  rw[UInt8.toNat_ofNat'];omega
 unfold Utf8.encode;simp only[hval,aT5];have ha: ¬r.toNat<0x80:=by omega
 rw[aSD ha];by_cases h2:r.toNat<0x800
 .rw[aSB h2];exact⟨1,pB,pB,rfl,_,rfl,hb _ pB⟩
 rw[aSD h2];by_cases h3:r.toNat<0x10000
 .rw[aSB h3];exact⟨2,pB,pB,rfl,_,rfl,hb _ pB⟩
 rw[aSD h3];exact⟨3,pB,pB,rfl,_,rfl,hb _ pB⟩
set_option maxRecDepth 1000000 in
theorem AnyL.IndexRune_err (L:Lays.n152 P ρ) (w:pM):
  Calls P (ρ.f 152) #[.string xS,.int .i32 65533] w fun e w'=>e= .returned (.int .i64 (-1))/\Below w.heap.size w w':=by
 have t3:=L.t3;have a3:=L.a3;have z3:=L.z3;have v3:=L.v3;have t4:=L.t4;have a4:=L.a4;have z4:=L.z4;have v4:=L.v4;have t5:=L.t5;have a5:=L.a5;have z5:=L.z5;have v5:=L.v5;have t9:=L.t9;have a9:=L.a9;have z9:=L.z9;have v9:=L.v9;have t21:=L.t21;have a21:=L.a21;have z21:=L.z21;have v21:=L.v21
 go_enter L.f152,Body.n152_ntmps ρ
 go_wp2
 go_loopg [5,6] 3 (fun g _ _ wx=> ∃i:Nat,i+g=3/\wx=w.iter xS i)
 case atStart=>exact⟨0,pB,rfl⟩
 case round=>
  obtain⟨i,hig,rfl⟩:=hrel;cases gk with
  |zero=>
   obtain rfl:i=3:=by omega
   have hnx:=fun ty=>run_next_end (P:=P) w xS 3 ty pC
   go_wp2
   go_ret
   exact⟨rfl,(Below.refl _ _).alloc (aSW _) _⟩
  |succ g=>
   have hi:i<xS.size:=by show i<3;omega
   obtain⟨x,hx⟩: ∃x:UInt8,xS[i]'hi=x:=⟨_,rfl⟩;have hx128:x.toNat<128:=by
    have:i=0\/i=1\/i=2:=by omega
    rcases this with rfl|rfl|rfl<;>rw[<-hx]
    .exact(by decide:(32:UInt8).toNat<128)
    .exact(by decide:(9:UInt8).toNat<128)
    exact(by decide:(34:UInt8).toNat<128)
   have hxe:(((x.toNat:Nat):Int)==65533)=false:=beq_eq_false_iff_ne.2 pB;have hnx:=fun ty=>run_next_ascii (P:=P) w xS i ty hi (by rw[hx];exact hx128);rw[hx] at hnx;clear hx
   go_wp2
   go_roundg g
   case measure=>omega
   case rel=>exact⟨i+1,pB,rfl⟩
set_option maxRecDepth 1000000 in
theorem AnyL.IndexRune_big (L:Lays.n152 P ρ) (w:pM) (r:Int) (h0:128<=r) (h1:r<=1114111) (hv:r<55296\/57343<r) (hne:r≠65533):
  Calls P (ρ.f 152) #[.string xS,.int .i32 r] w fun e w'=>e= .returned (.int .i64 (-1))/\Below w.heap.size w w':=by
 have t3:=L.t3;have a3:=L.a3;have z3:=L.z3;have v3:=L.v3;have t4:=L.t4;have a4:=L.a4;have z4:=L.z4;have v4:=L.v4;have t5:=L.t5;have a5:=L.a5;have z5:=L.z5;have v5:=L.v5;have t9:=L.t9;have a9:=L.a9;have z9:=L.z9;have v9:=L.v9;have t21:=L.t21;have a21:=L.a21;have z21:=L.z21;have v21:=L.v21;have e137: ∀args w,(callFunc (ρ.f 137) args).run P w= .ok (.enter (ρ.f 137) args) w:=enters_of L.f137 pP rfl;have e119: ∀args w,(callFunc (ρ.f 119) args).run P w= .ok (.enter (ρ.f 119) args) w:=enters_of L.f119 pP rfl;have hval:Lib.validRune r=true:=by unfold Lib.validRune;simp;omega
 obtain⟨n,hn1,hn3,hsz,b,hb,hb128⟩:=aMh h0 h1 hv;have hcv: ∀w,(convert (ρ.t 21) (ρ.t 9) (.int .i32 r)).run P w= .ok (.string (Utf8.encode r)) w:=fun w=>run_convert_int_string w _ _ .i32 r (by rw[t21];rfl) t9;generalize Utf8.encode r=rs at hsz hb hcv;have hsz':(rs.size:Int)=n+1:=by omega
 have hbn: ∀h,rs[n]'h=b:=fun h=>by
  have:=Lib.data_getElem? rs n h;rw[hb] at this;exact(aSG this).symm
 have hne9:((9:Int)==(b.toNat:Int))=false:=beq_eq_false_iff_ne.2 pB;have hne34:((34:Int)==(b.toNat:Int))=false:=beq_eq_false_iff_ne.2 pB;have hix: ∀w,(Instr.index (ρ.t 9) (.string rs) (.int .i64 (n:Int))).run P w= .ok (.int .u8 (b.toNat:Int)) w:=fun w=>by
  rw[run_index_string _ _ _ _ _ t9];rw[aUu pB];simp [hbn]
 have hl1: ∀w,(Instr.index (ρ.t 9) (.string xS) (.int .i64 1)).run P w= .ok (.int .u8 9) w:=fun w=>by
  rw[run_index_string _ _ _ _ _ t9];rfl
 have hl2: ∀w,(Instr.index (ρ.t 9) (.string xS) (.int .i64 2)).run P w= .ok (.int .u8 34) w:=fun w=>by
  rw[run_index_string _ _ _ _ _ t9];rfl
 have hls:(xS.size:Int)=3:=rfl;clear hb
 go_enter L.f152,Body.n152_ntmps ρ
 go_wp2_with (go_at_fn (ρ.f 119);refine(Any.utf8_ValidRune {L with} _ _).mono ?_;rintro e w' ⟨rfl,hw⟩;rw[hw,hval])
 have mixed:=L.mixed;obtain rfl|rfl|rfl:n=1\/n=2\/n=3:=by omega
 .have hq:((9:Int) != ((rs[1]'pB).toNat:Int))=true:=by rw[hbn];exact bne_iff_ne.2 pB
  have hneg:Lib.indexByte (List.take (xS.size-2) (List.drop 2 xS.data.toList)) b= -1:=by
   have hz: ∀x:UInt8,x.toNat<128->(x==b)=false:=fun x hx=>beq_eq_false_iff_ne.2 fun e=>by rw[e] at hx;omega
   first|rfl|(show Lib.indexByte [34] b= -1;simp [Lib.indexByte,hz 34 pC])
  go_step3
  go_wp2
  refine wp_loop_rounds 1 ?_;rw[rounds_succ]
  go_wp2
  go_step3
  go_wp2
  go_region_o
  all_goals
   go_wp2
   go_region_with_o (go_at_fn (ρ.f 137);refine(Any.strings_IndexByte {L with} _ _ _).mono ?_;rintro e w' ⟨rfl,hw⟩;rw[hw])
   all_goals
    go_wp2
    simp only[Exit.noGoto_ret,go_sem]
    go_ret
    exact⟨rfl,by go_grown⟩
 .have hq:((34:Int) != ((rs[2]'pB).toNat:Int))=true:=by rw[hbn];exact bne_iff_ne.2 pB
  have hneg:Lib.indexByte (List.take (xS.size-3) (List.drop 3 xS.data.toList)) b= -1:=by
   have hz: ∀x:UInt8,x.toNat<128->(x==b)=false:=fun x hx=>beq_eq_false_iff_ne.2 fun e=>by rw[e] at hx;omega
   first|rfl|(show Lib.indexByte [34] b= -1;simp [Lib.indexByte,hz 34 pC])
  go_step3
  go_wp2
  refine wp_loop_rounds 1 ?_;rw[rounds_succ]
  go_wp2
  go_step3
  go_wp2
  go_region_o
  all_goals
   go_wp2
   go_region_with_o (go_at_fn (ρ.f 137);refine(Any.strings_IndexByte {L with} _ _ _).mono ?_;rintro e w' ⟨rfl,hw⟩;rw[hw])
   all_goals
    go_wp2
    simp only[Exit.noGoto_ret,go_sem]
    go_ret
    exact⟨rfl,by go_grown⟩
 go_step3
 go_wp2
 refine wp_loop_rounds 1 ?_;rw[rounds_succ]
 go_wp2
 simp only[Exit.noGoto_ret]
 go_ret
 exact⟨rfl,Below.refl _ _⟩
theorem aDg {s:ByteArray}{j:Nat}{b:UInt8}(h:s.data.toList[j]? =some b):s.get! j=b:=by
 rw[aTE] at h;show s.data[j]! =b;rw[getElem!_def,h]
theorem aMi (s:ByteArray) (i:Nat) (hi:i<s.size) (hb:128<=(s.get! i).toNat): ∃c k:Nat,Utf8.decode s i=(c,k)/\1<=k/\i+k<=s.size/\128<=c/\c<=1114111/\(c<55296\/57343<c)/\
  ∀j,i<=j->j<i+k->128<=(s.get! j).toNat:=by
 have one: ∀j,i<=j->j<i+1->128<=(s.get! j).toNat:=fun j h1 h2=>by
  obtain rfl:j=i:=by omega
  exact hb
 have e65: ∀r,r=(Utf8.runeError,1)->∃c k:Nat,r=(c,k)/\1<=k/\i+k<=s.size/\128<=c/\c<=1114111/\(c<55296\/57343<c)/\∀j,i<=j->j<i+k->128<=(s.get! j).toNat:=
  fun r hr=>⟨65533,1,hr,pB,pB,pB,pB,pB,one⟩
 have hval: ∀c:Nat,Utf8.valid (c:Int)=true->c<=1114111/\(c<55296\/57343<c):=fun c h=>by
  unfold Utf8.valid at h;simp only[aUe,aSV,aSL] at h;omega
 unfold Utf8.decode;simp only[aTP,aSV,aSL,aTU];rw[aSD pB];by_cases h2:(s.get! i).toNat/32=6/\i+1<s.size/\(s.get! (i+1)).toNat/64=2
 .rw[aSB h2];obtain⟨h2,h3,h4⟩:=h2;split
  .refine⟨_,2,rfl,pB,pB,pB,pB,pB,fun j h5 h6=>?_⟩;obtain rfl|rfl:j=i\/j=i+1:=by omega
   .exact hb
   omega
  exact e65 _ rfl
 rw[aSD h2];by_cases h3:((s.get! i).toNat/16=14/\i+1<s.size/\(s.get! (i+1)).toNat/64=2)/\i+2<s.size/\(s.get! (i+2)).toNat/64=2
 .rw[aSB h3];obtain⟨⟨h3,h4,h5⟩,h6,h7⟩:=h3;split
  .rename_i hc;have hv:=hval _ hc.2;refine⟨_,3,rfl,pB,pB,pB,hv.1,hv.2,fun j h8 h9=>?_⟩;obtain rfl|rfl|rfl:j=i\/j=i+1\/j=i+2:=by omega
   .exact hb
   .omega
   omega
  exact e65 _ rfl
 rw[aSD h3];by_cases h4:(((s.get! i).toNat/8=30/\i+1<s.size/\(s.get! (i+1)).toNat/64=2)/\i+2<s.size/\(s.get! (i+2)).toNat/64=2)/\i+3<s.size/\(s.get! (i+3)).toNat/64=2
 .rw[aSB h4];obtain⟨⟨⟨h4,h5,h6⟩,h7,h8⟩,h9,h10⟩:=h4;split
  .rename_i hc;have hv:=hval _ hc.2;refine⟨_,4,rfl,pB,pB,pB,hv.1,hv.2,fun j h11 h12=>?_⟩;obtain rfl|rfl|rfl|rfl:j=i\/j=i+1\/j=i+2\/j=i+3:=by omega
   .exact hb
   .omega
   .omega
   omega
  exact e65 _ rfl
 rw[aSD h4];exact e65 _ rfl
theorem aMj {P:Program}(w:pM) (r:Nat) (s:ByteArray) (i:Nat) (ty:TypeId) (hh:w.heap[r]? =some (.stringIter s i)) (hi:i<s.size) {c k:Nat}(hd:Utf8.decode s i=(c,k)):
  (Instr.next (.pointer (some ⟨r,0,none⟩)) true ty).run P w= .ok (.tuple #[.bool true,.int .i64 i,.int .i32 c]) {w with heap:=w.heap.setIfInBounds r (.stringIter s (i+k))}:=by
 simp [Instr.next,getObj,setObj,Sem.run,hh,hi,hd,goInt]
theorem aMk {P:Program}(w:pM) (r:Nat) (s:ByteArray) (i:Nat) (ty:TypeId) (hh:w.heap[r]? =some (.stringIter s i)) (hi: ¬i<s.size):
  (Instr.next (.pointer (some ⟨r,0,none⟩)) true ty).run P w= .ok (.tuple #[.bool false]) w:=by
 simp [Instr.next,getObj,Sem.run,hh,hi]
theorem aMl {l:p7}{i k:Nat}(h:Lib.NoAny l [32,9,34] i) (hb: ∀j,i<=j->j<i+k->∀b,l[j]? =some b->128<=b.toNat):Lib.NoAny l [32,9,34] (i+k):=fun j b hj hs=>by
 by_cases hji:j<i
 .exact h j b hji hs
 have hx:=hb j pB hj b hs;cases hc:([32,9,34]:p7).contains b with
 |false=>rfl
 |true=>
  simp only[List.contains_cons,List.contains_nil,Bool.or_false,aUe,aTU] at hc;rcases hc with rfl|rfl|rfl<;>exact absurd hx pC
theorem aMm {B r:Nat}{a w:pM}{o:Obj}(h:Below B a w) (hr:B<=r):Below B a {w with heap:=w.heap.setIfInBounds r o}:=
 ⟨h.os,h.tape,h.output,by simpa using h.size,fun k hk=>by
  show (w.heap.setIfInBounds r o)[k]? =_;rw[aTN pB];exact h.block k hk⟩
theorem AnyL.IndexRune_lit (L:Lays.n152 P ρ) (w:pM) (r:Int) (h0:128<=r) (h1:r<=1114111) (hv:r<55296\/57343<r):
  Calls P (ρ.f 152) #[.string xS,.int .i32 r] w fun e w'=>e= .returned (.int .i64 (-1))/\Below w.heap.size w w':=by
 by_cases he:r=65533
 .rw[he];exact AnyL.IndexRune_err L w
 exact AnyL.IndexRune_big L w r h0 h1 hv he
set_option maxRecDepth 1000000 in
theorem AnyL.IndexAny_lit8 (L:Lays.n153 P ρ) (s:ByteArray) (w:pM) (h8:s.size<=8):
  Calls P (ρ.f 153) #[.string s,.string xS] w fun e w'=>e= .returned (.int .i64 (Lib.indexAny s.data.toList [32,9,34]))/\Below w.heap.size w w':=by
 have hemp:xS.toList.isEmpty=false:=by rw[Lib.toList_data];rfl
 have hn1:((xS.size:Int)==1)=false:=rfl;have h8z:decide ((8:Int)<(s.size:Int))=false:=decide_eq_false pB;have t3:=L.t3;have a3:=L.a3;have z3:=L.z3;have v3:=L.v3;have t4:=L.t4;have a4:=L.a4;have z4:=L.z4;have v4:=L.v4;have t5:=L.t5;have a5:=L.a5;have z5:=L.z5;have v5:=L.v5;have t9:=L.t9;have a9:=L.a9;have z9:=L.z9;have v9:=L.v9;have t21:=L.t21;have a21:=L.a21;have z21:=L.z21;have v21:=L.v21;have e152: ∀args w,(callFunc (ρ.f 152) args).run P w= .ok (.enter (ρ.f 152) args) w:=enters_of L.f152 pP rfl;have e226: ∀args w,(callFunc (ρ.f 226) args).run P w= .ok (.enter (ρ.f 226) args) w:=enters_of L.f226 pP rfl
 go_enter L.f153,Body.n153_ntmps ρ
 go_wp2_with (go_at_fn (ρ.f 226);refine(Any.strings_shouldUseASCIISet {L with} _ _).mono ?_;rintro e w' ⟨rfl,hw⟩;rw[hw,h8z])
 go_loopg [9,10] s.size (fun g _ _ wx=> ∃i:Nat,i+g=s.size/\Below w.heap.size w wx/\wx.heap[w.heap.size]? =some (.stringIter s i)/\Lib.NoAny s.data.toList [32,9,34] i)
 case atStart=>exact⟨0,pB,(Below.refl _ _).alloc (aSW _) _,World.iter_heap w s 0,Lib.NoAny.zero _ _⟩
 case round=>
  obtain⟨i,hig,hbel,hheap,hno⟩:=hrel;have HN:Aside (Lib.NoAny s.data.toList [32,9,34] i):=hno;have HB:Aside (Below w.heap.size w _):=hbel;clear hno;have hlt:w.heap.size<wr.heap.size:=by
   rcases aTD w.heap.size wr.heap.size with h|h
   .exact h
   rw[Array.getElem?_eq_none h] at hheap;cases hheap
  by_cases hi:i<s.size
  .obtain⟨x,hx⟩: ∃x:UInt8,s[i]'hi=x:=⟨_,rfl⟩;have hxl:s.data.toList[i]? =some x:=by rw[<-hx];exact Lib.data_getElem? s i hi
   have hgx:s.get! i=x:=aDg hxl;have key: ∀k c,Utf8.decode s i=(c,k)->∃w1:pM,(∀ty,(Instr.next (.pointer (some ⟨w.heap.size,0,none⟩)) true ty).run P wr= .ok (.tuple #[.bool true,.int .i64 i,.int .i32 c]) w1)/\
     Below w.heap.size w w1/\w1.heap[w.heap.size]? =some (.stringIter s (i+k))/\w.heap.size<w1.heap.size:=fun k c hd=>
    ⟨{wr with heap:=wr.heap.setIfInBounds w.heap.size (.stringIter s (i+k))},fun ty=>aMj wr _ s i ty hheap hi hd,aMm hbel (aSW _),by simp [hlt],by simpa using hlt⟩
   clear hbel hheap hlt;by_cases h128:x.toNat<128
   .obtain⟨w1,hnx,hb1,hh1,hl1⟩:=key 1 x.toNat (by have:=decode_ascii s i hi (by rw[hx];exact h128);rw[this,hx]);clear key;have HX:Aside (s.data.toList[i]? =some x):=hxl;have H1:Aside (Below w.heap.size w w1/\w1.heap[w.heap.size]? =some (.stringIter s (i+1))):=⟨hb1,hh1⟩;have hcon:=Lib.contains_iff_indexByte [32,9,34] x;have hback:((x.toNat:Int)).toNat.toUInt8=x:=by simp
    have hll:xS.data.toList=[32,9,34]:=rfl;clear hxl hgx hx hb1 hh1 hl1;cases hin:([32,9,34]:p7).contains x
    .rw[hin] at hcon;have hlt: ¬((0:Int)<=Lib.indexByte [32,9,34] x):=of_decide_eq_false hcon.symm;clear hcon
     go_wp2_with (go_at_fn (ρ.f 152);refine(Any.strings_IndexRune_ascii {L with} _ _ _ pB pB).mono ?_;rintro e w' ⟨rfl,hw⟩;rw[hw,hback,hll])
     go_roundg (gk-1)
     case measure=>omega
     case rel=>exact⟨i+1,pB,H1.out.1,H1.out.2,HN.out.succ HX.out hin⟩
    rw[hin] at hcon;have hge:(0:Int)<=Lib.indexByte [32,9,34] x:=aTn hcon.symm;clear hcon
    go_wp2_with (go_at_fn (ρ.f 152);refine(Any.strings_IndexRune_ascii {L with} _ _ _ pB pB).mono ?_;rintro e w' ⟨rfl,hw⟩;rw[hw,hback,hll])
    go_ret
    exact⟨by rw[Lib.indexAny_hit HN.out HX.out hin];rfl,H1.out.1⟩
   obtain⟨c,k,hd,hk1,hk2,hc1,hc2,hc3,hall⟩:=aMi s i hi (by rw[hgx];omega);obtain⟨w1,hnx,hb1,hh1,hl1⟩:=key k c hd;clear key;have H1:Aside (Below w.heap.size w w1/\w1.heap[w.heap.size]? =some (.stringIter s (i+k))/\w.heap.size<w1.heap.size):=⟨hb1,hh1,hl1⟩;have HA:Aside (∀j,i<=j->j<i+k->128<=(s.get! j).toNat):=hall;clear hall hxl hgx hx hb1 hh1 hl1 hd
   go_wp2_with (go_at_fn (ρ.f 152);refine(AnyL.IndexRune_lit {L with} _ _ pB pB pB).mono ?_;rintro e w' ⟨rfl,hw⟩)
   go_roundg (gk-k)
   case measure=>omega
   case rel=>exact⟨i+k,pB,H1.out.1.trans (hw.mono (by have:=H1.out.2.2;omega)),by rw[hw.block _ H1.out.2.2];exact H1.out.2.1,aMl HN.out fun j h1 h2 b hb=>by rw[<-aDg hb];exact HA.out j h1 h2⟩
  have hnx:=fun ty=>aMk (P:=P) wr w.heap.size s i ty hheap hi;clear hbel hheap
  go_wp2
  go_ret
  obtain rfl:i=s.size:=by omega
  exact⟨by rw[Lib.indexAny_none (by rw[<-Lib.size_eq];exact HN.out)];rfl,HB.out⟩
theorem AnyL.IndexAny_lit (L:Lays.n153 P ρ) (h116:(P.info? (ρ.t 116)).map (fun i=>(i.zero,i.size))=some (some (.agg (Array.replicate 256 (.bool false))),256)) (s:ByteArray) (w:pM) (hs:s.size<4294967281):
  Calls P (ρ.f 153) #[.string s,.string xS] w fun e w'=>e= .returned (.int .i64 (Lib.indexAny s.data.toList [32,9,34]))/\Below w.heap.size w w':=by
 by_cases h8:s.size<=8
 .exact AnyL.IndexAny_lit8 L s w h8
 refine(Any.strings_IndexAny_long L (zero_of_info h116).1 (zero_of_info h116).2 s xS w pC pB hs pC (fun j b h=>?_)).mono fun e w' ⟨h1,h2⟩=>⟨h1,?_⟩
 .have hb:b∈([32,9,34]:p7):=List.mem_of_getElem? (show ([32,9,34]:p7)[j]? =some b from h);simp only[aSP,aT2,or_false] at hb;rcases hb with rfl|rfl|rfl<;>decide
 rw[h2];exact((Below.refl _ _).alloc (aSW _) _).alloc pD _
end
open Vc Go.RowKit
def NP (s c:p7):Int:=Lib.indexAny s c
@[go_sem] def a1Z:List pW->List pV->Option qH
 |[(.val .str O,none),(.val .str Z,none)],[]=>if Z=[32,9,34] then some ⟨[List.length O<4294967281],[(.val (.int .i64) (NP O Z),none)],[]⟩ else none
 |_,_=>none
theorem aMn:yJ prog 146 a1Z:=by
 refine QO (fun _ _=>rfl) fun g w args vals L r hT ha hC hs=>?_;unfold a1Z at hC;split at hC
 .rename_i s c;split at hC
  .rename_i hc;subst hc;cases hC;have h1:=hs _ aS2;obtain⟨va,_,rfl,ra,vb,_,rfl,rb,hv⟩:=ha;obtain rfl:=wY ra.1;obtain rfl:=wY rb.1;cases hv;exact⟨rfl,rfl,(AnyL.IndexAny_lit Tryz.lays153 pP ⟨List.toArray s⟩ w h1).mono fun e w' ⟨he,hb⟩=>⟨_,he,hb,w9 _ _ _ _,trivial⟩⟩
  cases hC
 cases hC
end Go.Proofs.YtcpbaddnmpeipaaGreatDoor
namespace Go.Proofs.YtcpbaddnmpeipaaGreatDoor
open Vc
open Tryz
noncomputable section
@[go_sem] abbrev DL:Ty:=(.pair .str (.pair .str (.pair .str (.pair (.list .str) (.pair (.list .str) (.pair (.int .i64) (.pair (.list rV) .unit)))))))
@[go_sem] abbrev DM:Ty:=(.pair .str (.pair (.list .str) (.pair (.list rV) (.pair (.list DL) .unit))))
@[go_sem] abbrev y9:Ty:=(.pair .str (.pair (.list .str) (.pair .str .unit)))
@[go_sem] abbrev xR:Ty:=(.pair .mref (.pair (.list (.int .u8)) .unit))
@[go_sem] abbrev NL:Ty:=(.pair (.int .i64) (.pair .str .unit))
abbrev qG:Type:=(p7×(p7×Unit))
abbrev sA:Type:=(p7×(p7×(p7×(p8×(p8×(Int×((List qG)×Unit)))))))
abbrev wI:Type:=(p7×(p8×(p7×Unit)))
abbrev sK:Type:=(p7×(p8×((List qG)×((List sA)×Unit))))
@[go_sem] abbrev wJ:Ty:=(.pair DM (.pair (.list (.int .i64)) (.pair DL (.pair .bool (.pair .bool (.pair .bool (.pair .bool (.pair .bool rV))))))))
abbrev A7:Type:=(sK×(pH×(sA×(Bool×(Bool×(Bool×(Bool×(Bool×(p7×(p7×Unit))))))))))
@[go_sem] abbrev aDh:Ty:=(.pair .str (.pair .str (.pair .str (.pair (.rl 9 .str) (.pair (.list .str) (.pair (.int .i64) (.pair (.rl 110 rV) .unit)))))))
@[go_sem] abbrev sE:Ty:=(.pair DM (.pair (.int .i64) (.pair aDh (.pair .mp (.pair .mp (.pair .ap (.pair (.list (.int .i64)) .unit)))))))
@[go_sem] abbrev aMo:Ty:=(.pair DM (.pair (.int .i64) (.pair DL (.pair .mp (.pair .mp (.pair .ap (.pair (.list (.int .i64)) .unit)))))))
@[go_sem] abbrev s8:Nat×TI:=(9,⟨.str,0,0,false,[]⟩)
def s9:sU prog s8.1 s8.2:=⟨pP,(show Tryz.prog.underlying _=_ from by kernel_rfl)⟩
@[go_sem] abbrev yK:Nat×TI:=(23,⟨(.list .str),9,16,false,[]⟩)
def zP:sU prog yK.1 yK.2:=⟨pP,(show _/\_/\_ from⟨pP,pP,pP⟩)⟩
@[go_sem] abbrev L3:Nat×TI:=(34,⟨y9,0,0,false,[(1,9,1)]⟩)
def QX:sU prog L3.1 L3.2:=⟨pP,(show ((_/\∃_,_/\_)\/_)/\_ from⟨.inl ⟨rfl,_,Tryz.underlying34,(show _/\_/\_/\_ from⟨rfl,pP,pP,(show _/\_/\_/\_ from⟨rfl,pP,pP,(show _/\_/\_/\_ from⟨rfl,pP,pP,trivial⟩)⟩)⟩)⟩,(fun h=>absurd h pC)⟩)⟩
@[go_sem] abbrev F2:Nat×TI:=(37,⟨y9,0,0,false,[(1,9,1)]⟩)
def IC:sU prog F2.1 F2.2:=⟨pP,(show ((_/\∃_,_/\_)\/_)/\_ from⟨.inl ⟨rfl,_,Tryz.underlying37,(show _/\_/\_/\_ from⟨rfl,pP,pP,(show _/\_/\_/\_ from⟨rfl,pP,pP,(show _/\_/\_/\_ from⟨rfl,pP,pP,trivial⟩)⟩)⟩)⟩,(fun h=>absurd h pC)⟩)⟩
@[go_sem] abbrev F3:Nat×TI:=(25,⟨(.list DL),45,128,false,[]⟩)
def ID:sU prog F3.1 F3.2:=⟨pP,(show _/\_/\_ from⟨pP,pP,pP⟩)⟩
@[go_sem] abbrev AQ:Nat×TI:=(27,⟨DM,0,0,false,[(1,9,1),(2,110,2),(3,45,7)]⟩)
def CB:sU prog AQ.1 AQ.2:=⟨pP,(show ((_/\∃_,_/\_)\/_)/\_ from⟨.inl ⟨rfl,_,Tryz.underlying27,(show _/\_/\_/\_ from⟨rfl,pP,pP,(show _/\_/\_/\_ from⟨rfl,pP,pP,(show _/\_/\_/\_ from⟨rfl,pP,pP,(show _/\_/\_/\_ from⟨rfl,pP,pP,trivial⟩)⟩)⟩)⟩)⟩,(fun h=>absurd h pC)⟩)⟩
@[go_sem] abbrev IE:Nat×TI:=(45,⟨DL,0,0,false,[(3,9,1),(4,9,1),(6,110,2)]⟩)
def NQ:sU prog IE.1 IE.2:=⟨pP,(show ((_/\∃_,_/\_)\/_)/\_ from⟨.inl ⟨rfl,_,Tryz.underlying45,(show _/\_/\_/\_ from⟨rfl,pP,pP,(show _/\_/\_/\_ from⟨rfl,pP,pP,(show _/\_/\_/\_ from⟨rfl,pP,pP,(show _/\_/\_/\_ from⟨rfl,pP,pP,(show _/\_/\_/\_ from⟨rfl,pP,pP,(show _/\_/\_/\_ from⟨rfl,pP,pP,(show _/\_/\_/\_ from⟨rfl,pP,pP,trivial⟩)⟩)⟩)⟩)⟩)⟩)⟩)⟩,(fun h=>absurd h pC)⟩)⟩
@[go_sem] abbrev DN:Nat×TI:=(80,⟨(.list (.int .u8)),5,1,false,[]⟩)
def GD:sU prog DN.1 DN.2:=⟨pP,(show _/\_/\_ from⟨pP,pP,pP⟩)⟩
@[go_sem] abbrev L4:Nat×TI:=(82,⟨xR,0,0,false,[(1,5,1)]⟩)
def QY:sU prog L4.1 L4.2:=⟨pP,(show ((_/\∃_,_/\_)\/_)/\_ from⟨.inl ⟨rfl,_,Tryz.underlying82,(show _/\_/\_/\_ from⟨rfl,pP,pP,(show _/\_/\_/\_ from⟨rfl,pP,pP,trivial⟩)⟩)⟩,(fun h=>absurd h pC)⟩)⟩
@[go_sem] abbrev A3:Nat×TI:=(24,⟨(.list rV),110,32,false,[]⟩)
def D1:sU prog A3.1 A3.2:=⟨pP,(show _/\_/\_ from⟨pP,pP,pP⟩)⟩
@[go_sem] abbrev D0:Nat×TI:=(110,⟨rV,0,1,false,[]⟩)
def IA:sU prog D0.1 D0.2:=⟨pP,(show ((_/\∃_,_/\_)\/_)/\_ from⟨.inl ⟨rfl,_,Tryz.underlying110,(show _/\_/\_/\_ from⟨rfl,pP,pP,(show _/\_/\_/\_ from⟨rfl,pP,pP,trivial⟩)⟩)⟩,(fun _=>⟨pP,1,pC,(.struct rfl Tryz.underlying110 pP (.cons pC rfl pP pP (.str Tryz.underlying9) (.cons pC rfl pP pP (.str Tryz.underlying9) .nil)))⟩)⟩)⟩
@[go_sem] abbrev uU:Nat×TI:=(3,⟨(.int .i64),0,0,false,[]⟩)
def vH:sU prog uU.1 uU.2:=⟨pP,(show Tryz.prog.underlying _=_ from by kernel_rfl)⟩
@[go_sem] abbrev uV:Nat×TI:=(4,⟨.bool,0,0,false,[]⟩)
def vI:sU prog uV.1 uV.2:=⟨pP,(show Tryz.prog.underlying _=_ from by kernel_rfl)⟩
@[go_sem] abbrev CC:Nat×TI:=(61,⟨(.list (.int .i64)),3,8,false,[]⟩)
def DO:sU prog CC.1 CC.2:=⟨pP,(show _/\_/\_ from⟨pP,pP,pP⟩)⟩
@[go_sem] abbrev IF:Nat×TI:=(95,⟨wJ,0,0,false,[(1,9,1),(2,110,2),(3,45,7),(4,3,1),(8,9,1),(9,9,1),(11,110,2)]⟩)
def NR:sU prog IF.1 IF.2:=⟨pP,(show ((_/\∃_,_/\_)\/_)/\_ from⟨.inl ⟨rfl,_,Tryz.underlying95,(show _/\_/\_/\_ from⟨rfl,pP,pP,(show _/\_/\_/\_ from⟨rfl,pP,pP,(show _/\_/\_/\_ from⟨rfl,pP,pP,(show _/\_/\_/\_ from⟨rfl,pP,pP,(show _/\_/\_/\_ from⟨rfl,pP,pP,(show _/\_/\_/\_ from⟨rfl,pP,pP,(show _/\_/\_/\_ from⟨rfl,pP,pP,(show _/\_/\_/\_ from⟨rfl,pP,pP,(show _/\_/\_/\_ from⟨rfl,pP,pP,(show _/\_/\_/\_ from⟨rfl,pP,pP,trivial⟩)⟩)⟩)⟩)⟩)⟩)⟩)⟩)⟩)⟩)⟩,(fun h=>absurd h pC)⟩)⟩
@[go_sem] abbrev DP:Nat×TI:=(5,⟨(.int .u8),0,0,false,[]⟩)
def GE:sU prog DP.1 DP.2:=⟨pP,(show Tryz.prog.underlying _=_ from by kernel_rfl)⟩
@[go_sem] abbrev I9:Nat×TI:=(24,⟨(.list rV),110,32,true,[]⟩)
def WD:sU prog I9.1 I9.2:=⟨pP,(show _/\_/\_ from⟨pP,pP,pP⟩)⟩
@[go_sem] abbrev IG:Nat×TI:=(128,⟨(.list qK),136,24,false,[]⟩)
def NS:sU prog IG.1 IG.2:=⟨pP,(show _/\_/\_ from⟨pP,pP,pP⟩)⟩
@[go_sem] abbrev IH:Nat×TI:=(136,⟨qK,0,1,false,[]⟩)
def NT:sU prog IH.1 IH.2:=⟨pP,(show ((_/\∃_,_/\_)\/_)/\_ from⟨.inl ⟨rfl,_,Tryz.underlying136,(show _/\_/\_/\_ from⟨rfl,pP,pP,(show _/\_/\_/\_ from⟨rfl,pP,pP,trivial⟩)⟩)⟩,(fun _=>⟨pP,1,pC,(.struct rfl Tryz.underlying136 pP (.cons pC rfl pP pP (.bool Tryz.underlying4) (.cons pC rfl pP pP (.str Tryz.underlying9) .nil)))⟩)⟩)⟩
@[go_sem] abbrev wD:Nat×TI:=(117,⟨(.list qK),121,24,false,[]⟩)
def x7:sU prog wD.1 wD.2:=⟨pP,(show _/\_/\_ from⟨pP,pP,pP⟩)⟩
@[go_sem] abbrev wA:Nat×TI:=(121,⟨qK,0,1,false,[]⟩)
def wK:sU prog wA.1 wA.2:=⟨pP,(show ((_/\∃_,_/\_)\/_)/\_ from⟨.inl ⟨rfl,_,Tryz.underlying121,(show _/\_/\_/\_ from⟨rfl,pP,pP,(show _/\_/\_/\_ from⟨rfl,pP,pP,trivial⟩)⟩)⟩,(fun _=>⟨pP,1,pC,(.struct rfl Tryz.underlying121 pP (.cons pC rfl pP pP (.bool Tryz.underlying4) (.cons pC rfl pP pP (.str Tryz.underlying9) .nil)))⟩)⟩)⟩
@[go_sem] abbrev QZ:Nat×TI:=(21,⟨(.int .i32),0,0,false,[]⟩)
def a2a:sU prog QZ.1 QZ.2:=⟨pP,(show Tryz.prog.underlying _=_ from by kernel_rfl)⟩
@[go_sem] abbrev WL:Nat×TI:=(202,⟨(.int .u32),0,0,false,[]⟩)
def aDi:sU prog WL.1 WL.2:=⟨pP,(show Tryz.prog.underlying _=_ from by kernel_rfl)⟩
@[go_sem] abbrev WM:Nat×TI:=(23,⟨(.list .str),9,16,true,[]⟩)
def aDj:sU prog WM.1 WM.2:=⟨pP,(show _/\_/\_ from⟨pP,pP,pP⟩)⟩
@[go_sem] abbrev a2b:Nat×TI:=(124,⟨.fn,0,0,false,[]⟩)
def aMp:sU prog a2b.1 a2b.2:=⟨pP,(show∃_ _ _,_ from⟨_,_,_,Tryz.underlying124⟩)⟩
@[go_sem] abbrev a2c:Nat×TI:=(162,⟨.mp,9,124,false,[]⟩)
def aMq:sU prog a2c.1 a2c.2:=⟨pP,(show Tryz.prog.underlying _=_ from by kernel_rfl)⟩
@[go_sem] abbrev AR:Nat×TI:=(32,⟨.ap,0,0,false,[]⟩)
def CD:sU prog AR.1 AR.2:=⟨pP,(show (∃_ _ _,_)/\_ from⟨⟨_,_,_,Tryz.underlying32⟩,aMg⟩)⟩
@[go_sem] abbrev DQ:Nat×TI:=(45,⟨aDh,0,0,false,[(4,9,1)]⟩)
def GF:sU prog DQ.1 DQ.2:=⟨pP,(show ((_/\∃_,_/\_)\/_)/\_ from⟨.inl ⟨rfl,_,Tryz.underlying45,(show _/\_/\_/\_ from⟨rfl,pP,pP,(show _/\_/\_/\_ from⟨rfl,pP,pP,(show _/\_/\_/\_ from⟨rfl,pP,pP,(show _/\_/\_/\_ from⟨rfl,pP,pP,(show _/\_/\_/\_ from⟨rfl,pP,pP,(show _/\_/\_/\_ from⟨rfl,pP,pP,(show _/\_/\_/\_ from⟨rfl,pP,pP,trivial⟩)⟩)⟩)⟩)⟩)⟩)⟩)⟩,(fun h=>absurd h pC)⟩)⟩
@[go_sem] abbrev uW:Nat×TI:=(63,⟨sE,0,0,false,[(1,9,1),(2,110,2),(3,45,7),(9,9,1),(15,3,1)]⟩)
def vJ:sU prog uW.1 uW.2:=⟨pP,(show ((_/\∃_,_/\_)\/_)/\_ from⟨.inl ⟨rfl,_,Tryz.underlying63,(show _/\_/\_/\_ from⟨rfl,pP,pP,(show _/\_/\_/\_ from⟨rfl,pP,pP,(show _/\_/\_/\_ from⟨rfl,pP,pP,(show _/\_/\_/\_ from⟨rfl,pP,pP,(show _/\_/\_/\_ from⟨rfl,pP,pP,(show _/\_/\_/\_ from⟨rfl,pP,pP,(show _/\_/\_/\_ from⟨rfl,pP,pP,trivial⟩)⟩)⟩)⟩)⟩)⟩)⟩)⟩,(fun h=>absurd h pC)⟩)⟩
@[go_sem] abbrev D2:Nat×TI:=(60,⟨.mp,9,4,false,[]⟩)
def F4:sU prog D2.1 D2.2:=⟨pP,(show Tryz.prog.underlying _=_ from by kernel_rfl)⟩
@[go_sem] abbrev a2d:Nat×TI:=(23,⟨(.list .str),9,16,false,[(0,0,0)]⟩)
def aMr:sU prog a2d.1 a2d.2:=⟨pP,(show _/\_/\_ from⟨pP,pP,pP⟩)⟩
@[go_sem] abbrev a2e:Nat×TI:=(24,⟨(.list rV),110,32,false,[(0,0,0)]⟩)
def aMs:sU prog a2e.1 a2e.2:=⟨pP,(show _/\_/\_ from⟨pP,pP,pP⟩)⟩
@[go_sem] abbrev a2f:Nat×TI:=(45,⟨DL,Y5,0,false,[(3,9,1),(4,9,1),(6,110,2)]⟩)
def aMt:sU prog a2f.1 a2f.2:=⟨pP,(show ((_/\∃_,_/\_)\/_)/\_ from⟨.inl ⟨rfl,_,Tryz.underlying45,(show _/\_/\_/\_ from⟨rfl,pP,pP,(show _/\_/\_/\_ from⟨rfl,pP,pP,(show _/\_/\_/\_ from⟨rfl,pP,pP,(show _/\_/\_/\_ from⟨rfl,pP,pP,(show _/\_/\_/\_ from⟨rfl,pP,pP,(show _/\_/\_/\_ from⟨rfl,pP,pP,(show _/\_/\_/\_ from⟨rfl,pP,pP,trivial⟩)⟩)⟩)⟩)⟩)⟩)⟩)⟩,(fun h=>absurd h pC)⟩)⟩
@[go_sem] abbrev a2g:Nat×TI:=(63,⟨aMo,0,0,false,[(1,9,1),(2,110,2),(3,45,7),(8,9,1),(9,9,1),(11,110,2),(15,3,1)]⟩)
def aMu:sU prog a2g.1 a2g.2:=⟨pP,(show ((_/\∃_,_/\_)\/_)/\_ from⟨.inl ⟨rfl,_,Tryz.underlying63,(show _/\_/\_/\_ from⟨rfl,pP,pP,(show _/\_/\_/\_ from⟨rfl,pP,pP,(show _/\_/\_/\_ from⟨rfl,pP,pP,(show _/\_/\_/\_ from⟨rfl,pP,pP,(show _/\_/\_/\_ from⟨rfl,pP,pP,(show _/\_/\_/\_ from⟨rfl,pP,pP,(show _/\_/\_/\_ from⟨rfl,pP,pP,trivial⟩)⟩)⟩)⟩)⟩)⟩)⟩)⟩,(fun h=>absurd h pC)⟩)⟩
@[go_sem] abbrev WN:Nat×TI:=(68,⟨(.list NL),105,24,false,[]⟩)
def aDk:sU prog WN.1 WN.2:=⟨pP,(show _/\_/\_ from⟨pP,pP,pP⟩)⟩
@[go_sem] abbrev a2h:Nat×TI:=(105,⟨NL,0,1,false,[]⟩)
def aMv:sU prog a2h.1 a2h.2:=⟨pP,(show ((_/\∃_,_/\_)\/_)/\_ from⟨.inl ⟨rfl,_,Tryz.underlying105,(show _/\_/\_/\_ from⟨rfl,pP,pP,(show _/\_/\_/\_ from⟨rfl,pP,pP,trivial⟩)⟩)⟩,(fun _=>⟨pP,1,pC,(.struct rfl Tryz.underlying105 pP (.cons pC rfl pP pP (.int Tryz.underlying3) (.cons pC rfl pP pP (.str Tryz.underlying9) .nil)))⟩)⟩)⟩
@[go_sem] abbrev WO:Nat×TI:=(158,⟨(.pair .str (.pair .bool .unit)),0,1,false,[]⟩)
def aDl:sU prog WO.1 WO.2:=⟨pP,(show ((_/\∃_,_/\_)\/_)/\_ from⟨.inl ⟨rfl,_,Tryz.underlying158,(show _/\_/\_/\_ from⟨rfl,pP,pP,(show _/\_/\_/\_ from⟨rfl,pP,pP,trivial⟩)⟩)⟩,(fun _=>⟨pP,1,pC,(.struct rfl Tryz.underlying158 pP (.cons pC rfl pP pP (.str Tryz.underlying9) (.cons pC rfl pP pP (.bool Tryz.underlying4) .nil)))⟩)⟩)⟩
@[go_sem] abbrev GG:Nat×TI:=(124,⟨.clo,0,0,false,[]⟩)
def L5:sU prog GG.1 GG.2:=⟨pP,(show∃_ _ _,_ from⟨_,_,_,Tryz.underlying124⟩)⟩
def qZ:Tryz.prog.follows .mixedOrders=true:=by kernel_rfl
@[go_sem] abbrev NM:Nat×r5:=(133,⟨[.v,.v],VY,[],[],none⟩)
def WE:rC prog NM:=⟨aCy,fun _ h=>by cases h⟩
@[go_sem] abbrev QQ:Nat×r5:=(80,⟨[.v,.v],VZ,[],[],none⟩)
def a1D:rC prog QQ:=⟨aCz,fun _ h=>by cases h⟩
@[go_sem] abbrev WF:Nat×r5:=(168,⟨[.v],W3,[],[],none⟩)
def aCU:rC prog WF:=⟨aCA,fun _ h=>by cases h⟩
@[go_sem] abbrev WG:Nat×r5:=(110,⟨[.v,.v],W9,[],[],none⟩)
def aCV:rC prog WG:=⟨aCP,fun _ h=>by cases h⟩
@[go_sem] abbrev aDm:Nat×r5:=(146,⟨[.v,.v],a1Z,[],[],none⟩)
def aMw:rC prog aDm:=⟨aMn,fun _ h=>by cases h⟩
@[go_sem] abbrev NN:Nat×r5:=(78,⟨[.p xR [1]],W4,[],[],none⟩)
def WH:rC prog NN:=⟨aCE,fun _ h=>by cases h⟩
@[go_sem] abbrev QR:Nat×r5:=(53,⟨[.p xR [1]],W5,[],[],none⟩)
def a1E:rC prog QR:=⟨aCH,fun _ h=>by cases h⟩
@[go_sem] abbrev QS:Nat×r5:=(164,⟨[.r],W8,[],[],none⟩)
def aCX:rC prog QS:=⟨aCO,fun _ h=>by cases h⟩
@[go_sem] abbrev aDn:Nat×r5:=(116,⟨[.r],(WJ Bs.blocks_sorted),[],[],none⟩)
def aMx:rC prog aDn:=⟨aL5,fun _ h=>by cases h⟩
@[go_sem] abbrev QT:Nat×r5:=(163,⟨[.v],noC,[],[],some a1s⟩)
def aCY:rC prog QT:=aCC
end
end Go.Proofs.YtcpbaddnmpeipaaGreatDoor
