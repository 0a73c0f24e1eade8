/- Packed by a program of mine (wip/tools/pack.py): the same texts with short names and few blanks. -/
import Derived.BigCall
import Derived.BigGuard
import Derived.Handy
import Derived.KernelRfl
import Derived.Laws.Runes
import Derived.Lib.ItoaMem
import Derived.Lib.RowBridge
import Derived.LoopIn
import Derived.LoopN
import Derived.LoopNIn
import Derived.OrdersIn
import Derived.OwnWalkIn
import Derived.RangeFuncBox
import Derived.RangeFuncLeaves
import Derived.Scope
import Derived.Shelf.Abstract
import Derived.Shelf.SlSortCmp.NoneTotal
import Derived.Shelf.Slices.Clone
import Derived.Shelf.Slices.CompactS
import Derived.Shelf.Slices.In.SortNone
import Derived.Shelf.Small.Strs
import Derived.Shelf.Small.Utf8
import Derived.Shelf.Sort.Plain
import Derived.Shelf.Strings.Builder1
import Derived.Shelf.Strings.IndexAny
import Derived.Shelf.Strings.IndexAnyAll
import Derived.Shelf.Strings.OnBuilder
import Derived.Shelf.Strings.Repeat
import Derived.Shelf.Strings.Runes
import Derived.Shelf.Strings.Search1
import Derived.Shelf.Strings.Search2
import Derived.Shelf.Strings.Search3
import Derived.Shelf.Strings.SlTrimAscii
import Derived.Shelf.Strings.Trim
import Derived.Shelf.Unicode.DecodeAny
import Derived.Shelf.Unicode.ValidAny
import Derived.TacticsInMore
import Derived.Test.YtcpbaddnmpeipaaGreatDoorChecked
import Derived.Test.YtcpbaddnmpeipaaGreatDoorProg
import Derived.WalkKit
import Derived.WalkMore
import Derived.Test.YtcpbaddnmpeipaaGreatDoorI01
set_option linter.defProp false
set_option linter.unusedVariables false
set_option linter.unusedSimpArgs false
set_option linter.unusedSectionVars false
set_option maxRecDepth 100000
set_option maxHeartbeats 4000000
namespace Go.Proofs.YtcpbaddnmpeipaaGreatDoor.Vc
open Go.RowKit
theorem jp {g g':Gh}{w w':q8}{env:List (Nat×qK)}{a:Act}{o:Oper}{sl:qK}{v:q9}(h:BC g w env a.tmps) (le:Le g w g' w') (E:rS g' w' sl v) {N:Nat}(F:a.tmps.size=N) (z:JP N o.dst=true):BC g' w' (uH o.dst sl env) (a.put o.dst v).tmps:=by
  intro t;cases ho:o.dst with
  |none=>exact DX le (h t)
  | some d=>
    rw[ho] at z;simp only[JP,aFI] at z;simp only[uH,lk,Act.put];by_cases j:d=t
    · subst j
      rw[aFz rfl];have D:d<a.tmps.size:=by rw[F];exact z
      have:(a.tmps.setIfInBounds d v).getD d undef=v:=by
        rw[aF7,Array.getElem?_setIfInBounds_self_of_lt D];rfl
      rw[this];exact E
    rw[aFA j]
    have:(a.tmps.setIfInBounds d v).getD t undef=a.tmps.getD t undef:=by
      rw[aF7,aGR j,←aF7]
    rw[this];exact DX le (h t)
theorem S3 {n:Nat}: ∀{u:List (Nat×qJ)},JQ n u=true→∀{i:Nat},i∈qQ u→i<n
  | (k,b)::u,h,i,hi=>by
    simp only[JQ,aFL,aFI] at h;simp only[qQ,aFN] at hi;rcases hi with rfl|hi
    .exact h.1
    exact S3 h.2 hi
theorem Oy (a:Act) (d:Option Tmp) (v:q9):(a.put d v).tmps.size=a.tmps.size:=by
  cases d<;>simp [Act.put]
theorem Oz (a:Act) (d:Option Tmp) (v:q9):(a.put d v).defers=a.defers:=by
  cases d<;>simp [Act.put]
theorem vB.step {B:Nat}{g g':Gh}{w w':q8}{s:St}{a:Act}{o:Oper}{e:qY}{v:q9}(h:vB B g w s a) (k:AH g w s.H e g' w' v) (D:JP s.N o.dst=true) (hi:JQ (s.nb+32) e.upd=true):
    vB B g' w' ⟨uH o.dst e.slot s.env,r7 e.upd s.H,s.nb+32,s.N,s.np⟩ (a.put o.dst v):=by
  refine⟨jp h.env k.le k.slot h.size D,k.heap,(Oy _ _ _).trans h.size,fun i j=>?_,by rw[Oz];exact h.def_.eff h.heap k,aGA h.np (Nat.le_add_right _ _)⟩;have:i∉qQ e.upd:=fun hm=>by have:=S3 hi hm;simp only at j;omega
  have z:=k.gho i this;have hb:=h.nb i (by simp only at j;omega);exact⟨z.1.trans hb.1,fun n=>by rw[z.2];exact hb.2 n⟩
theorem Pa {T:sW}{Γ:tH}{ops:List Oper}: ∀(l:List Oper),vA T Γ ops l none=none
  |[]=>rfl
  |_::_=>rfl
theorem jq {T:sW}{Γ:tH}{ops:List Oper}{o:Oper}{l:List Oper}{x y:wB}(h:vA T Γ ops (o::l) (some x)=some y):
    ∃ e,AG T Γ ops o x.s=some e∧JP x.s.N o.dst=true∧JQ (x.s.nb+32) e.upd=true∧
      vA T Γ ops l (some ⟨⟨uH o.dst e.slot x.s.env,r7 e.upd x.s.H,x.s.nb+32,x.s.N,x.s.np⟩,r7 x.side (r7 (M7 x.s.H e.upd e.rds e.upd) e.side),e::x.es⟩)=some y:=by
  simp only[vA] at h;cases z:AG T Γ ops o x.s with
  |none=>rw[z] at h;simp only[WH] at h;rw[Pa] at h;cases h
  | some e=>
    rw[z] at h;simp only[WH] at h;by_cases j:(JP x.s.N o.dst&&JQ (x.s.nb+32) e.upd)=true
    · rw[aFz j] at h
      simp only[aFL] at j;exact⟨e,rfl,j.1,j.2,h⟩
    rw[aFA j,Pa] at h;cases h
theorem I1 {T:sW}{Γ:tH}{ops:List Oper}: ∀{l:List Oper}{x y:wB},vA T Γ ops l (some x)=some y→(∀p∈x.side,p∈y.side)∧y.s.N=x.s.N∧y.s.np=x.s.np
  | [],x,y,h=>by
    simp only[vA,aFy] at h;subst h;exact⟨fun _ h=>h,rfl,rfl⟩
  | o::l,x,y,h=>by
    obtain⟨e,_,_,_,h4⟩:=jq h;obtain⟨D,z,j⟩:=I1 h4;exact⟨fun p hp=>D p (xG.2 (.inl hp)),z,j⟩
def GB (ro:pY):Fence:={Fence.wide with round:=ro}
theorem Pb {ro:pY}{n:Nat}{P:Program}{f:FuncId}{args:Array q9}{w:q8}{R:Ending→q8→Prop}(h:Calls P f args w R):CallsIn (GB ro) n P f args w R:=callsIn_wide.2 h
section
variable {B:Nat}{P:Program}{T:sW}{Γ:tH}(hT:xU P T) (hΓ:ET P Γ) {A:Nat→Nat→Prop}{L:List qJ}{g0:Gh}{w0:q8}{Q:Exit→Act→q8→Prop}
include hT hΓ
theorem a6d {g:Gh}{w:q8}{s:St}{a:Act}(h:vB B g w s a) (e:qY):yJ g s.nb e:=fun i _ hb=>h.nb i hb
omit hT hΓ in
theorem Pc {ops:List Oper}{o:Oper}{s:St}{e:qY}(h:AG T Γ ops o s=some e): ∀c,o.op≠.defer c:=by
  intro c D;replace h:=(S1 h).1;unfold P0 at h;cases z:o.guard with
  |none=>rw[z,D] at h;simp [OZ,uN,OX] at h
  | some jb=>
    rw[z,D] at h;simp only at h;cases j:Γ (WG jb.1 jb.2) with
    |some _=>rw[j] at h;cases h
    | none=>
      rw[j] at h;simp only[RD] at h;cases E:HP s.env jb.2 (AQ ops jb.1)<;>rw[E] at h<;>simp [OY,uN,JN] at h
omit hT hΓ in
theorem Pd {ro:pY}{o:Oper}{a:Act}{w:q8}{K:Act→q8→Prop}(j: ∀c,o.op≠.defer c) (h:o.wp P a w K Q):o.wpIn (GB ro) 0 P a w K Q:=by
  refine⟨fun _ _=>trivial,?_⟩;rw[Oper.semAt_eq _ _ _ j];unfold Oper.wp at h;generalize (execOp a.eval o).run P w=r at h|-;unfold Oper.upon at h;unfold Oper.uponIn;split at h
  .exact h
  .exact h
  .exact h
  .exact⟨fun h0=>(by cases h0),Pb h⟩
  .exact⟨fun h0=>(by cases h0),fun c cs _=>let ⟨v,w',r,s⟩:=h c cs;⟨v,w',r,stepsIn_wide.2 s⟩⟩
  .exact h
  exact h.elim
theorem Pe {ro:pY}{ops:Array Oper}: ∀{l:List Oper}{x y:wB}{a:Act}{w:q8}{g:Gh},vA T Γ ops.toList l (some x)=some y→(∀p∈y.side,p)→vB B g w x.s a→tJ A L g0 w0 g w x.s.H→L.length=x.s.np→
    (∀g' a' w',vB B g' w' y.s a'→tJ A L g0 w0 g' w' y.s.H→Q .normal a' w')→wpListIn (GB ro) 0 P ops Q l a w
  | [],x,y,a,w,g,h,z,hr,E,D,F=>by
    simp only[vA,aFy] at h;subst h;exact F g a w hr E
  | o::l,x,y,a,w,g,h,z,hr,E,D,F=>by
    obtain⟨e,G,I,h3,h4⟩:=jq h;have j: ∀p∈e.side,p:=fun p hp=>z p ((I1 h4).1 p (xG.2 (.inr (xG.2 (.inr hp)))));have key:=Ou hT hΓ (ops:=ops.toList) (o:=o) (a:=a) (K:=wpListIn (GB ro) 0 P ops Q l) (Q:=Q) hr.env hr.heap G j (a6d hT hΓ hr e) (fun g' w' v k=>Pe h4 z (hr.step k I h3) (E.eff k (D▸(S1 G).2)) D F);simp only[aG6] at key;unfold wpListIn;split at key
    .rename_i hw;rw[aFz hw];exact Pd (Pc G) key
    rename_i hw;rw[aFA hw];exact⟨fun _ _=>trivial,key⟩
theorem a6e {ro:pY}{id:Nat}{ops:Array Oper}{s:St}{y:wB}{a:Act}{w:q8}{g:Gh}(h:vA T Γ ops.toList ops.toList (some ⟨s,[],[]⟩)=some y) (j: ∀p∈y.side,p) (hr:vB B g w s a) (D:tJ A L g0 w0 g w s.H) (z:L.length=s.np)
    (E: ∀g' a' w',vB B g' w' y.s a'→tJ A L g0 w0 g' w' y.s.H→Q .normal a' w'):(Code.region id ops false).wpIn (GB ro) 0 P Q a w:=
  wpIn_region_list (Pe hT hΓ h j hr D z E)
end
theorem a6f {H H':List (Nat×qJ)}{t:Ty}{i off:Nat}{e:qY}(h:JK H t i off (qO H i)=some e) (hl: ∀id∈e.rds,qO H' id=qO H id):i∈e.rds∧JK H' t i off (qO H' i)=some e:=by
  have key: ∃k n v x ts,qO H i=some (.cells v x ts)∧C6 v x=some (k,n)∧VG t i off k n v x (qO H k)=some e∧e.rds=[1000000000,i,k]:=by
    unfold JK at h;split at h
    case h_2=>cases h
    rename_i v x ts hb;cases hf:C6 v x with
    |none=>rw[hf] at h;cases h
    | some q=>
      obtain⟨k,n⟩:=q;rw[hf] at h;refine⟨k,n,v,x,ts,hb,hf,h,?_⟩;simp only[VH] at h;unfold VG at h;split at h
      case h_2=>cases h
      generalize AE _ _ _ _=z at h;cases z with
      |none=>cases h
      | some z=>
        obtain⟨v',x'⟩:=z;simp only[dk] at h;unfold dj at h;split at h
        .simp only[aFy] at h;rw[←h]
        cases h
  obtain⟨k,n,v,x,ts,D,j,h3,h4⟩:=key;refine⟨by rw[h4];simp,?_⟩;rw[hl i (by rw[h4];simp),D];simp only[JK,j,VH];rw[hl k (by rw[h4];simp)];exact h3
theorem jr {ρ ρ':Operand→qK}: ∀{xs:List Operand},(∀x∈xs,ρ' x=ρ x)→vY ρ' xs=vY ρ xs
  |[],_=>rfl
  |x::xs,h=>by simp only[vY,h x pR,jr (fun y j=>h y (aFK _ j))]
theorem js {ρ ρ':Operand→qK}: ∀{xs:List (Nat×Operand)},(∀x∈xs,ρ' x.2=ρ x.2)→uM ρ' xs=uM ρ xs
  |[],_=>rfl
  |(i,x)::xs,h=>by simp only[uM,h (i,x) pR,js (fun y j=>h y (aFK _ j))]
theorem Pf {T:sW}{ρ ρ':Operand→qK}: ∀{xs:List Operand}{ts:List TypeId},(∀x∈xs,ρ' x=ρ x)→C8 T ρ' xs ts=C8 T ρ xs ts
  |[],_,_=>by simp [C8]
  |_::_,[],_=>by simp [C8]
  |x::xs,t::ts,h=>by simp only[C8,h x pR,Pf (fun y j=>h y (aFK _ j))]
theorem a6g {T:sW}{Γ:tH}{ty:TypeId}{ρ ρ':Operand→qK}{base:Nat}{H:List (Nat×qJ)}(op:Op) (h: ∀x∈op.operands,ρ' x=ρ x):uN T Γ ty ρ' base H op=uN T Γ ty ρ base H op:=by
  cases op
  case slice t x lo hi mx=>
    cases mx with
    |some m=>rfl
    | none=>
      have F:=h x (by simp [Op.operands])
      have E:AF ρ' lo=AF ρ lo:=by
        cases lo with
        |none=>rfl
        |some l=>simp only[AF,h l (by simp [Op.operands])]
      have h3:AF ρ' hi=AF ρ hi:=by
        cases hi with
        |none=>rfl
        |some l=>simp only[AF,h l (by simp [Op.operands])]
      simp only[uN,F,E,h3]
  case call c=>
    obtain⟨callee,args,tys⟩:=c
    have z: ∀x∈args.toList,ρ' x=ρ x:=fun x j=>h x (by
      have:x∈args:=by simpa using j
      simp only[Op.operands,Call.operands];split<;>simp [this])
    cases callee with
    |builtin b=>cases b<;>simp only[uN,M5,jr z]
    | value f=>
      have hf:=h f (by simp [Op.operands,Call.operands]);simp only[uN,M5,hf];cases M1 args.toList tys.toList with
      |false=>rfl
      |true=>simp only[fi,Pf z]
    |_=>rfl
  case build t ps=>simp only[uN,js (fun x j=>h x.2 (by simp only[Op.operands,aHy];exact List.mem_map_of_mem j))]
  case buildSlice t n ps=>simp only[uN,js (fun x j=>h x.2 (by simp only[Op.operands,aHy];exact List.mem_map_of_mem j))]
  case makeFunc f first caps=>
    cases f with
    | func f=>
      have D: ∀x∈caps.toList,ρ' x=ρ x:=fun x j=>h x (by
        have:x∈caps:=by simpa using j
        simp [Op.operands,this])
      simp only[uN,jr D]
    |_=>rfl
  all_goals first
    |rfl
    |(simp only[Op.operands,aHy,aFN,aG5,or_false,forall_eq,forall_eq_or_imp] at h;simp only[uN,h])
    |(simp [Op.operands] at h;simp only[uN,h])
theorem jt: ∀{l acc:List rT}{i:Nat},i∈sM (zP l acc)↔i∈sM l∨i∈sM acc
  |[],_,_=>by simp [zP,sM]
  | w::l,acc,i=>by
    simp only[zP,jt,sM,aFN];constructor
    · rintro(h|h|h)
      .exact .inl (.inr h)
      .exact .inl (.inl h)
      exact .inr h
    rintro((h|h) |h)
    .exact .inr (.inl h)
    .exact .inl h
    exact .inr (.inr h)
section
variable {H H':List (Nat×qJ)}
theorem a6h {k:pY}{a b:t8}(h:AB H k (some a)=some b):(∀i,i∈sM a.ws→i∈sM b.ws)∧((∀i,i∈sM b.ws→qO H' i=qO H i)→AB H' k (some a)=some b):=by
  cases k with
  | none=>
    have h:none=some b:=h;cases h
  | some k=>
    simp only[AB] at h|-
    have:(∃e c m,qO H k=some (.grow e c m)):=by
      cases j:qO H k with
      |none=>rw[j] at h;cases h
      | some bl=>cases bl with
        |grow e c m=>exact⟨_,_,_,rfl⟩
        |_=>rw[j] at h;cases h
    obtain⟨e,c,m,j⟩:=this;rw[j] at h;simp only[CN] at h;split at h
    .cases h
    rename_i hm
    simp only[aFy] at h;subst h;refine⟨fun i hi=>by simp only[sM,aFN];exact .inr hi,fun hl=>?_⟩;rw[hl k (by simp [sM,rT.id]),j];simp only[CN];rw[aFA hm]
theorem a6i (H:List (Nat×qJ)) (k:pY):AB H k none=none:=by
  cases k with
  |none=>rfl
  | some k=>
    simp only[AB];cases qO H k with
    |none=>rfl
    |some bl=>cases bl<;>rfl
theorem Ph (H:List (Nat×qJ)) (toks:pU) (o:Nat): ∀(qs:pZ),zI H toks o qs none=none
  |[]=>rfl
  |q::qs=>by simp only[zI,a6i,Ph H toks o qs]
theorem Pi {H H':List (Nat×qJ)}{toks:pU}{o:Nat}: ∀{qs:pZ}{a b:t8},zI H toks o qs (some a)=some b→(∀i,i∈sM a.ws→i∈sM b.ws)∧((∀i,i∈sM b.ws→qO H' i=qO H i)→zI H' toks o qs (some a)=some b)
  |[],a,b,h=>by simp only[zI,aFy] at h;subst h;exact⟨fun _ h=>h,fun _=>rfl⟩
  | q::qs,a,b,h=>by
    simp only[zI] at h|-;cases hm:AB H (xQ toks (o+q)) (some a) with
    |none=>rw[hm,Ph] at h;cases h
    | some m=>
      rw[hm] at h;obtain⟨z,j⟩:=a6h (H':=H') hm;obtain⟨h3,h4⟩:=Pi (H':=H') h;exact⟨fun i hi=>h3 i (z i hi),fun hl=>by rw[j (fun i hi=>hl i (h3 i hi))];exact h4 hl⟩
theorem a6j (H H':List (Nat×qJ)) (a:t8) (s:qK):yD H' a .v s=yD H a .v s:=by
  obtain⟨d,k⟩:=s;cases d with
  | val t x=>
    cases t with
    | clo=>
      cases x with
      |none=>rfl
      |some q=>obtain⟨f,l⟩:=q;cases l<;>rfl
    |_=>rfl
  |_=>rfl
theorem Pj {H H':List (Nat×qJ)}{t:Ty}{os:pZ}{i o:Nat}{a b:t8}(h:w9 H t os i o a (qO H i)=some b):(∀i,i∈sM a.ws→i∈sM b.ws)∧((∀i,i∈sM b.ws→qO H' i=qO H i)→w9 H' t os i o a (qO H' i)=some b):=by
  cases D:qO H i with
  |none=>rw[D] at h;simp [w9] at h
  | some bl=>
    rw[D] at h;cases bl with
    | cells u x toks=>
      simp only[w9] at h;cases z:rE t u x o with
      |none=>rw[z] at h;simp [FZ] at h
      | some y=>
        rw[z] at h;simp only[FZ] at h;split at h
        · rename_i F
          obtain⟨h3,h4⟩:=Pi (H':=H') h;refine⟨fun j E=>h3 j (by simp only[sM,aFN];exact .inr E),fun hl=>?_⟩;rw[hl i (h3 i (by simp [sM,rT.id])),D];simp only[w9,z,FZ];rw[aFz F];exact h4 hl
        .cases h
    |_=>simp [w9] at h
theorem a6k (H:List (Nat×qJ)) (f:FuncId) (args:List qK) (ks:List (Ty×pZ)) (cs ids:pU):yC H f args ks cs ids none=none:=by cases ks<;>cases cs<;>rfl
theorem Pk {H H':List (Nat×qJ)}{f:FuncId}{args:List qK}: ∀{ks:List (Ty×pZ)}{cs ids:pU}{a b:t8},yC H f args ks cs ids (some a)=some b→(∀i,i∈sM a.ws→i∈sM b.ws)∧((∀i,i∈sM b.ws→qO H' i=qO H i)→yC H' f args ks cs ids (some a)=some b)
  | [],[],ids,a,b,h=>by
    simp only[yC,aFy] at h|-;subst h;exact⟨fun _ h=>h,fun _=>rfl⟩
  |[],_::_,_,_,_,h=>by simp [yC] at h
  |_::_,[],_,_,_,h=>by simp [yC] at h
  | (t,os)::ks,(i,o)::cs,ids,a,b,h=>by
    simp only[yC] at h|-;cases hb:w9 H t os i o a (qO H i) with
    |none=>rw[hb,a6k] at h;cases h
    | some m=>
      rw[hb] at h;obtain⟨z,j⟩:=Pj (H':=H') hb;obtain⟨h3,h4⟩:=Pk (H':=H') h;exact⟨fun i hi=>h3 i (z i hi),fun hl=>by rw[j (fun i hi=>hl i (h3 i hi))];exact h4 hl⟩
theorem Pm {p:PK}{s:qK}{a b:t8}(h:yD H a p s=some b):(∀i,i∈sM a.ws→i∈sM b.ws)∧((∀i,i∈sM b.ws→qO H' i=qO H i)→yD H' a p s=some b):=by
  by_cases F:p= .v
  · subst F
    refine⟨?_,fun _=>by rw[a6j H H'];exact h⟩;unfold yD at h;split at h
    .simp only[V0,aFy] at h;subst h;exact fun _ h=>h
    · simp only[UZ] at h
      split at h
      .simp only[aFy] at h;subst h;exact fun _ h=>h
      cases h
    .simp only[V1,aFy] at h;subst h;exact fun _ h=>h
    .rename_i D;cases D
    .rename_i D;cases D
    .rename_i D;cases D
    .rename_i D;cases D
    .rename_i D;cases D
    .rename_i D;cases D
    cases h
  unfold yD at h;split at h
  .exact absurd rfl F
  .exact absurd rfl F
  .exact absurd rfl F
  · rename_i t x k
    simp only[yD];cases z:qO H k with
    |none=>rw[z] at h;simp [CO] at h
    | some bl=>
      rw[z] at h;cases bl with
      | grow e c m=>
        simp only[CO] at h;split at h
        · rename_i E
          simp only[aFy] at h;subst h;refine⟨fun i hi=>by simp only[sM,aFN];exact .inr hi,fun hl=>?_⟩;rw[hl k (by simp [sM,rT.id]),z];simp only[CO];rw[aFz E]
        .cases h
      |_=>simp [CO] at h
  · rename_i t os i o k
    simp only[yD];exact Pj h
  · rename_i i k
    simp only[yD];cases z:qO H i with
    |none=>rw[z] at h;simp [CP] at h
    | some bl=>
      rw[z] at h;cases bl with
      | map s t l=>
        simp only[CP] at h;split at h
        · rename_i E
          simp only[aFy] at h;subst h;refine⟨fun j G=>by simp only[sM,aFN];exact .inr G,fun hl=>?_⟩;rw[hl i (by simp [sM,rT.id]),z];simp only[CP];rw[aFz E]
        .cases h
      |_=>simp [CP] at h
  · rename_i k n k'
    simp only[yD];cases z:qO H k with
    |none=>rw[z] at h;simp [yB] at h
    | some bl=>
      rw[z] at h;cases bl with
      | row e t l m=>
        simp only[yB] at h;split at h
        · rename_i E
          simp only[aFy] at h;subst h;refine⟨fun j G=>by simp only[sM,aFN];exact .inr G,fun hl=>?_⟩;rw[hl k (by simp [sM,rT.id]),z];simp only[yB];rw[aFz E]
        .cases h
      | grow e c m=>
        simp only[yB] at h;split at h
        · rename_i E
          simp only[aFy] at h;subst h;refine⟨fun j G=>by simp only[sM,aFN];exact .inr G,fun hl=>?_⟩;rw[hl k (by simp [sM,rT.id]),z];simp only[yB];rw[aFz E]
        .cases h
      |_=>simp [yB] at h
  · simp only[yD]
    exact Pk h
  · have hb:=h
    unfold QT at hb;split at hb
    · rename_i E
      simp only[aFy] at hb;subst hb;exact⟨fun _ h=>h,fun _=>by simp only[yD,E,QT]⟩
    cases hb
  cases h
theorem Pn (H:List (Nat×qJ)) (gs:List (Nat×Nat×PK)):C1 H gs none=none:=by cases gs<;>rfl
theorem Po {H H':List (Nat×qJ)}: ∀{gs:List (Nat×Nat×PK)}{a b:t8},C1 H gs (some a)=some b→(∀i,i∈sM a.ws→i∈sM b.ws)∧((∀i,i∈sM b.ws→qO H' i=qO H i)→C1 H' gs (some a)=some b)
  |[],a,b,h=>by simp only[C1,aFy] at h;subst h;exact⟨fun _ h=>h,fun _=>rfl⟩
  | (c,q,pk)::gs,a,b,h=>by
    simp only[C1] at h|-;cases hm:yD H a pk (LP q pk (JH a.H (a.n-1-c))) with
    |none=>rw[hm] at h;simp only[OL,Pn] at h;cases h
    | some m=>
      rw[hm] at h;simp only[OL] at h;obtain⟨z,j⟩:=Pm (H':=H') hm;obtain⟨h3,h4⟩:=Po (H':=H') h;exact⟨fun i hi=>h3 i (z i hi),fun hl=>by rw[j (fun i hi=>hl i (h3 i hi))];simp only[OL];exact h4 hl⟩
theorem a6l (H:List (Nat×qJ)): ∀(ps:List PK) (ss:List qK),yE H ps ss none=none
  |[],[]=>rfl
  |[],_::_=>rfl
  |_::_,[]=>rfl
  |_::_,_::_=>rfl
theorem Pp {H H':List (Nat×qJ)}: ∀{ps:List PK}{ss:List qK}{a b:t8},yE H ps ss (some a)=some b→(∀i,i∈sM a.ws→i∈sM b.ws)∧((∀i,i∈sM b.ws→qO H' i=qO H i)→yE H' ps ss (some a)=some b)
  |[],[],a,b,h=>by simp only[yE,aFy] at h;subst h;exact⟨fun _ h=>h,fun _=>rfl⟩
  |[],_::_,a,b,h=>by simp [yE] at h
  |_::_,[],a,b,h=>by simp [yE] at h
  | p::ps,s::ss,a,b,h=>by
    simp only[yE] at h|-;cases hm:yD H a p s with
    |none=>rw[hm,a6l] at h;cases h
    | some m=>
      rw[hm] at h;obtain⟨z,j⟩:=Pm (H':=H') hm;obtain⟨h3,h4⟩:=Pp (H':=H') h;exact⟨fun i hi=>h3 i (z i hi),fun hl=>by rw[j (fun i hi=>hl i (h3 i hi))];exact h4 hl⟩
theorem Pq {H H':List (Nat×qJ)}{base:Nat}{args:List qK}{s:rH}{e:qY}(h:HG H base args (some s)=some e) (hl: ∀i∈e.rds,qO H' i=qO H i):HG H' base args (some s)=some e:=by
  simp only[HG] at h|-;cases j:yE H s.ps args (some ⟨[],[],[],0⟩) with
  |none=>rw[j,Pn] at h;cases h
  |some a0=>
   rw[j] at h;cases hp:C1 H s.gs (some a0) with
   |none=>rw[hp] at h;cases h
   |some a=>
    rw[hp] at h
    have z: ∀i,i∈sM (zP a.ws [])→i∈e.rds:=by
      simp only[QZ] at h;cases D:JI (zP a.ws []) (zP a.H []) with
      |none=>rw[D] at h;cases h
      |some L=>
      rw[D] at h;simp only[V7] at h;cases E:s.C (zP a.args []) L with
      |none=>rw[E] at h;cases h
      | some r=>
        rw[E] at h;simp only[V6] at h;unfold QX at h;split at h
        · simp only[aFy] at h
          rw[←h];exact fun i hi=>xG.2 (.inl hi)
        cases h
    obtain⟨g1,g2⟩:=Po (H':=H') hp;rw[(Pp (H':=H') j).2 (fun i hi=>hl i (z i (jt.2 (.inl (g1 i hi))))),g2 (fun i hi=>hl i (z i (jt.2 (.inl hi))))];exact h
theorem Pr {H H':List (Nat×qJ)}{base:Nat}{args:List qK}{s:Option rH}{e:qY}(h:LZ H base args s=some e) (hl: ∀i∈e.rds,qO H' i=qO H i):LZ H' base args s=some e:=by
  cases s with
  |none=>cases h
  | some s=>
    simp only[LZ] at h|-;cases hr:s.row with
    | some F=>
      rw[hr] at h;simp only[W6] at h|-;unfold VA at h|-;split at h
      · rename_i k n x
        cases j:qO H k with
        |none=>rw[j] at h;cases h
        | some b=>
          have z:k∈e.rds:=by
            rw[j] at h;cases b with
            | row e0 t l m=>
              simp only[cp] at h;unfold Jv at h;split at h
              .simp only[aFy] at h;rw[←h];simp
              .cases h
            |_=>cases h
          rw[hl k z];exact h
      .cases h
    | none=>
      rw[hr] at h;simp only[W6] at h|-;cases E:R0 s.ps args with
      |none=>rw[E] at h;exact Pq h hl
      | some k=>
        rw[E] at h;simp only[Ju] at h|-;cases j:qO H k with
        |none=>rw[j] at h;cases h
        | some b=>
          rw[j] at h;cases b with
          | row e0 t l m=>
            simp only[R2] at h;cases hi:HG ((k,.dead)::H) base (R1 k t l args) (some s) with
            |none=>rw[hi] at h;cases h
            | some e1=>
              rw[hi] at h
              have z:k∈e.rds∧∀i∈e1.rds,i∈e.rds:=by
                unfold co at h;split at h
                · rename_i heq
                  simp only[aFy] at heq;subst heq;unfold cn at h;split at h
                  · split at h
                    · simp only[aFy] at h
                      rw[←h];exact⟨by simp,fun i hi=>aFK _ hi⟩
                    cases h
                  cases h
                cases h
              rw[hl k z.1,j];simp only[R2]
              rw[Pq hi (fun i D=>by
                simp only[qO];split
                .rfl
                exact hl i (z.2 i D))]
              exact h
          |_=>cases h
theorem Ps {Γ:tH}{base:Nat}{args:List qK}{f:qK}{e:qY}(h:M0 Γ H base args f=some e) (hl: ∀i∈e.rds,qO H' i=qO H i):M0 Γ H' base args f=some e:=by
  unfold M0 at h|-;split at h
  .exact Pr h hl
  .exact Pr h hl
  cases h
theorem Pt {H H':List (Nat×qJ)}: ∀{ks:pU}{ps:List Prop}{bs:List (Nat×qJ)},C7 H ks=some (ps,bs)→(∀p∈ks,p.1∈qQ bs)∧((∀p∈ks,qO H' p.1=qO H p.1)→C7 H' ks=some (ps,bs))
  |[],ps,bs,h=>⟨fun p hp=>(by cases hp),fun _=>h⟩
  | (k,n)::r,ps,bs,h=>by
    simp only[C7] at h;split at h
    .cases h
    rename_i E
    cases j:VI k n (qO H k) with
    |none=>rw[j] at h;simp [LW] at h
    | some q=>
      obtain⟨pp,b⟩:=q;cases z:C7 H r with
      |none=>rw[j,z] at h;simp [LW] at h
      | some q2=>
        obtain⟨ps2,bs2⟩:=q2;rw[j,z] at h;simp only[LW,aFy,aF3] at h;obtain⟨rfl,rfl⟩:=h;obtain⟨k1,k2⟩:=Pt (H':=H') z;refine⟨fun p hp=>?_,fun D=>?_⟩
        · rcases aFN.1 hp with rfl|hp
          .simp [qQ]
          simp only[qQ,aFN];exact .inr (k1 p hp)
        simp only[C7]
        rw[aFA E,D _ aFT,j,k2 (fun p hp=>D p (aFK _ hp))];rfl
theorem a6m {H H':List (Nat×qJ)}: ∀{t:Ty}{x:t.den},(∀p∈BA t x,qO H' p.1=qO H p.1)→B9 H' t x=B9 H t x:=by
  intro t
  induction t with
  | rl e u=>
    intro x h;cases x with
    |none=>rfl
    | some p=>
      simp only[B9,dl];rw[h p (by simp [BA,dm])]
  | pair a b iha ihb=>
    intro x h;simp only[B9];rw[iha (fun p hp=>h p (by simp only[BA];exact HT.2 (.inl hp))),ihb (fun p hp=>h p (by simp only[BA];exact HT.2 (.inr hp)))]
  |_=>intro x h;rfl
theorem a6n {H H':List (Nat×qJ)}{t:Ty}{i off:Nat}{e:qY}(h:LX H t i off (qO H i)=some e) (hl: ∀id∈e.rds,qO H' id=qO H id):LX H' t i off (qO H' i)=some e:=by
  have key: ∃v x ts z ps bs,qO H i=some (.cells v x ts)∧B9 H v x=some z∧C7 H (BA v x)=some (ps,bs)∧VJ t i (some (ps,bs)) (rE t (HJ v) z off)=some e∧e.rds=i::qQ bs:=by
    unfold LX at h;split at h
    case h_2=>cases h
    rename_i v x ts hb;cases D:B9 H v x with
    |none=>rw[D] at h;cases h
    | some z=>
      rw[D] at h;simp only[VK] at h;cases j:C7 H (BA v x) with
      |none=>rw[j] at h;cases h
      | some q=>
        obtain⟨ps,bs⟩:=q;rw[j] at h;refine⟨v,x,ts,z,ps,bs,hb,D,j,h,?_⟩;unfold VJ at h;split at h
        · rename_i e1 e2
          cases e1;simp only[aFy] at h;rw[←h]
        cases h
  obtain⟨v,x,ts,z,ps,bs,I,G,h3,h4,F⟩:=key;obtain⟨k1,k2⟩:=Pt (H':=H') h3;have E: ∀p∈BA v x,qO H' p.1=qO H p.1:=fun p hp=>hl _ (by rw[F];exact aFK _ (k1 p hp));rw[hl i (by rw[F];exact aFT),I];simp only[LX];rw[a6m E,G];simp only[VK];rw[k2 E];exact h4
theorem a6o {H H':List (Nat×qJ)}{i off k n:Nat}{ti:TI}{e:qY}(h:OS H i off k n ti (qO H i)=some e) (hl: ∀id∈e.rds,qO H' id=qO H id):OS H' i off k n ti (qO H' i)=some e:=by
  obtain⟨ty,el,by',ar,ls⟩:=ti;cases ty with
  | list u=>
    cases hb:qO H i with
    |none=>rw[hb] at h;cases h
    | some b=>
      cases b with
      | cells v x ts=>
        rw[hb] at h;simp only[OS] at h
        have hi:i∈e.rds:=by
          rcases Ms h with h|h|h
          · unfold OQ at h;split at h
            .simp only[aFy] at h;rw[←h];simp
            cases h
          · unfold dw at h;split at h
            .simp only[aFy] at h;rw[←h];simp
            cases h
          unfold RA at h;split at h
          · split at h
            · unfold VQ at h;split at h
              .simp only[aFy] at h;rw[←h];simp
              cases h
            cases h
          cases h
        rw[hl i hi,hb];simp only[OS];unfold dz at h|-;cases j:OQ v i (tK ts off 1) (sQ (.rl el u) (some (k,n)) v x off) with
        |some r=>rw[j] at h;exact h
        | none=>
          rw[j] at h;cases ls with
          |nil=>exact h
          | cons q r=>
            simp only[Kj] at h|-
            have z:k∈e.rds:=by
              unfold RA at h;split at h
              · split at h
                · unfold VQ at h;split at h
                  .simp only[aFy] at h;rw[←h];simp
                  cases h
                cases h
              cases h
            rw[hl k z];exact h
      |_=>rw[hb] at h;cases h
  |_=>cases h
theorem a6p {Γ:tH}{H H':List (Nat×qJ)}{x:Nat×Nat×(Nat×Nat)×(Nat×Nat)}{args:List qK}{ti:Option TI}{e:qY}(h:M4 Γ H x args ti=some e) (hl: ∀id∈e.rds,qO H' id=qO H id):M4 Γ H' x args ti=some e:=by
  unfold M4 at h;split at h
  case h_2=>cases h
  rename_i c i k3 n3 k4 n4 s kk el by' ar ls;simp only[M4]
  have key:e.rds=[i,k3,k4]:=by
    unfold WA at h;split at h
    case h_2=>cases h
    unfold fe at h;split at h
    case h_2=>cases h
    unfold ez at h;split at h
    case h_2=>cases h
    unfold ew at h;split at h
    case h_2=>cases h
    unfold eu at h;split at h
    .simp only[aFy] at h;rw[←h]
    cases h
  rw[hl i (by rw[key];simp)];unfold WA at h|-;split at h
  case h_2=>cases h
  rw[hl k3 (by rw[key];simp),hl k4 (by rw[key];simp)];exact h
theorem a6q {T:sW}{Γ:tH}{H H':List (Nat×qJ)}{base:Nat}{args:List qK}{f:qK}{e:qY}(h:OU T Γ base H args f=some e) (hl: ∀i∈e.rds,qO H' i=qO H i):OU T Γ base H' args f=some e:=by
  unfold OU at h|-;split at h
  .exact a6p h hl
  · unfold fh at h|-
    split at h
    · rename_i hf
      rw[aFz hf];exact h
    rename_i hf
    rw[aFA hf];exact Ps h hl
  exact Ps h hl
theorem a6r {T:sW}{Γ:tH}{ty:TypeId}{ρ:Operand→qK}{base:Nat}{op:Op}{e:qY}(h:uN T Γ ty ρ base H op=some e) (hl: ∀i∈e.rds,qO H' i=qO H i):uN T Γ ty ρ base H' op=some e:=by
  cases op
  case load t x=>
    simp only[uN] at h|-;unfold VL at h|-;split at h
    · rename_i ti k n c i o' _ e1 e2
      unfold R7 at h;split at h
      · rename_i e' t' l m j
        split at h
        · rename_i E
          have:e.rds=[k]:=by
            unfold Kc at h;split at h
            .simp only[aFy] at h;rw[←h]
            cases h
          rw[hl k (by rw[this];simp),j];simp only[R7];rw[aFz E];exact h
        cases h
      cases h
    .exact h
    · rename_i ti i off k e1 e2
      split at h
      · rename_i hq
        rw[aFz hq];exact a6n h hl
      rename_i hq;rw[aFA hq];rcases Mf h with K|⟨h0,K⟩
      · have hi:i∈e.rds:=by
          rcases Me K with h|h
          · unfold R6 at h
            split at h
            · unfold Kb at h;split at h
              .simp only[aFy] at h;rw[←h];simp
              cases h
            cases h
          unfold VF at h
          split at h
          · unfold dg at h;split at h
            .simp only[aFy] at h;rw[←h];simp
            cases h
          cases h
        rw[hl i hi,K];rfl
      obtain⟨hi,V⟩:=a6f K hl
      rw[hl i hi,h0];rw[hl i hi] at V;exact V
    cases h
  case store t x y=>
    simp only[uN] at h|-;unfold VU at h|-;split at h
    · rename_i ti i off k kk n k' e1 e2 e3
      exact a6o h hl
    · rename_i ti i off _ d _ e1 e2 e3
      have hi:i∈e.rds:=by
        unfold dr at h;split at h
        · unfold dq at h
          split at h
          · unfold dp at h
            split at h
            .simp only[aFy] at h;rw[←h];simp
            cases h
          cases h
        cases h
      rw[hl i hi];exact h
    · rename_i ti k n c i o' _ t y k' e1 e2 e3
      split at h
      · rename_i O
        rw[aFz O];unfold VT at h;split at h
        · rename_i e' t' l m j
          split at h
          · rename_i E
            have:e.rds=[k]:=by
              unfold Ki at h;split at h
              .simp only[aFy] at h;rw[←h]
              cases h
            rw[hl k (by rw[this];simp),j];simp only[VT];rw[aFz E];exact h
          cases h
        cases h
      cases h
    · rename_i ti i off k t y k' e1 e2 e3
      split at h
      · rename_i O
        have hi:e.rds=[i]:=by
          have main: ∀e0,HK base i off (qO H i) ti.ls t y k'=some e0→e0.rds=[i]∧∃b r,e0.upd=(i,b)::r:=by
            intro e0 h;unfold HK at h;split at h
            · unfold VN at h
              split at h
              · unfold Kf at h;split at h
                .simp only[aFy] at h;rw[←h];exact⟨rfl,_,_,rfl⟩
                cases h
              cases h
            unfold VM at h
            split at h
            · unfold OQ at h;split at h
              .simp only[aFy] at h;rw[←h];exact⟨rfl,_,_,rfl⟩
              cases h
            cases h
          cases I:LY t with
          |false=>rw[I] at h;exact(main e h).1
          | true=>
            rw[I] at h;simp only[dn] at h;cases h0:HK base i off (qO H i) ti.ls t y k' with
            |none=>rw[h0] at h;cases h
            | some e0=>
              rw[h0] at h;obtain⟨m1,b,r,m2⟩:=main e0 h0;obtain⟨sd,s,up,rd⟩:=e0;simp only at m1 m2;subst m1 m2;unfold R9 at h;split at h
              · rename_i heq
                cases heq;split at h
                · unfold VO at h
                  split at h
                  .simp only[aFy] at h;rw[←h]
                  cases h
                cases h
              cases h
        rw[hl i (by rw[hi];simp)];simp only[aFz O];exact h
      cases h
    cases h
  case call c=>
    obtain⟨callee,args,tys⟩:=c;cases callee with
    | builtin b=>
      cases b
      case append=>
        simp only[uN,M5] at h|-;unfold W9 at h|-;split at h
        · split at h
          · rename_i M
            rw[aFz M];unfold W4 at h|-;split at h
            · split at h
              · rename_i Q
                rw[aFz Q];unfold W3 at h;split at h
                · rename_i j
                  split at h
                  · rename_i R
                    split at h
                    · rename_i E
                      simp only[aFy] at h;subst h;rw[hl _ (aFT),j];simp only[W3];rw[aHB R,aFz E]
                    cases h
                  cases h
                cases h
              cases h
            · split at h
              · rename_i U
                rw[aHB U];unfold VZ at h;split at h
                · rename_i j
                  split at h
                  · rename_i E
                    simp only[aFy] at h;subst h;rw[hl _ (aFT),j];simp only[VZ];rw[aFz E]
                  cases h
                cases h
              cases h
            cases h
          rename_i M
          rw[aFA M];unfold eq at h|-;split at h
          · unfold W8 at h
            split at h
            · rename_i j
              split at h
              · rename_i E
                simp only[aFy] at h;subst h;rw[hl _ (aFT),j];simp only[W8];rw[aFz E]
              cases h
            cases h
          cases h
        cases h
      case len=>
        simp only[uN,M5] at h|-;unfold W7 at h|-;split at h
        · unfold eo at h|-
          split at h
          · unfold VY at h
            split at h
            · rename_i j
              simp only[aFy] at h;subst h;rw[hl _ (aFT),j];simp only[VY]
            cases h
          all_goals exact h
        cases h
      all_goals exact h
    | value f=>
      simp only[uN,M5] at h|-;cases G:M1 args.toList tys.toList with
      |false=>rw[G] at h;cases h
      |true=>rw[G] at h;exact a6q h hl
    |_=>exact h
  case makeFunc f first caps=>
    cases f with
    |func f=>exact h
    |_=>exact h
  case slice t x lo hi mx=>
    cases mx with
    |none=>exact h
    |some m=>exact h
  case next x b=>
    simp only[uN] at h|-;unfold WF at h|-;split at h
    · rename_i i k e1
      unfold fq at h;split at h
      · rename_i j
        have:e.rds=[i]:=by
          simp only[aFy] at h;rw[←h]
        rw[hl i (by rw[this];simp),j];exact h
      cases h
    cases h
  case lookup xt x ix ok=>
    simp only[uN] at h|-;unfold WC at h|-;split at h
    · rename_i el fl ar ls_ i kk e1 e2
      unfold fk at h|-;split at h
      · rename_i kt vt k a _
        split at h
        · rename_i F
          rw[aFz F];unfold WB at h;split at h
          · rename_i j
            split at h
            · rename_i D
              split at h
              · rename_i z
                have:e.rds=[i]:=by
                  cases ok<;>(simp only[aFy] at h;rw[←h])
                rw[hl i (by rw[this];simp),j];simp only[WB];rw[aHB D,aFz z];exact h
              cases h
            cases h
          cases h
        cases h
      cases h
    .exact h
    cases h
  case mapUpdate mt m x y=>
    simp only[uN] at h|-;unfold OW at h|-;split at h
    · rename_i el fl ar ls_ i kk e1 e2
      unfold WD at h|-;split at h
      · rename_i kt k a _ u b _
        split at h
        · rename_i F
          rw[aFz F];unfold OV at h;split at h
          · rename_i j
            split at h
            · rename_i D
              split at h
              · rename_i z
                have:e.rds=[i]:=by
                  simp only[aFy] at h;rw[←h]
                rw[hl i (by rw[this];simp),j];simp only[OV];rw[aHB D,aFz z];exact h
              cases h
            cases h
          cases h
        cases h
      cases h
    cases h
  case insert mt m x y=>
    simp only[uN] at h|-;unfold OW at h|-;split at h
    · rename_i el fl ar ls_ i kk e1 e2
      unfold WD at h|-;split at h
      · rename_i kt k a _ u b _
        split at h
        · rename_i F
          rw[aFz F];unfold OV at h;split at h
          · rename_i j
            split at h
            · rename_i D
              split at h
              · rename_i z
                have:e.rds=[i]:=by
                  simp only[aFy] at h;rw[←h]
                rw[hl i (by rw[this];simp),j];simp only[OV];rw[aHB D,aFz z];exact h
              cases h
            cases h
          cases h
        cases h
      cases h
    cases h
  all_goals exact h
end
def a6s {T:sW}{Γ:tH}{ops:Array Oper}{o:Oper}{s s':St}{e:qY}(h:P0 T Γ ops.toList o s=some e) (R: ∀t∈o.looksAt ops,lk s'.env t=lk s.env t) (hH: ∀i∈e.rds,qO s'.H i=qO s.H i) (hn:s'.nb=s.nb):P0 T Γ ops.toList o s'=some e:=by
 have z: ∀x∈o.op.operands,u7 s'.env x=u7 s.env x:=fun x D=>by
  cases x with
  |tmp t=>exact R t (by simp only[Oper.looksAt,aGl,List.mem_filterMap];exact .inl ⟨.tmp t,by simpa using D,rfl⟩)
  |_=>rfl
 have I:CU s'.env (sV o.op)=CU s.env (sV o.op):=by
  have O: ∀x∈sV o.op,x∈o.op.operands:=by
   have hp: ∀(l:List (Nat×Operand)) x,x∈sV.parts l->x∈l.map (·.2):=by
    intro l
    induction l with
    |nil=>intro x h;exact h
    |cons q l ih=>
     intro x h;obtain⟨i,y⟩:=q;simp only[sV.parts,aFN] at h;rcases h with rfl|h
     .simp
     simp only[aGB,aFN];exact .inr (ih x h)
   have ho: ∀(y:Option Operand) x,x∈sV.opt y->y=some x:=by
    intro y x h;cases y with
    |none=>cases h
    |some y=>simp only[sV.opt,aFR] at h;rw[h]
   intro x D;cases z:o.op
   case call c=>
    rw[z] at D;obtain⟨callee,args,tys⟩:=c;cases callee<;>simp_all [sV,Op.operands,Call.operands]
   case slice t y lo hi mx=>
    rw[z] at D;simp only[sV,aFN,xG] at D;simp only[Op.operands,Array.mem_append];rcases D with rfl|D|D
    .simp
    .have:=ho _ _ D;subst this;simp
    have:=ho _ _ D;subst this;simp
   case build t ps=>rw[z] at D;simp only[Op.operands,aHy];exact hp _ _ D
   case buildSlice t n ps=>rw[z] at D;simp only[Op.operands,aHy];exact hp _ _ D
   all_goals (rw[z] at D;simp_all [sV,Op.operands])
  have: ∀(l:List Operand),(∀x∈l,x∈o.op.operands)->CU s'.env l=CU s.env l:=by
   intro l
   induction l with
   |nil=>intro _;rfl
   |cons x l ih=>intro h;simp only[CU,z x (h x pR),ih (fun y hy=>h y (aFK _ hy))]
  exact this _ O
 have M: ∀{e0:qY},uN T Γ o.type (fun x=>uB (u7 s.env x)) s.nb s.H o.op=some e0->e0.rds=e.rds->uN T Γ o.type (fun x=>uB (u7 s'.env x)) s'.nb s'.H o.op=some e0:=by
  intro e0 h1 h2;rw[a6g (ρ:=fun x=>uB (u7 s.env x)) (ρ':=fun x=>uB (u7 s'.env x)) o.op (fun x D=>by simp only[z x D]),hn];exact a6r h1 (by rw[h2];exact hH)
 unfold P0 at h|-;cases Q:o.guard with
 |none=>
  rw[Q] at h;simp only at h|-;by_cases F: ∃c x y,o.op= .pick c x y
  .obtain⟨c,x,y,hp⟩:=F;rw[hp] at h|-;simp only[OZ] at h|-;rw[z c (by rw[hp];simp [Op.operands]),z x (by rw[hp];simp [Op.operands]),z y (by rw[hp];simp [Op.operands])];exact h
  .have e1: ∀s,OZ T Γ o s o.op=OX (zR true (CU s.env (sV o.op))) (uN T Γ o.type (fun x=>uB (u7 s.env x)) s.nb s.H o.op):=by
    intro s;cases ho:o.op<;>first|rfl|(exact absurd ⟨_,_,_,ho⟩ F)
   rw[e1] at h|-;rw[I];cases E:uN T Γ o.type (fun x=>uB (u7 s.env x)) s.nb s.H o.op with
   |none=>rw[E] at h;cases h
   |some e0=>
    rw[E] at h;simp only[OX,aFy] at h;rw[M E (by rw[<-h])];simp only[OX,h]
 |some jb=>
  obtain⟨j,b⟩:=jb;rw[Q] at h;simp only at h|-;have Y:HP s'.env b (AQ ops.toList j)=HP s.env b (AQ ops.toList j):=by
   rw[RZ];cases U:(ops.toList[j]?).bind (·.dst) with
   |none=>rfl
   |some t=>
    simp only[HP];rw[R t (by
     simp only[Oper.looksAt,Q,aGl];right;have:(ops[j]?).bind (·.dst)=some t:=by simpa using U
     rw[this];simp)]
  have V:M6 s'.env b (AQ ops.toList j)=M6 s.env b (AQ ops.toList j):=by
   rw[RZ];cases U:(ops.toList[j]?).bind (·.dst) with
   |none=>rfl
   |some t=>
    simp only[M6];rw[R t (by
     simp only[Oper.looksAt,Q,aGl];right;have:(ops[j]?).bind (·.dst)=some t:=by simpa using U
     rw[this];simp)]
  rw[Y,V];cases K:Γ (WG j b) with
  |some sg=>rw[K] at h;exact h
  |none=>
  rw[K] at h;simp only[RD] at h|-;cases Z:HP s.env b (AQ ops.toList j) with
  |none=>rw[Z] at h;cases h
  |some G=>
   rw[Z] at h;by_cases F: ∃c x y,o.op= .pick c x y
   .obtain⟨c,x,y,hp⟩:=F;rw[hp] at h|-;simp only[OY] at h|-;rw[z c (by rw[hp];simp [Op.operands]),z x (by rw[hp];simp [Op.operands]),z y (by rw[hp];simp [Op.operands])];exact h
   have e1: ∀s,OY T Γ o s (some G) o.op=JN G (zR G (CU s.env (sV o.op))) (uN T Γ o.type (fun x=>uB (u7 s.env x)) s.nb s.H o.op):=by
    intro s;cases ho:o.op<;>first|rfl|(exact absurd ⟨_,_,_,ho⟩ F)
   rw[e1] at h|-;rw[I];cases E:uN T Γ o.type (fun x=>uB (u7 s.env x)) s.nb s.H o.op with
   |none=>rw[E] at h;cases h
   |some e0=>
    rw[E] at h;have X:e0.rds=e.rds:=by
     unfold JN at h;split at h
     .rename_i heq;simp only[aFy] at h heq;subst heq;rw[<-h]
     .rename_i heq;simp only[aFy] at h heq;subst heq;rw[<-h]
     cases h
    rw[M E X];exact h
def ju {T:sW}{Γ:tH}{ops:Array Oper}{o:Oper}{s s':St}{e:qY}(h:AG T Γ ops.toList o s=some e) (z: ∀t∈o.looksAt ops,lk s'.env t=lk s.env t) (hH: ∀i∈e.rds,qO s'.H i=qO s.H i) (D:s'.nb=s.nb) (hp:s'.np=s.np):AG T Γ ops.toList o s'=some e:=by
 obtain⟨j,E⟩:=S1 h;unfold AG at h|-;rw[j] at h;rw[a6s j z hH D,hp];exact h
def uW {α:Type}(p:Nat->Bool) (wr:Nat->Option α) (b:α):Nat->α
 |0=>b
 |k+1=>if p k=true then(wr k).getD (uW p wr b k) else uW p wr b k
def MR {α:Type}{p q:Nat->Bool}{wr:Nat->Option α}{b:α}: ∀{n:Nat},(∀j,j<n->wr j≠none->p j=q j)->uW p wr b n=uW q wr b n
 |0,_=>rfl
 |n+1,h=>by
  simp only[uW];have ih:=MR (p:=p) (q:=q) (wr:=wr) (b:=b) (n:=n) (fun j z=>h j pP);cases hw:wr n with
  |none=>simp [ih]
  |some v=>rw[h n pP (by rw[hw];simp),ih]
def jv {α:Type}{wr:Nat->Option α}{b:α}{i:Nat}: ∀{n:Nat},i<=n->uW (fun j=>decide (j<i)) wr b n=uW (fun _=>true) wr b i
 |0,h=>by
  have:i=0:=by omega
  subst this;rfl
 |n+1,h=>by
  by_cases hi:i=n+1
  .subst hi;exact MR (fun j z _=>by simp [z])
  have: ¬n<i:=by omega
  simp only[uW];rw[aFA (by simp [this])];exact jv pP
def XL {α:Type}{p q:Nat->Bool}{wr:Nat->Option α}{b:α}{i:Nat}(hi:p i=false) (hq: ∀j,q j=if j=i then true else p j): ∀{n:Nat},i<n->(∀j,i<j->j<n->p j=true->wr j=none\/wr i=none)->uW q wr b n=(wr i).getD (uW p wr b n)
 |0,h,_=>by omega
 |n+1,h,E=>by
  simp only[uW];by_cases D:n=i
  .subst D;rw[aFz (by rw[hq];simp),aFA (by simp [hi])];rw[MR (p:=q) (q:=p) (fun j F _=>by rw[hq,aFA pP])]
  have ih:=XL (b:=b) hi hq (n:=n) pP (fun j z G=>E j z pP);rw[hq,aFA D,ih];by_cases hp:p n=true
  .rw[aFz hp,aFz hp];rcases E n pP pP hp with z|z
   .rw[z];rfl
   rw[z];rfl
  rw[aFA hp,aFA hp]
def jw {α:Type}{p:Nat->Bool}{wr:Nat->Option α}{b:α}: ∀(k:Nat),uW p wr b (k+1)=uW (fun j=>p (j+1)) (fun j=>wr (j+1)) (if p 0=true then(wr 0).getD b else b) k
 |0=>rfl
 |k+1=>by
  rw[uW,jw k];rfl
def jx {rds:pZ}{i:Nat}: ∀{u:List (Nat×qJ)},i∈qQ (JR rds u)↔i∈qQ u/\CV i rds=false
 |[]=>by simp [JR,qQ]
 |(j,b)::u=>by
  simp only[JR];cases h:CV j rds with
  |true=>
   rw[aFz rfl,jx (u:=u)];simp only[qQ,aFN];constructor
   .rintro⟨D,z⟩;exact⟨.inr D,z⟩
   .rintro⟨rfl|D,z⟩
    .rw[h] at z;cases z
    .exact⟨D,z⟩
  |false=>
   rw[aFA pR];simp only[qQ,aFN,jx (u:=u)];constructor
   .rintro(rfl|⟨D,z⟩)
    .exact⟨.inl rfl,h⟩
    exact⟨.inr D,z⟩
   rintro⟨rfl|D,z⟩
   .exact .inl rfl
   exact .inr ⟨D,z⟩
def P8 {e:qY}{i:Nat}:i∈qQ (yG e)↔i∈qQ e.upd/\CV i e.rds=false:=jx
def Pu {i:Nat}: ∀{l:pZ},CV i l=true->i∈l
 |[],h=>by cases h
 |j::l,h=>by
  simp only[CV] at h;split at h
  .rename_i e;subst e;exact aFT
  exact aFK _ (Pu h)
def Pv {H U:List (Nat×qJ)}{rds:pZ}{i:Nat}(h:CV i rds=true): ∀{u:List (Nat×qJ)},i∈qQ u->(qO U i=qO H i)∈M7 H U rds u
 |[],hi=>by cases hi
 |(j,b)::u,hi=>by
  simp only[M7];simp only[qQ,aFN] at hi;rcases hi with rfl|hi
  .rw[aFz h];exact aFT
  have:=Pv (H:=H) (U:=U) h hi;split
  .exact aFK _ this
  exact this
def a6t {H:List (Nat×qJ)}{e:qY}(z: ∀p∈M7 H e.upd e.rds e.upd,p) {i:Nat}(j:i∈qQ e.upd) (D:i∉qQ (yG e)):qO e.upd i=qO H i/\i∈e.rds:=by
 have h:CV i e.rds=true:=by
  cases h3:CV i e.rds with
  |true=>rfl
  |false=>exact absurd (P8.2 ⟨j,h3⟩) D
 exact⟨z _ (Pv h j),Pu h⟩
def BE (os:List Oper) (es:List qY) (t j:Nat):Option qK:=
 match os[j]?,es[j]? with
 |some o,some e=>if o.dst=some t then some e.slot else none
 |_,_=>none
def yK (es:List qY) (id j:Nat):Option (Option qJ):=
 match es[j]? with
 |some e=>if id∈qQ (yG e) then some (qO e.upd id) else none
 |none=>none
def P9 {id:Nat}{H:sF}: ∀{u:List (Nat×qJ)},qO (r7 u H) id=if id∈qQ u then qO u id else qO H id
 |[]=>by simp [r7,qQ]
 |(k,b)::u=>by
  simp only[r7,qO,qQ,aFN];by_cases h:k=id
  .subst h;simp
  rw[aFA h,aFA h,P9 (u:=u)];have:(id=k\/id∈qQ u)↔id∈qQ u:=⟨fun j=>j.resolve_left (Ne.symm h),.inr⟩;simp only[this]
def Pw {d:Option Tmp}{s:qK}{env:List (Nat×qK)}{t:Nat}:lk (uH d s env) t=if d=some t then s else lk env t:=by
 cases d with
 |none=>simp [uH]
 |some d=>simp only[uH,lk,aFy]
structure jy (T:sW) (Γ:tH) (ops:List Oper) (os:List Oper) (es:List qY) (s:St) (y:wB) (k:Nat) (o:Oper) (e:qY) (sk:St):Prop where
 ev:AG T Γ ops o sk=some e
 nb:sk.nb=s.nb+32*k
 dst:JP s.N o.dst=true
 ids:JQ (s.nb+32*k+32) e.upd=true
 np:sk.np=s.np
 side: ∀p∈e.side,p∈y.side
 env: ∀t,lk sk.env t=uW (fun _=>true) (BE os es t) (lk s.env t) k
 heap: ∀id,qO sk.H id=uW (fun _=>true) (yK es id) (qO s.H id) k
 same: ∀id,id∈qQ e.upd->id∉qQ (yG e)->qO e.upd id=qO sk.H id/\id∈e.rds
structure jz (T:sW) (Γ:tH) (ops:List Oper) (os:List Oper) (es:List qY) (s:St) (y:wB):Prop where
 len:es.length=os.length
 nb:y.s.nb=s.nb+32*os.length
 step: ∀k o e,os[k]? =some o->es[k]? =some e->∃sk,jy T Γ ops os es s y k o e sk
 env: ∀t,lk y.s.env t=uW (fun _=>true) (BE os es t) (lk s.env t) os.length
 heap: ∀id,qO y.s.H id=uW (fun _=>true) (yK es id) (qO s.H id) os.length
def XM {T:sW}{Γ:tH}{ops:List Oper}: ∀{l:List Oper}{x y:wB},vA T Γ ops l (some x)=some y->(∀p∈y.side,p)->∃es:List qY,y.es=es.reverse++x.es/\jz T Γ ops l es x.s y
 |[],x,y,h,_=>by
  simp only[vA,aFy] at h;subst h;exact⟨[],rfl,rfl,rfl,fun k o e h=>by simp at h,fun _=>rfl,fun _=>rfl⟩
 |o::l,x,y,h,E=>by
  obtain⟨e,M,K,h3,h4⟩:=jq h;obtain⟨es,O,D⟩:=XM h4 E;have j: ∀{i:Nat},i∈qQ e.upd->i∉qQ (yG e)->qO e.upd i=qO x.s.H i/\i∈e.rds:=fun M K=>a6t (fun p hp=>E p ((I1 h4).1 p (xG.2 (.inr (xG.2 (.inl hp)))))) M K;have envs: ∀t k,uW (fun _=>true) (BE (o::l) (e::es) t) (lk x.s.env t) (k+1)=uW (fun _=>true) (BE l es t) (lk (uH o.dst e.slot x.s.env) t) k:=fun t k=>by
   rw[jw,aFz rfl,Pw];have:(BE (o::l) (e::es) t 0).getD (lk x.s.env t)=if o.dst=some t then e.slot else lk x.s.env t:=by
    simp only[BE,aF8];split<;>rfl
   rw[this];rfl
  have z: ∀id k,uW (fun _=>true) (yK (e::es) id) (qO x.s.H id) (k+1)=uW (fun _=>true) (yK es id) (qO (r7 e.upd x.s.H) id) k:=fun id k=>by
   rw[jw,aFz rfl,P9];have:(yK (e::es) id 0).getD (qO x.s.H id)=if id∈qQ e.upd then qO e.upd id else qO x.s.H id:=by
    simp only[yK,aF8];by_cases G:id∈qQ (yG e)
    .rw[aFz G,aFz (P8.1 G).1];rfl
    rw[aFA G];by_cases I:id∈qQ e.upd
    .rw[aFz I,(j I G).1];rfl
    rw[aFA I];rfl
   rw[this];rfl
  refine⟨e::es,by rw[O];simp,by simp [D.len],?_,?_,fun t=>?_,fun id=>?_⟩
  .have:=D.nb;simp only at this;rw[this];simp only[aFF];omega
  .intro k o' e' ho F;cases k with
   |zero=>
    simp only[aF8,aFy] at ho F;subst ho;subst F;exact⟨x.s,M,rfl,K,h3,rfl,fun p hp=>(I1 h4).1 p (xG.2 (.inr (xG.2 (.inr hp)))),fun _=>rfl,fun _=>rfl,fun id=>j⟩
   |succ k=>
    simp only[aGk] at ho F;obtain⟨sk,q⟩:=D.step k o' e' ho F;refine⟨sk,q.ev,by rw[q.nb];simp only;omega,q.dst,?_,q.np,q.side,fun t=>by rw[q.env t,envs],fun id=>by rw[q.heap id,z],q.same⟩;have:=q.ids;simp only at this;rw[show x.s.nb+32*(k+1)+32=x.s.nb+32+32*k+32 by omega];exact this
  .rw[aFF,envs];exact D.env t
  rw[aFF,z];exact D.heap id
def Px {i0 j0:Nat}{ops:Array Oper}{bs:pZ}{nb i:Nat}{o:Oper}{e:qY}: ∀{ps:List Oper}{fs:List qY}{j:Nat},WI i0 j0 ops bs nb i o e ps fs j=true->∀k p f,ps[k]? =some p->fs[k]? =some f->
  (bs.getD (j+k) 0).testBit i=true\/(o.apart ops p=true/\(HR e f=true\/(i=i0/\j+k=j0))/\M8 (nb+32*i) f.upd=true)
 |p::ps,f::fs,j,h,k,p',f',hp,hf=>by
  simp only[WI,aFL,aGU,aFI] at h;cases k with
  |zero=>
   simp only[aF8,aFy] at hp hf;subst hp;subst hf;exact h.1.imp id (fun h=>⟨h.1.1,h.1.2,h.2⟩)
  |succ k=>
   simp only[aGk] at hp hf;have:=Px h.2 k p' f' hp hf;rw[show j+(k+1)=j+1+k by omega];exact this
 |[],_,_,_,_,_,_,hp,_=>by simp at hp
 |_::_,[],_,_,_,_,_,_,hf=>by simp at hf
def ka {i0 j0:Nat}{ops:Array Oper}{bs:pZ}{nb:Nat}: ∀{os:List Oper}{es:List qY}{m:Nat},WJ i0 j0 ops bs nb os es m=true->∀i j o e p f,i<j->os[i]? =some o->es[i]? =some e->os[j]? =some p->es[j]? =some f->
  (bs.getD (m+j) 0).testBit (m+i)=true\/(o.apart ops p=true/\(HR e f=true\/(m+i=i0/\m+j=j0))/\M8 (nb+32*(m+i)) f.upd=true)
 |o'::os,e'::es,m,h,i,j,o,e,p,f,D,ho,z,hp,hf=>by
  simp only[WJ,aFL] at h;obtain⟨j,rfl⟩: ∃k,j=k+1:=⟨j-1,pP⟩;simp only[aGk] at hp hf;cases i with
  |zero=>
   simp only[aF8,aFy] at ho z;subst ho;subst z;have:=Px h.1 j p f hp hf;rw[show m+(j+1)=m+1+j by omega];exact this
  |succ i=>
   simp only[aGk] at ho z;have:=ka h.2 i j o e p f pP ho z hp hf;rw[show m+(j+1)=m+1+j by omega,show m+(i+1)=m+1+i by omega];exact this
 |[],_,_,_,_,_,_,_,_,_,_,ho,_,_,_=>by simp at ho
 |_::_,[],_,_,_,_,_,_,_,_,_,_,z,_,_=>by simp at z
def Py: ∀{os:List Oper}{m:Nat},WK os m=true->∀i o,os[i]? =some o->∀e∈o.after,Region.binds .any e=true->e.on<m+i
 |o'::os,m,h,i,o,ho,e,j,hb=>by
  simp only[WK,aFL] at h;cases i with
  |zero=>
   simp only[aF8,aFy] at ho;subst ho;have:=aGt.1 h.1 e (by simpa using j);simpa[hb] using this
  |succ i=>
   simp only[aGk] at ho;have:=Py h.2 i o ho e j hb;omega
 |[],_,_,_,_,ho,_,_,_=>by simp at ho
def XN {l:pZ}: ∀{u:List (Nat×qJ)},RE u l=false->∀i,i∈qQ u->i∉l
 |(k,b)::u,h,i,hi=>by
  simp only[RE,aGV] at h;simp only[qQ,aFN] at hi;rcases hi with rfl|hi
  .simpa using h.1
  exact XN h.2 i hi
def PA {a b:qY}(h:HR a b=true):(∀i∈qQ (yG a),i∉b.rds/\i∉qQ b.upd)/\(∀i∈qQ (yG b),i∉a.rds):=by
 simp only[HR,aFL,aF2] at h;exact⟨fun i hi=>⟨fun j=>XN h.1 i hi (xG.2 (.inl j)),fun j=>XN h.1 i hi (xG.2 (.inr j))⟩,fun i hi=>XN h.2 i hi⟩
def Pz {lo:Nat}: ∀{u:List (Nat×qJ)},M8 lo u=true->∀i∈qQ u,i<lo\/lo+32<=i
 |(k,b)::u,h,i,hi=>by
  simp only[M8,aFL,aGU,aFI] at h;simp only[qQ,aFN] at hi;rcases hi with rfl|hi
  .exact h.1
  exact Pz h.2 i hi
def kb (os:List Oper) (p:Nat->Bool):Prop:= ∀j o,os[j]? =some o->p j=true->∀e∈o.after,Region.binds .any e=true->p e.on=true
def Qa {p:Nat->Bool}{acc:Array Nat}(D: ∀i j,(acc.getD i 0).testBit j=true->p i=true->p j=true) {i:Nat}: ∀{es:List Edge}{s:Nat},(s.testBit i=true->p i=true)->(∀e∈es,Region.binds .any e=true->p e.on=true)->
  (es.foldl (fun s e=>if Region.binds .any e then s|||2^e.on|||acc.getD e.on 0 else s) s).testBit i=true->p i=true
 |[],s,E,_,h=>E h
 |e::es,s,E,F,h=>by
  simp only[List.foldl_cons] at h;refine Qa D (es:=es) (fun z=>?_) (fun e' G=>F e' (aFK _ G)) h;split at z
  .rename_i hb;simp only[Nat.testBit_or,aGU,Nat.testBit_two_pow,aFI] at z;rcases z with(z|z) |z
   .exact E z
   .rw[<-z];exact F e pR hb
   exact D _ _ z (F e pR hb)
  exact E z
def Qb {p:Nat->Bool}: ∀{os:List Oper}{acc:Array Nat},(∀i j,(acc.getD i 0).testBit j=true->p i=true->p j=true)->(∀j o,os[j]? =some o->p (acc.size+j)=true->∀e∈o.after,Region.binds .any e=true->p e.on=true)->
  ∀i j,((os.foldl (fun acc o=>acc.push (o.after.foldl (fun s e=>if Region.binds .any e then s|||2^e.on|||acc.getD e.on 0 else s) 0)) acc).getD i 0).testBit j=true->p i=true->p j=true
 |[],acc,z,_,i,j,h,hp=>z i j h hp
 |o::os,acc,z,D,i,j,h,hp=>by
  simp only[List.foldl_cons] at h;refine Qb (os:=os) (fun i j h hp=>?_) (fun k o' ho E=>?_) i j h hp
  .rw[aF7,Array.getElem?_push] at h;split at h
   .rename_i hi;simp only[aHF] at h;rw[<-aHE] at h;refine Qa z (es:=o.after.toList) (s:=0) (fun h=>by simp at h) (fun e F hb=>D 0 o rfl (by rw[hi] at hp;exact hp) e (by simpa using F) hb) h
   rw[<-aF7] at h;exact z i j h hp
  refine D (k+1) o' ho ?_;rw[Array.size_push] at E;rw[show acc.size+(k+1)=acc.size+1+k by omega];exact E
def Qc {ops:Array Oper}{p:Nat->Bool}(hp:kb ops.toList p) {i j:Nat}(h:((Region.before ops).toList.getD i 0).testBit j=true) (hi:p i=true):p j=true:=by
 refine Qb (os:=ops.toList) (acc:= #[]) (p:=p) (fun i j h=>by simp at h) (fun j o ho z=>hp j o ho (by simpa using z)) i j ?_ hi;unfold Region.before at h;rw[<-aHE] at h;rw[aF7,<-aGF,<-aFV];exact h
def DY (l:Array Bool):Nat->Nat
 |0=>0
 |k+1=>DY l k+if l.getD k false=true then 0 else 1
theorem Qd {l l':Array Bool}: ∀{n:Nat},(∀j,j<n->l'.getD j false=l.getD j false)->DY l' n=DY l n
 |0,_=>rfl
 |n+1,h=>by simp only[DY];rw[Qd (fun j z=>h j pP),h n pP]
theorem Qe {l:Array Bool}: ∀{n:Nat},DY l n=0->∀j,j<n->l.getD j false=true
 |n+1,h,j,E=>by
  simp only[DY] at h;by_cases D:l.getD n false=true
  .by_cases z:j=n
   .subst z;exact D
   exact Qe (n:=n) pP j pP
  rw[aFA D] at h;omega
theorem I2 {l:Array Bool}{i j:Nat}(hi:i<l.size):(l.setIfInBounds i true).getD j false=if j=i then true else l.getD j false:=by
 by_cases h:j=i
 .subst h;rw[aFz rfl,aF7,Array.getElem?_setIfInBounds_self_of_lt hi];rfl
 rw[aFA h,aF7,aGR (Ne.symm h),<-aF7]
theorem Qf {l:Array Bool}{i:Nat}(hi:i<l.size) (hf:l.getD i false=false): ∀{n:Nat},i<n->DY (l.setIfInBounds i true) n+1=DY l n
 |n+1,h=>by
  simp only[DY];by_cases z:n=i
  .subst z;rw[I2 hi,aFz rfl,aFz rfl,hf,Qd (l:=l) (fun j D=>by rw[I2 hi,aFA pP])];simp
  rw[I2 hi,aFA z];have:=Qf hi hf (n:=n) pP;omega
theorem Qg {p:Nat->Bool}: ∀{n:Nat},(∃j,j<n/\p j=false)->∃j,j<n/\p j=false/\∀k,k<j->p k=true
 |0,⟨j,h,_⟩=>by omega
 |n+1,⟨j,h,D⟩=>by
  by_cases z: ∃j,j<n/\p j=false
  .obtain⟨k,G,E,h3⟩:=Qg z;exact⟨k,pP,E,h3⟩
  refine⟨j,h,D,fun k F=>?_⟩;cases hp:p k with
  |true=>rfl
  |false=>exact absurd ⟨k,pP,hp⟩ z
theorem sK.ext {g:Gh}{w:q8}{H H':sF}(h:sK g w H) (e: ∀i,qO H' i=qO H i):sK g w H':=
 ⟨fun i b hb=>h.blk i b (by rw[<-e];exact hb),fun i j bi bj b o z E D=>h.dis i j bi bj b o z (by rw[<-e];exact E) (by rw[<-e];exact D),h.sl,h.tab.1,fun i b bb oo hb ho=>h.tab.2 i b bb oo (by rw[<-e];exact hb) ho⟩
theorem tJ.ext {A:Nat->Nat->Prop}{L:List qJ}{g0 g:Gh}{w0 w:q8}{H H':sF}(h:tJ A L g0 w0 g w H) (e: ∀i,qO H' i=qO H i):tJ A L g0 w0 g w H':=
 ⟨h.shut,h.fr,fun i blk b o hb=>h.perm i blk b o (by rw[<-e];exact hb),h.J,h.live,fun i u y us hi hb=>h.ty i u y us hi (by rw[<-e];exact hb),h.cur⟩
theorem Qh (g:Gh) (w:q8) (d:Nat):Le g w g {w with drawn:=d}:=⟨fun _ _ h=>h,fun _ _ _=>rfl,fun _ _ h=>h,fun _ _ _ h=>h⟩
theorem sK.drawn {g:Gh}{w:q8}{H:sF}(h:sK g w H) (d:Nat):sK g {w with drawn:=d} H:=
 ⟨fun i b hb=>JU (h.blk i b hb) (Qh g w d) rfl rfl (fun _ _ _=>⟨rfl,rfl⟩) (fun _ _=>rfl) (fun _ _ _ h=>h) (fun _ _ _ _ h=>h),h.dis,h.sl,JF h.tab.1 (aFW _) (fun _ _=>rfl),h.tab.2⟩
theorem tJ.drawn {A:Nat->Nat->Prop}{L:List qJ}{g0 g:Gh}{w0 w:q8}{H:sF}(h:tJ A L g0 w0 g w H) (d:Nat):tJ A L g0 w0 g {w with drawn:=d} H:=
 ⟨h.shut,⟨h.fr.os,h.fr.tape,h.fr.output,h.fr.size,h.fr.blk,h.fr.cell,h.fr.new,h.fr.shape⟩,h.perm,h.J,h.live,h.ty,h.cur⟩
theorem kc {rds:pZ}{id:Nat}(h:CV id rds=false): ∀{u:List (Nat×qJ)},qO (JR rds u) id=qO u id
 |[]=>rfl
 |(k,b)::u=>by
  simp only[JR,qO];by_cases j:k=id
  .subst j;rw[aFA (by rw[h];simp)];simp [qO]
  split
  .exact kc h
  simp only[qO,aFA j];exact kc h
theorem a6u {e:qY}{id:Nat}(h:CV id e.rds=false):qO (yG e) id=qO e.upd id:=kc h
theorem Qi {T:sW}{Γ:tH}{ops:List Oper}: ∀{k:Nat}{l:List Oper}{x y:wB},vA T Γ ops l (some x)=some y->∃a,vA T Γ ops (l.take k) (some x)=some a/\vA T Γ ops (l.drop k) (some a)=some y
 |0,l,x,y,h=>⟨x,rfl,h⟩
 |k+1,[],x,y,h=>⟨x,rfl,h⟩
 |k+1,o::l,x,y,h=>by
  simp only[List.take_succ_cons,aHz,vA] at h|-;cases j:WH o x (AG T Γ ops o x.s) with
  |none=>
   rw[j] at h;cases l with
   |nil=>cases h
   |cons p l=>cases h
  |some z=>rw[j] at h;exact Qi h
theorem ke {α:Type}{p:Nat->Bool}{wr wr':Nat->Option α}{b:α}: ∀{n:Nat},(∀j,j<n->wr j=wr' j)->uW p wr b n=uW p wr' b n
 |0,_=>rfl
 |n+1,h=>by
  simp only[uW];rw[h n pP,ke (wr:=wr) (wr':=wr') (fun j z=>h j pP)]
theorem a6v {T:sW}{Γ:tH}{ops:Array Oper}{es:List qY}{s:St}{y a1:wB}{i0:Nat}{o1:Oper}{ex fx:qY}(run:jz T Γ ops.toList ops.toList es s y) (M: ∀p∈y.side,p) (F:ops.toList[i0]? =some o1) (D:vA T Γ ops.toList (ops.toList.take i0) (some ⟨s,[],[]⟩)=some a1)
  (K:y.es.reverse=es) (h:vA T Γ ops.toList ops.toList (some ⟨s,[],[]⟩)=some y) (G:AG T Γ ops.toList o1 ⟨a1.s.env,r7 (yG fx) a1.s.H,a1.s.nb,a1.s.N,a1.s.np⟩=some ex):
  ∀sk oi,ops.toList[i0]? =some oi->jy T Γ ops.toList ops.toList es s y i0 oi ex sk->AG T Γ ops.toList oi ⟨sk.env,r7 (yG fx) sk.H,sk.nb,sk.N,sk.np⟩=some ex:=by
 intro sk oi E st;rw[F] at E;cases E;obtain⟨a2,U,R⟩:=Qi (k:=i0) h;rw[D] at U;cases U;have X:i0<ops.toList.length:=(aFP.1 F).1;have z:(ops.toList.take i0).length=i0:=by rw[aGh];omega
 obtain⟨es2,e2,r2⟩:=XM R M;obtain⟨es1,e1,r1⟩:=XM D (fun p hp=>M p ((I1 R).1 p hp));have Q:es=es1++es2:=by rw[<-K,e2,e1];simp
 have V:es1.length=i0:=by rw[r1.len,z]
 have I:=I1 D;refine ju G (fun t _=>?_) (fun id _=>?_) ?_ ?_
 .show lk sk.env t=lk a1.s.env t;rw[st.env t,r1.env t,z];refine ke (fun j O=>?_);unfold BE;rw[Q,aFU pP,aGw O]
 .show qO (r7 (yG fx) sk.H) id=qO (r7 (yG fx) a1.s.H) id;rw[P9,P9,st.heap id,r1.heap id,z];have:uW (fun _=>true) (yK es id) (qO s.H id) i0=uW (fun _=>true) (yK es1 id) (qO s.H id) i0:=ke (fun j O=>by
   unfold yK;rw[Q,aFU pP])
  rw[this]
 .show sk.nb=a1.s.nb;rw[st.nb,r1.nb,z]
 show sk.np=a1.s.np;rw[st.np,I.2.2]
section
variable {B:Nat}{P:Program}{T:sW}{Γ:tH}(hT:xU P T) (hΓ:ET P Γ) {A:Nat->Nat->Prop}{L:List qJ}{g0:Gh}{w0:q8}{Q:Exit->Act->q8->Prop}
structure Qj (B:Nat) (A:Nat->Nat->Prop) (L:List qJ) (g0:Gh) (w0:q8) (ops:Array Oper) (es:List qY) (s:St) (listed:Array Bool) (g:Gh) (w:q8) (a:Act) (env:List (Nat×qK)) (H:sF):Prop where
 size:listed.size=ops.size
 closed:kb ops.toList (fun j=>listed.getD j false)
 eok:BC g w env a.tmps
 look: ∀t,lk env t=uW (fun j=>listed.getD j false) (BE ops.toList es t) (lk s.env t) ops.size
 heap:sK g w H
 get: ∀id,qO H id=uW (fun j=>listed.getD j false) (yK es id) (qO s.H id) ops.size
 tmps:a.tmps.size=s.N
 def_:AK B w a.defers
 good:tJ A L g0 w0 g w H
 len:L.length=s.np
 free: ∀j,j<ops.size->listed.getD j false=false->∀id,s.nb+32*j<=id->id<s.nb+32*j+32->g.J id=none/\∀n,g.cur id n=none
 top: ∀id,s.nb+32*ops.size<=id->g.J id=none/\∀n,g.cur id n=none
include hT hΓ
theorem a6w {i0 j0:Nat}{ro:pY}{ops:Array Oper}{es:List qY}{s:St}{y:wB}(run:jz T Γ ops.toList ops.toList es s y) (hs: ∀p∈y.side,p) (hB:WL i0 j0 ops s.nb es=true) (hE:i0<ops.size->i0<j0/\∃ex fx,es[i0]? =some ex/\ex.upd=[]/\es[j0]? =some fx/\∀sk oi,ops.toList[i0]? =some oi->jy T Γ ops.toList ops.toList es s y i0 oi ex sk->AG T Γ ops.toList oi ⟨sk.env,r7 (yG fx) sk.H,sk.nb,sk.N,sk.np⟩=some ex)
  (hQ: ∀g a w env H,BC g w env a.tmps->(∀t,lk env t=lk y.s.env t)->sK g w H->(∀id,qO H id=qO y.s.H id)->a.tmps.size=s.N->AK B w a.defers->tJ A L g0 w0 g w H->(∀id,s.nb+32*ops.size<=id->g.J id=none/\∀n,g.cur id n=none)->Q .normal a w):
  ∀(fuel:Nat) (listed:Array Bool) (g:Gh) (w:q8) (a:Act) (env:List (Nat×qK)) (H:sF),DY listed ops.size<=fuel->Qj B A L g0 w0 ops es s listed g w a env H->wpAnyIn (GB ro) 0 P .any ops Q fuel listed a w:=by
 simp only[WL,aFL] at hB;obtain⟨h5,hK⟩:=hB;have O:ops.toList.length=ops.size:=aGv;have done: ∀(listed:Array Bool) (g:Gh) (w:q8) (a:Act) (env:List (Nat×qK)) (H:sF),Qj B A L g0 w0 ops es s listed g w a env H->(∀j,j<ops.size->listed.getD j false=true)->Q .normal a w:=by
  intro listed g w a env H m I;refine hQ g a w env H m.eok (fun t=>?_) m.heap (fun id=>?_) m.tmps m.def_ m.good m.top
  .rw[m.look t,run.env t,O];exact MR (fun j E _=>I j E)
  rw[m.get id,run.heap id,O];exact MR (fun j E _=>I j E)
 have stuck: ∀(listed:Array Bool),listed.size=ops.size->Region.ready .any ops listed=[]->∀j,j<ops.size->listed.getD j false=true:=by
  intro listed kk hr j E;cases hp:listed.getD j false with
  |true=>rfl
  |false=>
   obtain⟨k,z,G,h3⟩:=Qg (p:=fun j=>listed.getD j false) ⟨j,E,hp⟩;have:k∈Region.ready .any ops listed:=by
    rw[mem_ready];refine⟨?_,ops[k],by simp [z],fun e he hb=>?_⟩
    .have G:listed.getD k false=false:=G;rw[aF7] at G|-;rw[aHx pP] at G|-;exact G
    have:=Py h5 k ops[k] (by simp [z]) e he hb;exact h3 e.on pP
   rw[hr] at this;cases this
 intro fuel
 induction fuel with
 |zero=>
  intro listed g w a env H hu m;have I:=Qe (l:=listed) (n:=ops.size) pP;refine⟨?_,done listed g w a env H m I⟩;cases hr:Region.ready .any ops listed with
  |nil=>rfl
  |cons i r=>
   have:i∈Region.ready .any ops listed:=by rw[hr];simp
   obtain⟨h0,o,ho,_⟩:=mem_ready.1 this;have hi:i<ops.size:=(aF1.1 ho).1;have:=I i hi;rw[aF7] at this h0;rw[aHx (by rw[m.size];exact hi)] at this h0;simp at this h0;rw[this] at h0;cases h0
 |succ fuel ih=>
  intro listed g w a env H hu m;refine⟨fun hr=>done listed g w a env H m (stuck listed m.size hr),fun i hi=>?_⟩;obtain⟨h0,o,ho,I⟩:=mem_ready.1 hi;have R:i<ops.size:=(aF1.1 ho).1;have U:i<listed.size:=by rw[m.size];exact R
  have hc:listed.getD i false=false:=by
   rw[aF7] at h0|-;rw[aHx U] at h0|-;exact h0
  have X:ops.toList[i]? =some o:=by simpa using ho
  obtain⟨e,he⟩: ∃e,es[i]? =some e:=⟨es[i]'(by rw[run.len,O];exact R),by simp⟩;obtain⟨sk,st⟩:=run.step i o e X he;have hA:kb ops.toList (fun j=>(listed.setIfInBounds i true).getD j false):=by
   intro j o' hC E ed hL hb;simp only[I2 U] at E|-;by_cases Y:j=i
   .subst Y;rw[X] at hC;obtain rfl:=aFE hC;have:=I ed hL hb;split
    .rfl
    exact this
   rw[aFA Y] at E;have:=m.closed j o' hC E ed hL hb;split
   .rfl
   exact this
  have hM: ∀j,((Region.before ops).toList.getD i 0).testBit j=true->j≠i->listed.getD j false=true:=by
   intro j E hS;have:=Qc hA E (by simp only[I2 U];simp);simp only[I2 U,aFA hS] at this;exact this
  have hN: ∀j,((Region.before ops).toList.getD j 0).testBit i=true->listed.getD j false=true->False:=by
   intro j E hl;have:=Qc m.closed E hl;rw[hc] at this;cases this
  have pairLt: ∀j p f,j<i->ops.toList[j]? =some p->es[j]? =some f->listed.getD j false=true\/(p.apart ops o=true/\(HR f e=true\/(j=i0/\i=j0))/\M8 (s.nb+32*j) e.upd=true):=by
   intro j p f Y hp hf;rcases ka hK j i p f o e Y hp hf X he with z|z
   .rw[aF6,aF6] at z;exact .inl (hM j z pP)
   rw[aF6,aF6] at z;exact .inr z
  have pairGt: ∀j p f,i<j->ops.toList[j]? =some p->es[j]? =some f->listed.getD j false=true->o.apart ops p=true/\(HR e f=true\/(i=i0/\j=j0)):=by
   intro j p f hk hp hf hl;rcases ka hK i j o e p f hk X he hp hf with z|z
   .rw[aF6,aF6] at z;exact(hN j z hl).elim
   rw[aF6,aF6] at z;exact⟨z.1,z.2.1⟩
  have same: ∀{α:Type}(wr:Nat->Option α) (b:α),(∀j p f,j<i->ops.toList[j]? =some p->es[j]? =some f->wr j≠none->p.apart ops o=true->(HR f e=true\/(j=i0/\i=j0))->False)->
    (∀j p f,i<j->ops.toList[j]? =some p->es[j]? =some f->wr j≠none->listed.getD j false=true->o.apart ops p=true->(HR e f=true\/(i=i0/\j=j0))->False)->(∀j,wr j≠none->∃f,es[j]? =some f)->
    uW (fun j=>listed.getD j false) wr b ops.size=uW (fun _=>true) wr b i:=by
   intro α wr b hI hY M;rw[<-jv (n:=ops.size) pP];refine MR (fun j E hw=>?_);obtain⟨f,hf⟩:=M j hw;have F:ops.toList[j]? =some ops[j]:=by simp [E]
   rcases Nat.lt_trichotomy j i with z|z|z
   .rw[aGe z];rcases pairLt j _ f z F hf with G|G
    .exact G
    exact(hI j _ f z F hf hw G.1 G.2.1).elim
   .subst z;simp [hc]
   have: ¬j<i:=by omega
   rw[decide_eq_false this];cases hl:listed.getD j false with
   |false=>rfl
   |true=>
    obtain⟨G,h3⟩:=pairGt j _ f z F hf hl;exact(hY j _ f z F hf hw hl G h3).elim
  have exS: ∀t j,BE ops.toList es t j≠none->∃f,es[j]? =some f:=by
   intro t j h;unfold BE at h;cases hf:es[j]? with
   |none=>rw[hf] at h;exact absurd (by split<;>first|rfl|(rename_i z;cases z)) h
   |some f=>exact⟨f,rfl⟩
  have exH: ∀t j,yK es t j≠none->∃f,es[j]? =some f:=by
   intro t j h;unfold yK at h;cases hf:es[j]? with
   |none=>rw[hf] at h;exact absurd rfl h
   |some f=>exact⟨f,rfl⟩
  have dS: ∀t j p f,ops.toList[j]? =some p->es[j]? =some f->BE ops.toList es t j≠none->p.dst=some t:=by
   intro t j p f hp hf h;unfold BE at h;rw[hp,hf] at h;simp only at h;split at h
   .assumption
   exact absurd rfl h
  have dH: ∀id j f,es[j]? =some f->yK es id j≠none->id∈qQ (yG f):=by
   intro id j f hf h;unfold yK at h;rw[hf] at h;simp only at h;split at h
   .assumption
   exact absurd rfl h
  have noW: ∀id j f,es[j]? =some f->yK es id j≠none->j=i0->False:=fun id j f hf hw E=>by
   subst E;obtain⟨_,ex,fx,M,hv,_⟩:=hE (by have:=(aFP.1 hf).1;rw[run.len,O] at this;exact this);have:=(P8.1 (dH id j _ M hw)).1;rw[hv] at this;cases this
  have hz: ∀id∈e.rds,¬(i=i0/\listed.getD j0 false=true)->qO H id=qO sk.H id:=fun id D hX=>by
   rw[m.get id,st.heap id];refine same _ _ (fun j p f _ hp hf hw _ V=>?_) (fun j p f _ hp hf hw hl _ V=>?_) (exH id)
   .rcases V with V|V
    .exact((PA V).1 id (dH id j f hf hw)).1 D
    exact noW id j f hf hw V.1
   rcases V with V|V
   .exact(PA V).2 id (dH id j f hf hw) D
   exact hX ⟨V.1,V.2▸hl⟩
  have hy: ∀t∈o.looksAt ops,lk env t=lk sk.env t:=fun t ht=>by
   rw[m.look t,st.env t];refine same _ _ (fun j p f _ hp hf hw V _=>?_) (fun j p f _ hp hf hw _ V _=>?_) (exS t)
   .exact(Oper.apart_spec V).1 t (dS t j p f hp hf hw) ht
   exact(Oper.apart_spec V).2.2 t (dS t j p f hp hf hw) ht
  have kl: ∀(s':St) (N':Nat),AG T Γ ops.toList o ⟨s'.env,s'.H,s'.nb,N',s'.np⟩=AG T Γ ops.toList o s':=fun _ _=>rfl;have hD:AG T Γ ops.toList o ⟨env,H,s.nb+32*i,s.N,s.np⟩=some e:=by
   by_cases hX:i=i0/\listed.getD j0 false=true
   .obtain⟨z,hV⟩:=hX;subst z;obtain⟨kd,ex,fx,M,hv,hJ,hR⟩:=hE R;rw[he] at M;cases M;refine ju (hR sk o X st) (fun t ht=>hy t ht) (fun id D=>?_) st.nb.symm st.np.symm;show qO H id=qO (r7 (yG fx) sk.H) id;have hW:j0<ops.size:=by
     have:=(aFP.1 hJ).1;rw[run.len,O] at this;exact this
    rw[m.get id,XL (p:=fun j=>listed.getD j false&& !decide (j=j0)) (i:=j0) pR (fun j=>by
     by_cases h:j=j0
     .subst h;rw[aFz rfl];exact hV
     rw[aFA h];simp [h]) hW (fun j z G h3=>?_)]
    .have hG:uW (fun j=>listed.getD j false&& !decide (j=j0)) (yK es id) (qO s.H id) ops.size=qO sk.H id:=by
      rw[st.heap id,<-jv (n:=ops.size) pP];refine MR (fun j E hw=>?_);obtain⟨f,hf⟩:=exH id j hw;have F:ops.toList[j]? =some ops[j]:=by simp [E]
      rcases Nat.lt_trichotomy j i with z|z|z
      .rw[aGe z];rcases pairLt j _ f z F hf with G|G
       .rw[G,decide_eq_false pP];rfl
       rcases G.2.1 with G|G
       .exact(((PA G).1 id (dH id j f hf hw)).1 D).elim
       omega
      .exact(noW id j f hf hw z).elim
      have h9: ¬j<i:=by omega
      rw[decide_eq_false h9];cases hl:listed.getD j false with
      |false=>rfl
      |true=>
       obtain⟨_,h3⟩:=pairGt j _ f z F hf hl;rcases h3 with h3|h3
       .exact((PA h3).2 id (dH id j f hf hw) D).elim
       rw[aGe h3.2];rfl
     rw[hG,P9];unfold yK;rw[hJ];simp only;by_cases h7:id∈qQ (yG fx)
     .rw[aFz h7,aFz h7,a6u (P8.1 h7).2];rfl
     rw[aFA h7,aFA h7];rfl
    left;have hl:listed.getD j false=true:=by
     cases h:listed.getD j false with
     |true=>rfl
     |false=>rw[h] at h3;cases h3
    cases hw:yK es id j with
    |none=>rfl
    |some v=>
     obtain⟨f,hf⟩:=exH id j (by rw[hw];simp);have F:ops.toList[j]? =some ops[j]:=by simp [G]
     obtain⟨_,h4⟩:=pairGt j _ f pP F hf hl;rcases h4 with h4|h4
     .exact((PA h4).2 id (dH id j f hf (by rw[hw];simp)) D).elim
     omega
   exact ju st.ev (fun t ht=>hy t ht) (fun id D=>hz id D hX) st.nb.symm st.np.symm
  have h6: ∀id,id∈qQ e.upd->¬(i=i0/\listed.getD j0 false=true):=fun id D hX=>by
   obtain⟨z,_⟩:=hX;subst z;obtain⟨_,ex,fx,M,hv,_⟩:=hE R;rw[he] at M;cases M;rw[hv] at D;cases D
  have hx:yJ g (s.nb+32*i) e:=fun id D hU=>m.free i R hc id hU (S3 st.ids D);have key:=Ou hT hΓ (ops:=ops.toList) (o:=o) (a:=a) (s:=⟨env,H,s.nb+32*i,s.N,s.np⟩) (K:=wpAnyIn (GB ro) 0 P .any ops Q fuel (listed.setIfInBounds i true)) (Q:=Q) m.eok m.heap hD (fun p hp=>hs p (st.side p hp)) hx (fun g' w' v k=>by
   refine ih (listed.setIfInBounds i true) g' w' (a.put o.dst v) (uH o.dst e.slot env) (r7 e.upd H) ?_ ⟨by rw[Array.size_setIfInBounds];exact m.size,hA,jp m.eok k.le k.slot m.tmps st.dst,fun t=>?_,k.heap,fun id=>?_,(Oy _ _ _).trans m.tmps,by rw[Oz];exact m.def_.eff m.heap k,m.good.eff k (m.len▸(S1 hD).2),m.len,fun j E hh id z G=>?_,fun id D=>?_⟩
   .have:=Qf U hc R;omega
   .rw[Pw,XL (p:=fun j=>listed.getD j false) (i:=i) hc (fun j=>by simp only[I2 U]) R (fun j hk E hl=>?_),<-m.look t]
    .unfold BE;rw[X,he];simp only;split<;>rfl
    have F:ops.toList[j]? =some ops[j]:=by simp [E]
    obtain⟨f,hf⟩: ∃f,es[j]? =some f:=⟨es[j]'(by rw[run.len,O];exact E),by simp⟩;obtain⟨h3,_⟩:=pairGt j _ f hk F hf hl;by_cases hw:BE ops.toList es t j=none
    .exact .inl hw
    right;have hd:=dS t j _ f F hf hw;by_cases Z:BE ops.toList es t i=none
    .exact Z
    have hF:=dS t i _ e X he Z;exact absurd hd ((Oper.apart_spec h3).2.1 t hF)
   .rw[P9,XL (p:=fun j=>listed.getD j false) (i:=i) hc (fun j=>by simp only[I2 U]) R (fun j hk E hl=>?_),<-m.get id]
    .unfold yK;rw[he];simp only;by_cases h7:id∈qQ (yG e)
     .rw[aFz h7,aFz (P8.1 h7).1];rfl
     rw[aFA h7];by_cases h8:id∈qQ e.upd
     .obtain⟨q1,q2⟩:=st.same id h8 h7;rw[aFz h8,q1,<-hz id q2 (h6 id h8)];rfl
     rw[aFA h8];rfl
    have F:ops.toList[j]? =some ops[j]:=by simp [E]
    obtain⟨f,hf⟩: ∃f,es[j]? =some f:=⟨es[j]'(by rw[run.len,O];exact E),by simp⟩;obtain⟨_,h3⟩:=pairGt j _ f hk F hf hl;by_cases hw:yK es id j=none
    .exact .inl hw
    right;have hd:=dH id j f hf hw;by_cases Z:yK es id i=none
    .exact Z
    have hF:=dH id i e he Z;rcases h3 with h3|h3
    .exact absurd (P8.1 hd).1 ((PA h3).1 id hF).2
    exact(noW id i e he Z h3.1).elim
   .rw[I2 U] at hh;have Y:j≠i:=fun h=>by rw[aFz h] at hh;cases hh
    rw[aFA Y] at hh;have hn:id∉qQ e.upd:=by
     intro hm;have hI:=S3 st.ids hm;rcases Nat.lt_or_gt_of_ne Y with h3|h3
     .obtain⟨f,hf⟩: ∃f,es[j]? =some f:=⟨es[j]'(by rw[run.len,O];exact E),by simp⟩;rcases pairLt j ops[j] f h3 (by simp [E]) hf with h4|h4
      .rw[hh] at h4;cases h4
      have:=Pz h4.2.2 id hm;omega
     omega
    have hg:=k.gho id hn;have hb:=m.free j E hh id z G;exact⟨hg.1.trans hb.1,fun n=>by rw[hg.2];exact hb.2 n⟩
   have hn:id∉qQ e.upd:=fun hm=>by have:=S3 st.ids hm;omega
   have hg:=k.gho id hn;have hb:=m.top id D;exact⟨hg.1.trans hb.1,fun n=>by rw[hg.2];exact hb.2 n⟩)
  unfold wpOpIn;rw[ho];simp only[aG6] at key|-;split at key
  .rename_i hw;rw[aFz hw];exact Pd (Pc hD) key
  rename_i hw;rw[aFA hw];exact⟨fun _ _=>trivial,key⟩
theorem a6x {i0 j0:Nat}{ro:pY}(hm:P.follows .mixedOrders=true) {id:Nat}{ops:Array Oper}{s:St}{y:wB}{a:Act}{w:q8}{g:Gh}(h:vA T Γ ops.toList ops.toList (some ⟨s,[],[]⟩)=some y) (D:WL i0 j0 ops s.nb y.es.reverse=true) (V:i0<ops.size->i0<j0/\∃ex fx a1 o1,y.es.reverse[i0]? =some ex/\ex.upd=[]/\y.es.reverse[j0]? =some fx/\ops.toList[i0]? =some o1/\vA T Γ ops.toList (ops.toList.take i0) (some ⟨s,[],[]⟩)=some a1/\AG T Γ ops.toList o1 ⟨a1.s.env,r7 (yG fx) a1.s.H,a1.s.nb,a1.s.N,a1.s.np⟩=some ex) (K: ∀p∈y.side,p) (hr:vB B g w s a) (hg:tJ A L g0 w0 g w s.H) (Y:L.length=s.np)
  (hQ: ∀g' a' w',vB B g' w' y.s a'->tJ A L g0 w0 g' w' y.s.H->Q .normal a' w'):(Code.region id ops true).wpIn (GB ro) 0 P Q a w:=by
 obtain⟨es,M,run⟩:=XM h K;have G:y.es.reverse=es:=by rw[M];simp
 simp only at run;rw[G] at D V;have E:=I1 h;have z: ∀j,(Array.replicate ops.size false).getD j false=false:=by
  intro j;rw[aF7,Array.getElem?_replicate];split<;>rfl
 have none: ∀{α:Type}(wr:Nat->Option α) (b:α) n,uW (fun j=>(Array.replicate ops.size false).getD j false) wr b n=b:=by
  intro α wr b n
  induction n with
  |zero=>rfl
  |succ n ih=>simp only[uW];rw[aFA (by rw[z];simp)];exact ih
 have O:ops.toList.length=ops.size:=aGv;refine wpIn_region_any hm (a6w hT hΓ run K D (fun hi=>let ⟨c0,ex,fx,a1,o1,c1,c2,c3,c4,c5,c6⟩:=V hi;⟨c0,ex,fx,c1,c2,c3,a6v run K c4 c5 G h c6⟩) (fun g' a' w' env H he hl Z F X hd R I=>?_) _ _ g _ a s.env s.H ?_ ⟨by simp,fun j o ho U=>?_,fun t=>DX (Qh g w _) (hr.env t),fun t=>?_,hr.heap.drawn _,fun id=>?_,hr.size,hr.def_.same (fun _ h=>h),hg.drawn _,Y,fun j _ _ id M _=>hr.nb id pP,fun id M=>hr.nb id pP⟩)
 .refine hQ g' a' w' ⟨fun t=>by rw[<-hl t];exact he t,Z.ext (fun i=>(F i).symm),by rw[E.2.1];exact X,fun i hi=>I i ?_,hd,?_⟩ (R.ext (fun i=>(F i).symm))
  .rw[run.nb,O] at hi;exact hi
  rw[E.2.2,run.nb];exact aGA hr.np (Nat.le_add_right _ _)
 .have: ∀n (l:Array Bool),DY l n<=n:=by
   intro n l
   induction n with
   |zero=>exact aFW _
   |succ n ih=>simp only[DY];split<;>omega
  exact this _ _
 .simp only[z] at U;cases U
 .rw[none]
 exact(none _ _ _).symm
end
theorem kf: ∀{l:List Prop},rJ l->∀p∈l,p
 |[p],h,q,hq=>by simp only[aFR] at hq;subst hq;exact h
 |p::q::r,h,x,j=>by
  rcases aFN.1 j with rfl|j
  .exact h.1
  exact kf h.2 x j
theorem Qk {p:Nat->Prop}(h: ∃n,p n): ∃n,p n/\∀m,p m->n<=m:=by
 obtain⟨n,D⟩:=h
 induction n using Nat.strongRecOn with
 |_ n ih=>
  by_cases z: ∃m,m<n/\p m
  .obtain⟨m,hm,hp⟩:=z;exact ih m hm hp
  exact⟨n,D,fun m hm=>Nat.le_of_not_lt fun j=>z ⟨m,j,hm⟩⟩
noncomputable def S4 (p:Nat->Prop):Nat:=open Classical in if h: ∃n,p n then(Qk h).choose else 0
theorem XO {p:Nat->Prop}(h: ∃n,p n):p (S4 p)/\∀m,p m->S4 p<=m:=by
 unfold S4;rw[aHB h];exact(Qk h).choose_spec
def GC:Exit->Option Ex
 | .normal=>some .normal
 | .exit id=>some (.exit id)
 | .ret=>some .ret
 |_=>none
def Ql (B:Nat) (A:Nat->Nat->Prop) (L:List qJ) (g0:Gh) (w0:q8) (Q:Ex->St->Prop) (x:Exit) (a:Act) (w:q8):Prop:=
 ∃e g s,GC x=some e/\Q e s/\vB B g w s a/\tJ A L g0 w0 g w s.H/\s.np=L.length
section
variable {B:Nat}{P:Program}{T:sW}{Γ:tH}(hT:xU P T) (hΓ:ET P Γ) (hm:P.follows .mixedOrders=true) {A:Nat->Nat->Prop}{L:List qJ}{g0:Gh}{w0:q8}
include hT hΓ hm
theorem I3 {ro:pY}: ∀(c:Code) (s:St) (Q:Ex->St->Prop) (g:Gh) (a:Act) (w:q8),wS T Γ c s Q->vB B g w s a->tJ A L g0 w0 g w s.H->s.np=L.length->c.wpIn (GB ro) 0 P (Ql B A L g0 w0 Q) a w
 | .skip,s,Q,g,a,w,h,hr,D,z=>by
  unfold wS at h;exact wpIn_skip ⟨.normal,g,s,rfl,h,hr,D,z⟩
 | .label l,s,Q,g,a,w,h,hr,D,z=>by
  unfold wS at h;exact wpIn_label ⟨.normal,g,s,rfl,h,hr,D,z⟩
 | .exit id,s,Q,g,a,w,h,hr,D,z=>by
  unfold wS at h;exact wpIn_exit ⟨.exit id,g,s,rfl,h,hr,D,z⟩
 | .ret,s,Q,g,a,w,h,hr,D,z=>by
  unfold wS at h;exact wpIn_ret ⟨.ret,g,s,rfl,h,hr,D,z⟩
 | .region id ops draw,s,Q,g,a,w,h,hr,D,z=>by
  unfold wS at h;cases draw with
  |false=>
   simp only[RF] at h;cases K:vA T Γ ops.toList ops.toList (some ⟨s,[],[]⟩) with
   |none=>rw[K] at h;cases h
   |some y=>
    rw[K] at h;refine a6e hT hΓ K (kf h.1) hr D z.symm (fun g' a' w' V X=>⟨.normal,g',y.s,rfl,h.2,V,X,(I1 K).2.2.trans z⟩)
  |true=>
   simp only[RF] at h;cases K:vA T Γ ops.toList ops.toList (some ⟨s,[],[]⟩) with
   |none=>rw[K] at h;cases h
   |some y=>
    rw[K] at h;simp only[Ky] at h;by_cases U:M9 ops s.nb y.es.reverse=true
    .rw[aFz U] at h;refine a6x (i0:=ops.size) (j0:=0) hT hΓ hm K U (fun h=>absurd h (aHk _)) (kf h.1) hr D z.symm (fun g' a' w' V X=>⟨.normal,g',y.s,rfl,h.2,V,X,(I1 K).2.2.trans z⟩)
    .rw[aFA U] at h;cases h
 | .seq x y,s,Q,g,a,w,h,hr,D,z=>by
  unfold wS at h;refine wpIn_seq (aHl (I3 x s _ g a w h hr D z) fun e a' w' hp=>?_);obtain⟨e',g',s',E,F,h3,h4,G⟩:=hp;cases e<;>simp only[GC,aFy] at E
  case normal=>subst E;exact I3 y s' Q g' a' w' F h3 h4 G
  case exit id=>subst E;exact⟨.exit id,g',s',rfl,F,h3,h4,G⟩
  case ret=>subst E;exact⟨.ret,g',s',rfl,F,h3,h4,G⟩
  all_goals cases E
 | .cond c x y,s,Q,g,a,w,h,hr,D,z=>by
  unfold wS at h;have U:=AW hr.env c;generalize u7 s.env c=sc at h U;unfold Lh at h;split at h
  .exact wpIn_cond_split (vT U.1) (fun O=>I3 x s Q g a w (h.1 O) hr D z) (fun O=>I3 y s Q g a w (h.2 O) hr D z)
  .obtain⟨b,hb,hp,hq⟩:=U.1;exact wpIn_cond_split hb (fun O=>I3 x s Q g a w (h.1 (hp O)) hr D z) (fun O=>I3 y s Q g a w (h.2 (hq O)) hr D z)
  .cases h
 | .block id c,s,Q,g,a,w,h,hr,D,z=>by
  unfold wS at h;refine wpIn_block (aHl (I3 c s _ g a w h hr D z) fun e a' w' hp=>?_);obtain⟨e',g',s',E,F,h3,h4,G⟩:=hp;cases e<;>simp only[GC,aFy] at E
  case normal=>subst E;exact⟨.normal,g',s',rfl,F,h3,h4,G⟩
  case exit j=>
   subst E;simp only[MB] at F;simp only[Exit.inBlock];split
   .rename_i Y;rw[aFz Y] at F;exact⟨.normal,g',s',rfl,F,h3,h4,G⟩
   rename_i Y;rw[aFA Y] at F;exact⟨.exit j,g',s',rfl,F,h3,h4,G⟩
  case ret=>subst E;exact⟨.ret,g',s',rfl,F,h3,h4,G⟩
  all_goals cases E
 | .loop c,s,Q,g,a,w,h,hr,D,z=>by
  unfold wS at h;obtain⟨k,I,μ,h0,M⟩:=h;obtain⟨g1,k1,k2,k3,_⟩:=K1 hr D z k
  let R:Act->q8->Nat->Prop:=fun a w n=> ∃g s,I s/\μ s=n/\vB B g w s a/\tJ A L g0 w0 g w s.H/\s.np=L.length
  refine wpIn_loop (fun a w=> ∃n,R a w n) (fun a w=>S4 (R a w)) ⟨_,g1,s.keep k,h0,rfl,k1,k2,k3⟩ (fun a w hI=>?_);obtain⟨⟨g2,s2,i1,i2,i3,i4,i5⟩,_⟩:=XO hI;refine aHl (I3 c s2 _ g2 a w (M s2 i1) i3 i4 i5) fun e a' w' hp=>?_;obtain⟨e',g',s',E,F,h3,h4,G⟩:=hp;cases e<;>simp only[GC,aFy] at E
  case normal=>
   subst E;obtain⟨k',j1,j2⟩:=F;obtain⟨g3,l1,l2,l3,_⟩:=K1 h3 h4 G k';have Z:R a' w' (μ (s'.keep k')):=⟨g3,s'.keep k',j1,rfl,l1,l2,l3⟩;refine⟨⟨_,Z⟩,Nat.lt_of_le_of_lt ((XO ⟨_,Z⟩).2 _ Z) (by rw[<-i2];exact j2)⟩
  case exit id=>subst E;exact⟨.exit id,g',s',rfl,F,h3,h4,G⟩
  case ret=>subst E;exact⟨.ret,g',s',rfl,F,h3,h4,G⟩
  all_goals cases E
 | .rangeFunc _ _ _ _,_,_,_,_,_,h,_,_,_=>by unfold wS at h;cases h
 | .scope _,_,_,_,_,_,h,_,_,_=>by unfold wS at h;cases h
 | .goto _,_,_,_,_,_,h,_,_,_=>by unfold wS at h;cases h
 | .refuse _,_,_,_,_,_,h,_,_,_=>by unfold wS at h;cases h
end
section
variable {f:St->Prop}{Q:Ex->St->Prop}{s:St}{id j:Nat}{I:St->Prop}{μ:St->Nat}{m:Nat}
theorem qS (h:f s):RI f Q .normal s:=h
theorem tV (h:Q (.exit j) s):RI f Q (.exit j) s:=h
theorem rC (h:Q .ret s):RI f Q .ret s:=h
theorem sI (h:Q .normal s):MB id Q .normal s:=h
theorem tX (h:Q .normal s):MB id Q (.exit id) s:=by show (if id=id then Q .normal s else Q (.exit id) s);rw[aFz rfl];exact h
theorem s7 (h:Q .ret s):MB id Q .ret s:=h
end
@[go_sem] def rV:Nat->List qK->List (Nat×qK)
 |_,[]=>[]
 |c,s::r=>(c,s)::rV (c+1) r
@[go_sem] def vZ:Nat->List qJ->pU
 |_,[]=>[]
 |c,_::L=>(c,c)::vZ (c+1) L
@[go_sem] def S5 (m:pU):List qK->Prop
 |[]=>True
 |s::r=>AR m s=s/\S5 m r
@[go_sem] def MS (m:pU):List qJ->Prop
 |[]=>True
 | .dead::_=>False
 |b::r=>zT m (some b)=b/\MS m r
def rW:List qJ->Prop
 |[]=>True
 | .row _ _ l n::r=>n=List.length l/\rW r
 |_::r=>rW r
theorem Qm {g:Gh}{w:q8}: ∀{L:List qJ},(∀(i:Nat) b,L[i]? =some b->∃j,AT g w j b)->rW L
 |[],_=>trivial
 |b::L,h=>by
  have z:=Qm (L:=L) fun i b' hb=>h (i+1) b' (by simpa using hb);obtain⟨j,h0⟩:=h 0 b rfl;cases b with
  |row e t l n=>exact⟨h0.1.symm,z⟩
  |_=>exact z
def kg:pW->q9
 |[v]=>v
 |l=> .tuple l.toArray
@[go_sem] def Qn (env:List (Nat×qK)):pZ->List qK
 |[]=>[]
 |t::r=>lk env t::Qn env r
attribute [go_sem] r5
@[go_sem] def Qo:qK->Int
 |(.val (.int _) n,_)=>n
 |_=>0
@[go_sem] def Fin (ts:pZ) (r:qT):Ex->St->Prop
 | .exit _,_=>False
 |_,s=> ∃k:wG,(s.keep k).H=r5 0 r.H/\Qn (s.keep k).env ts=r.ret
theorem Qp: ∀(l:List qK) (c t:Nat),lk (rV c l) t=if c<=t then(l[t-c]?).getD (.any,none) else(.any,none)
 |[],c,t=>by simp [rV,lk]
 |s::l,c,t=>by
  simp only[rV,lk];by_cases h:c=t
  .subst h;simp
  rw[aFA h,Qp l (c+1) t];by_cases j:c<=t
  .rw[aFz j,aFz pP];obtain⟨d,z⟩: ∃d,t-c=d+1:=⟨t-c-1,pP⟩;rw[z,aGk,show t- (c+1)=d by omega]
  rw[aFA j,aFA pP]
theorem PB: ∀{L:List qJ}{c i j:Nat},(i,j)∈vZ c L↔i=j/\c<=i/\i<c+L.length
 |[],c,i,j=>by simp only[vZ,aG5,aFS,false_iff];omega
 |b::L,c,i,j=>by
  simp only[vZ,aFN,aF3,PB,aFF];omega
theorem XP: ∀{L:List qJ}{c:Nat},xE 0 (vZ c L)=true
 |[],_=>rfl
 |b::L,c=>by
  simp only[vZ,xE,aFL];refine⟨⟨by simp,?_⟩,XP⟩;have: ∀{m:pU},(∀i j,(i,j)∈m->i≠c/\j≠c)->P1 c c m=false:=by
   intro m
   induction m with
   |nil=>intro _;rfl
   |cons q m ih=>
    intro h;obtain⟨i,j⟩:=q;have:=h i j pR;simp only[P1,ih (fun i j hm=>h i j (aFK _ hm)),decide_eq_false this.1,decide_eq_false this.2];rfl
  rw[this]
  .rfl
  intro i j hm;obtain⟨rfl,z,_⟩:=PB.1 hm;omega
theorem Qq {m:pU}: ∀{l:List qK},S5 m l->∀s∈l,AR m s=s
 |x::l,h,s,j=>by
  rcases aFN.1 j with rfl|j
  .exact h.1
  exact Qq h.2 s j
theorem MT {m:pU}: ∀{l:List qJ},MS m l->∀b∈l,zT m (some b)=b/\b≠.dead
 |x::l,h,b,hb=>by
  cases x with
  |dead=>exact h.elim
  |cells t y ts=>
   rcases aFN.1 hb with rfl|hb
   .exact⟨h.1,fun h=>by cases h⟩
   .exact MT h.2 b hb
  |row e t l n=>
   rcases aFN.1 hb with rfl|hb
   .exact⟨h.1,fun h=>by cases h⟩
   .exact MT h.2 b hb
  |map k v l=>
   rcases aFN.1 hb with rfl|hb
   .exact⟨h.1,fun h=>by cases h⟩
   .exact MT h.2 b hb
  |iter s n=>
   rcases aFN.1 hb with rfl|hb
   .exact⟨h.1,fun h=>by cases h⟩
   .exact MT h.2 b hb
  |grow e c n=>
   rcases aFN.1 hb with rfl|hb
   .exact⟨h.1,fun h=>by cases h⟩
   exact MT h.2 b hb
theorem XQ {g:Gh}{w:q8}: ∀{ss:List qK}{vs:pW},vG g w ss vs->vs.length=ss.length/\∀(i:Nat) s,ss[i]? =some s->∃v,vs[i]? =some v/\rS g w s v
 |[],vs,h=>by rw[show vs=[] from h];exact⟨rfl,fun i s h=>by simp at h⟩
 |s::ss,vs,⟨v,vs',e,z,j⟩=>by
  subst e;obtain⟨h3,h4⟩:=XQ j;refine⟨by simp [h3],fun i s' hi=>?_⟩;cases i with
  |zero=>simp only[aF8,aFy] at hi;subst hi;exact⟨v,rfl,z⟩
  |succ i=>simp only[aGk] at hi|-;exact h4 i s' hi
theorem XR: ∀(L:List qJ),rD L=L.length
 |[]=>rfl
 |_::L=>by simp only[rD,aFF,XR L]
theorem a6y {g:Gh}{w:q8}{args:List qK}{vals:pW}{L:List qJ}{N:Nat}(hH:sK g w (r5 0 L)) (ha:vG g w args vals) (Z:S5 (vZ 0 L) args) (hb:MS (vZ 0 L) L) (hN:args.length<=N):
  vB w.heap.size (uJ g 0 (vZ 0 L)) w ⟨rV 0 args,r5 0 L,rD L,N,rD L⟩ {tmps:=vals.toArray++Array.replicate (N-vals.toArray.size) undef,defers:=[]}/\
  (∀i blk,L[i]? =some blk->(uJ g 0 (vZ 0 L)).J i=g.J i/\AT (uJ g 0 (vZ 0 L)) w i blk/\∀b o,sH (uJ g 0 (vZ 0 L)) i blk b o->sH g i blk b o):=by
 have I:xE 0 (vZ 0 L)=true:=XP;have E: ∀i blk,L[i]? =some blk->(i,i)∈vZ 0 L:=fun i blk h=>PB.2 ⟨rfl,pP,by have:=(aFP.1 h).1;omega⟩;have z: ∀i blk,L[i]? =some blk->AT (uJ g 0 (vZ 0 L)) w i blk/\∀b o,sH (uJ g 0 (vZ 0 L)) i blk b o->sH g i blk b o:=by
  intro i blk h;have hr:=(MT hb blk (List.mem_of_getElem? h)).1;have:=MQ (g:=g) (w:=w) I (E i blk h) (b:=some blk) (fun c K=>by cases K;exact hH.blk i blk (by rw[xY];exact h));rw[hr] at this;exact⟨this.1,fun b o ho=>by obtain⟨c,K,U⟩:=this.2 b o ho;cases K;exact U⟩
 obtain⟨hl,Y⟩:=XQ ha;refine⟨⟨fun t=>?_,⟨fun i b h=>?_,fun i j bi bj b o R M G o1 o2=>?_,hH.sl,hH.tab.1,fun i blk b o X ho=>hH.tab.2 i blk b o X ((z i blk (by rw[<-xY];exact X)).2 b o ho)⟩,?_,fun i hi=>?_,Oq _ _,aFW _⟩,fun i blk h=>⟨(zU I (E i blk h)).1,z i blk h⟩⟩
 .rw[Qp,aFz (aGu _),Nat.sub_zero];cases V:args[t]? with
  |none=>exact⟨trivial,trivial⟩
  |some s=>
   obtain⟨v,F,O⟩:=Y t s V;have Q:t<vals.length:=(aFP.1 F).1;have:(vals.toArray++Array.replicate (N-vals.toArray.size) undef).getD t undef=v:=by
    rw[aF7,Array.getElem?_append_left (by simpa using Q)];simp [F]
   simp only[aHF];rw[this];have:=XJ I O;rw[Qq Z s (List.mem_of_getElem? V)] at this;exact this
 .rw[xY] at h;exact(z i b h).1
 .rw[xY] at M G;exact hH.dis i j bi bj b o R (by rw[xY];exact M) (by rw[xY];exact G) ((z i bi M).2 b o o1) ((z j bj G).2 b o o2)
 .simp only[aHJ,Array.size_replicate,aGy];omega
 have D:AL (vZ 0 L) i=none:=by
  cases ho:AL (vZ 0 L) i with
  |none=>rfl
  |some o=>
   obtain⟨rfl,_,G⟩:=PB.1 (jn ho);have hi:rD L<=i:=hi;rw[XR] at hi;omega
 refine⟨?_,fun n=>?_⟩
 .show (if i<0 then g.J i else(AL (vZ 0 L) i).bind g.J)=none;rw[aFA pP,D];rfl
 show (if i<0 then g.cur i n else(AL (vZ 0 L) i).bind fun o=>g.cur o n)=none;rw[aFA pP,D];rfl
structure vC (B:Nat) (w w':q8):Prop where
 os:w'.os=w.os
 tape:w'.tape=w.tape
 output:w'.output=w.output
 size:w.heap.size<=w'.heap.size
 blk: ∀b,b<w.heap.size->w'.heap[b]? =w.heap[b]? \/(B<=b/\NG<=b/\∃o o',w.heap[b]? =some o/\w'.heap[b]? =some o'/\I0 o=true/\I0 o'=true)
theorem Qr {w:q8}{b:Nat}{ob:Obj}(h:w.heap[b]? =some ob) (hm:I0 ob=true) (o:Nat):w.frozen? ⟨b,o,none⟩=false:=by
 unfold World.frozen?;simp only[h];cases ob<;>first|rfl|cases hm
theorem a6z {w:q8}{b:Nat}{ob:Obj}(h:w.heap[b]? =some ob) (hm:I0 ob=true):w.shape? b=none:=by
 unfold World.shape?;simp only[h];cases ob<;>first|rfl|cases hm
section
variable {B:Nat}{w w' w'':q8}
theorem vC.refl (B:Nat) (w:q8):vC B w w:=⟨rfl,rfl,rfl,aFW _,fun _ _=> .inl rfl⟩
theorem vC.trans (h:vC B w w') (k:vC B w' w''):vC B w w'':=by
 refine⟨k.os.trans h.os,k.tape.trans h.tape,k.output.trans h.output,aGA h.size k.size,fun b hb=>?_⟩;rcases k.blk b (aF9 hb h.size) with k1|⟨k0,k1,o,o',k2,k3,k4,k5⟩
 .rcases h.blk b hb with j|⟨h0,j,o,o',z,h3,h4,D⟩
  .exact .inl (k1.trans j)
  exact .inr ⟨h0,j,o,o',z,k1.trans h3,h4,D⟩
 rcases h.blk b hb with j|⟨h0,j,p,p',z,h3,h4,D⟩
 .exact .inr ⟨k0,k1,o,o',j▸k2,k3,k4,k5⟩
 exact .inr ⟨h0,j,p,o',z,k3,h4,k5⟩
theorem vC.cell (t:vC B w w') {b:Nat}(hb:b<w.heap.size) (o:Nat):w'.cell? ⟨b,o,none⟩=w.cell? ⟨b,o,none⟩/\w'.frozen? ⟨b,o,none⟩=w.frozen? ⟨b,o,none⟩:=by
 rcases t.blk b hb with h|⟨_,_,o1,o2,z,j,m1,m2⟩
 .exact⟨aFY h,by unfold World.frozen?;simp only[h]⟩
 exact⟨by rw[jj z m1,jj j m2],by rw[Qr z m1,Qr j m2]⟩
theorem vC.shape (t:vC B w w') {b:Nat}{s:TypeId×Nat}(h:w.shape? b=some s):w'.shape? b=some s:=by
 have hb:b<w.heap.size:=by
  unfold World.shape? at h;cases j:w.heap[b]? with
  |none=>rw[j] at h;cases h
  |some _=>exact(aF1.1 j).1
 rcases t.blk b hb with k|⟨_,_,o1,o2,z,D,m1,m2⟩
 .unfold World.shape? at h|-;rw[k];exact h
 rw[a6z z m1] at h;cases h
theorem vC.le (t:vC B w w') {g:Gh}(j: ∀b o,g.S b o->b<w.heap.size):Le g w g w':=⟨fun _ _ h=>h,fun b o h=>(t.cell (j b o h) o).1,fun _ _ h=>h,fun _ _ _ h=>h⟩
theorem vC.heapOk (t:vC B w w') {g:Gh}{H:sF}(h:sK g w H):sK g w' H:=by
 have own: ∀{i blk b o},qO H i=some blk->sH g i blk b o->w'.heap[b]? =w.heap[b]? :=fun j ho=>by
  rcases t.blk _ (MF (h.blk _ _ j) ho) with k|⟨_,_,o1,o2,z,_,m1,_⟩
  .exact k
  exact(XG (h.blk _ _ j) ho z m1).elim
 refine⟨fun i blk hb=>JU (h.blk i blk hb) (t.le h.sl) rfl rfl (fun b o ho=>t.cell (MF (h.blk i blk hb) ho) o) (fun b ho=>own hb (ho 0)) (fun _ _ _ x=>x) (fun b o s _ x=>t.shape x),h.dis,fun b o x=>aF9 (h.sl b o x) t.size,JF h.tab.1 t.size (fun b hb=>?_),h.tab.2⟩;rcases t.blk b (aF9 hb h.tab.1.1) with k|⟨_,k,_⟩
 .exact k
 omega
theorem vB.turn {g:Gh}{s:St}{a:Act}{ds:List Deferred}(h:vB B g w s a) (t:vC B w w') (j:AK B w' ds):vB B g w' s {a with defers:=ds}:=
 ⟨fun x=>DX (t.le h.heap.sl) (h.env x),t.heapOk h.heap,h.size,h.nb,j,h.np⟩
theorem tJ.turn {A:Nat->Nat->Prop}{L:List qJ}{g0 g:Gh}{w0:q8}{H:sF}(h:tJ A L g0 w0 g w H) (z: ∀b o,g.S b o->b<w.heap.size) (t:vC w0.heap.size w w'):tJ A L g0 w0 g w' H:=by
 refine⟨fun b o x=>⟨(h.shut b o x).1,(t.cell (z b o (h.shut b o x).1) o).1.trans (h.shut b o x).2⟩,⟨t.os.trans h.fr.os,t.tape.trans h.fr.tape,t.output.trans h.fr.output,aGA h.fr.size t.size,fun b hb j=>?_,fun b o hb j=>?_,h.fr.new,fun b s x=>?_⟩,h.perm,h.J,h.live,h.ty,h.cur⟩
 .rcases t.blk b (aF9 hb h.fr.size) with k|⟨k,_⟩
  .exact k.trans (h.fr.blk b hb j)
  omega
 .have:=t.cell (aF9 hb h.fr.size) o;have k:=h.fr.cell b o hb j;exact⟨this.1.trans k.1,this.2.trans k.2⟩
 rcases h.fr.shape b s x with k|k
 .exact .inl (t.shape k)
 exact .inr k
end
theorem Qs {P:Program}{fn:Func}{R:Ending->q8->Prop}{A:Nat->Nat->Prop}{L:List qJ}{g0 g:Gh}{w0:q8}{s:St}{tmps:Array q9}: ∀(ds:List Deferred) (w:q8),vB w0.heap.size g w s {tmps:=tmps,defers:=ds}->tJ A L g0 w0 g w s.H->
  (∀w',vB w0.heap.size g w' s {tmps:=tmps,defers:=[]}->tJ A L g0 w0 g w' s.H->∃v,(results fn tmps).run P w'= .ok v w'/\R (.returned v) w')->LeavesInM Fence.wide 0 P fn tmps R ds .returning w
 |[],w,hr,F,h=>h w hr F
 |d::ds,w,hr,F,h=>by
  obtain⟨z,j⟩:=hr.def_;obtain⟨D,rfl,M,K,h3⟩:=j d aFT;have G:=(aF1.1 h3).1;have t:vC w0.heap.size w (w.putObj D (.deferred none)):=by
   refine⟨rfl,rfl,rfl,by simp [World.putObj],fun b hb=>?_⟩;by_cases e:b=D
   .subst e;exact .inr ⟨M,K,_,_,h3,World.putObj_heap_same G,rfl,rfl⟩
   exact .inl (World.putObj_heap_other e)
  have I:AK w0.heap.size (w.putObj D (.deferred none)) ds:=by
   refine⟨(List.nodup_cons.1 z).2,fun d' E=>?_⟩;obtain⟨D',rfl,k1,k2,k3⟩:=j d' (aFK _ E);refine⟨D',rfl,k1,k2,?_⟩;rw[World.putObj_heap_other (fun e:D'=D=>(List.nodup_cons.1 z).1 (by subst e;exact E))];exact k3
  exact⟨by simp,.inl ⟨D,_,rfl,run_takeDeferred h3,Qs ds _ (hr.turn t I) (F.turn hr.heap.sl t) h⟩⟩
def Ev (R:Bool) (P:Program) (c:Code) (s:St) (Q:Ex->St->Prop):Prop:=
 ∀(ro:pY),ro.isSome=R->
 ∀(A:Nat->Nat->Prop) (L:List qJ) (g0:Gh) (w0:q8) (g:Gh) (a:Act) (w:q8) (B:Nat),B<=w0.heap.size->vB B g w s a->tJ A L g0 w0 g w s.H->s.np=L.length->c.wpIn (GB ro) 0 P (Ql B A L g0 w0 Q) a w
variable {R:Bool}
theorem Qt {P:Program}{T:sW}{Γ:tH}(hT:xU P T) (hΓ:ET P Γ) (hm:P.follows .mixedOrders=true) {c:Code}{s:St}{Q:Ex->St->Prop}(h:wS T Γ c s Q):Ev R P c s Q:=
 fun ro D A L g0 w0 g a w B E hr z j=>I3 hT hΓ hm c s Q g a w h hr z j
structure rF (P:Program) (T:sW) (Γ:tH):Prop where
 T:xU P T
 Γ:ET P Γ
 m:P.follows .mixedOrders=true
@[go_sem] def Qu (l:pZ) (Γ:tH) (f:Nat):Option rH:=if AP f l=true then some ⟨[],fun _ _=>none,[],[],none⟩ else Γ f
theorem XS {P:Program}{T:sW}{Γ:tH}{l:pZ}(h:rF P T Γ) (hl:(l.all fun k=>decide (1000000000<=k))=true):rF P T (Qu l Γ):=
 ⟨h.T,fun f s z j=>by
  unfold Qu at j;split at j
  .rename_i hm;have:=aGc (aGt.1 hl f (HW.1 hm));omega
  exact h.Γ f s z j,h.m⟩
theorem a6A {P:Program}{c:Code}{s:St}{Q Q':Ex->St->Prop}(h:Ev R P c s Q') (hq: ∀e s,Q' e s->Q e s):Ev R P c s Q:=by
 intro ro j A L g0 w0 g a w B E hr D z;refine aHl (h ro j A L g0 w0 g a w B E hr D z) fun x a' w' hp=>?_;obtain⟨e,g',s',I,G,h3,h4,F⟩:=hp;exact⟨e,g',s',I,hq e s' G,h3,h4,F⟩
section
variable {P:Program}{s:St}{Q:Ex->St->Prop}
theorem r9 (h:Q .normal s):Ev R P .skip s Q:=fun _ _ _ _ _ _ g _ _ _ _ hr z j=>wpIn_skip ⟨.normal,g,s,rfl,h,hr,z,j⟩
theorem tY {id:Nat}(h:Q (.exit id) s):Ev R P (.exit id) s Q:=fun _ _ _ _ _ _ g _ _ _ _ hr z j=>wpIn_exit ⟨.exit id,g,s,rfl,h,hr,z,j⟩
theorem qU (h:Q .ret s):Ev R P .ret s Q:=fun _ _ _ _ _ _ g _ _ _ _ hr z j=>wpIn_ret ⟨.ret,g,s,rfl,h,hr,z,j⟩
theorem qV {x y:Code}(h:Ev R P x s (RI (fun s'=>Ev R P y s' Q) Q)):Ev R P (.seq x y) s Q:=by
 intro ro z A L g0 w0 g a w B F hr I G;refine wpIn_seq (aHl (h ro z A L g0 w0 g a w B F hr I G) fun e a' w' hp=>?_);obtain⟨e',g',s',j,E,h3,h4,D⟩:=hp;cases e<;>simp only[GC,aFy] at j
 case normal=>subst j;exact E ro z A L g0 w0 g' a' w' B F h3 h4 D
 case exit id=>subst j;exact⟨.exit id,g',s',rfl,E,h3,h4,D⟩
 case ret=>subst j;exact⟨.ret,g',s',rfl,E,h3,h4,D⟩
 all_goals cases j
theorem a6B {c:Operand}{x y:Code}{b:Bool}{k:pY}(h:u7 s.env c=(.val .bool b,k)) (G:b=true->Ev R P x s Q) (hf:b=false->Ev R P y s Q):Ev R P (.cond c x y) s Q:=by
 intro ro j A L g0 w0 g a w B F hr D z;have E:=AW hr.env c;rw[h] at E;exact wpIn_cond_split (vT E.1) (fun e=>G e ro j A L g0 w0 g a w B F hr D z) (fun e=>hf e ro j A L g0 w0 g a w B F hr D z)
theorem a6C {c:Operand}{x y:Code}{p q:Prop}{k:pY}(h:u7 s.env c=(.flag p q,k)) (G:p->Ev R P x s Q) (hf:q->Ev R P y s Q):Ev R P (.cond c x y) s Q:=by
 intro ro j A L g0 w0 g a w B F hr D z;have E:=AW hr.env c;rw[h] at E;obtain⟨b,hb,hp,hq⟩:=E.1;exact wpIn_cond_split hb (fun e=>G (hp e) ro j A L g0 w0 g a w B F hr D z) (fun e=>hf (hq e) ro j A L g0 w0 g a w B F hr D z)
theorem sA {id:Nat}{c:Code}(h:Ev R P c s (MB id Q)):Ev R P (.block id c) s Q:=by
 intro ro G A L g0 w0 g a w B M hr K I;refine wpIn_block (aHl (h ro G A L g0 w0 g a w B M hr K I) fun e a' w' hp=>?_);obtain⟨e',g',s',D,z,h3,h4,E⟩:=hp;cases e<;>simp only[GC,aFy] at D
 case normal=>subst D;exact⟨.normal,g',s',rfl,z,h3,h4,E⟩
 case exit j=>
  subst D;simp only[MB] at z;simp only[Exit.inBlock];split
  .rename_i F;rw[aFz F] at z;exact⟨.normal,g',s',rfl,z,h3,h4,E⟩
  rename_i F;rw[aFA F] at z;exact⟨.exit j,g',s',rfl,z,h3,h4,E⟩
 case ret=>subst D;exact⟨.ret,g',s',rfl,z,h3,h4,E⟩
 all_goals cases D
end
@[go_sem] def kh (k:Nat) (t:Ty) (l:List t.den):qK->qK
 |(.own j m,x)=>if j=k then(.val (.list t) l,some k) else(.own j m,x)
 |s=>s
@[go_sem] def S6 (k:Nat) (t:Ty) (l:List t.den):List (Nat×qK)->List (Nat×qK)
 |[]=>[]
 |(i,s)::r=>(i,kh k t l s)::S6 k t l r
@[go_sem] def Qv (k n:Nat):qK->Prop
 |(.own j m,_)=>j=k->m=n
 |_=>True
@[go_sem] def ki (k n:Nat):List (Nat×qK)->Prop
 |[]=>True
 |(_,s)::r=>Qv k n s/\ki k n r
theorem Qw {k:Nat}{t:Ty}{l:List t.den}: ∀{env:List (Nat×qK)}{i:Nat},lk (S6 k t l env) i=kh k t l (lk env i)
 |[],i=>rfl
 |(j,s)::r,i=>by
  simp only[S6,lk];split
  .rfl
  exact Qw
theorem Qx {k n:Nat}: ∀{env:List (Nat×qK)}{i:Nat},ki k n env->Qv k n (lk env i)
 |[],i,_=>trivial
 |(j,s)::r,i,⟨z,h⟩=>by
  simp only[lk];split
  .exact z
  exact Qx h
theorem a6D {P:Program}{c:Code}{s:St}{Q:Ex->St->Prop}(k:Nat) {e:TypeId}{t:Ty}{l:List t.den}{n:Nat}(hk:qO s.H k=some (.row e t l n)) (hh:ki k n s.env)
  (h:Ev R P c ⟨S6 k t l s.env,(k,.grow e t.cells (List.length l))::s.H,s.nb,s.N,s.np⟩ Q):Ev R P c s Q:=by
 intro ro he A L g0 w0 g a w B hB hr F hn;obtain⟨hl,v,xs,hv,G,hF,U,O⟩:=hr.heap.blk k _ hk
 let g':Gh:={g with S:=fun b o=>g.S b o\/(v.ownBlock=some b/\o<n*t.cells)}
 have le:Le g w g' w:=⟨fun _ _ h=> .inl h,fun _ _ _=>rfl,fun _ _ h=>h,fun _ _ _ h=>h⟩;have K: ∀b,v.ownBlock=some b->∀o,sH g k (.row e t l n) b o:=fun b hb o=>⟨v,hv,hb⟩;have V: ∀u,g.cur k n=some u->((u= .slice none 0 0/\n=0)\/∃b cap,u= .slice (some ⟨b,0,none⟩) n cap/\n<=cap)->tD g' w (.list t) l u:=by
  intro u Y M;rw[hv] at Y;obtain rfl:=aFE Y;rcases M with⟨rfl,h0⟩ |⟨b,cap,rfl,hc⟩
  .have:l=[]:=aF4 (by rw[hl,h0]);subst this;exact .inr ⟨rfl,none,0,rfl,aFW _,.inl rfl⟩
  refine .inr ⟨rfl,some ⟨b,0,none⟩,cap,by rw[hl],by rw[hl];exact hc,.inr ⟨b,0,rfl,JW (CX (fun _ _ h=>wT le h) hF) (fun j u Y=>?_) (fun j hj=>?_)⟩⟩
  .have:=G.cells (g:=b) rfl j u Y;rwa [aGP] at this
  right;exact⟨rfl,by rw[hl] at hj;omega⟩
 have I: ∀i b,qO ((k,qJ.grow e t.cells (List.length l))::s.H) i=some b->(i=k/\b= .grow e t.cells (List.length l))\/(i≠k/\qO s.H i=some b):=by
  intro i b hb;simp only[qO] at hb;split at hb
  .rename_i e1;exact .inl ⟨e1.symm,(aFE hb).symm⟩
  rename_i e1;exact .inr ⟨Ne.symm e1,hb⟩
 have D: ∀i b bb o,qO ((k,qJ.grow e t.cells (List.length l))::s.H) i=some b->sH g' i b bb o->∃b0,qO s.H i=some b0/\sH g i b0 bb o:=by
  intro i b bb o hb ho;rcases I i b hb with⟨rfl,rfl⟩ |⟨_,E⟩
  .obtain⟨u,Y,hd⟩:=ho;have Z:g.cur i (List.length l)=some u:=Y;rw[hl] at Z;exact⟨_,hk,u,Z,hd⟩
  exact⟨b,E,(xS (g':=g') (g:=g) rfl rfl).1 ho⟩
 have ha:vB B g' w ⟨S6 k t l s.env,(k,.grow e t.cells (List.length l))::s.H,s.nb,s.N,s.np⟩ a:=by
  refine⟨fun i=>?_,⟨fun i b hb=>?_,fun i j bi bj b o ht E h2 o1 o2=>?_,fun b o z=>?_,hr.heap.tab.1,fun i b bb oo hb ho=>by
   obtain⟨c1,k1,k2⟩:=D i b bb oo hb ho;exact hr.heap.tab.2 i c1 bb oo k1 k2⟩,hr.size,hr.nb,hr.def_,hr.np⟩
  .rw[Qw];have E:=hr.env i;have h2:=Qx (i:=i) hh;generalize lk s.env i=sl at E h2;obtain⟨d,x⟩:=sl;cases d with
   |own j m=>
    simp only[kh];split
    .rename_i hj;subst hj;have hm:m=n:=h2 rfl;subst hm;refine⟨V _ E.1.1 E.1.2,?_⟩;show g'.cur j (List.length l)=_;rw[hl];exact E.1.1
    .exact DX le E
   |_=>exact DX le E
  .rcases I i b hb with⟨rfl,rfl⟩ |⟨hs,E⟩
   .refine⟨v,xs,by rw[hl];exact hv,by rw[hl];exact G,fun m hm=>U m (by rw[hl] at hm;exact hm),fun b hb o z=>?_⟩;rw[hl];rcases z with z|z
    .exact absurd z (O b hb o)
    exact z.2
   exact JU (hr.heap.blk i b E) le rfl rfl (fun _ _ _=>⟨rfl,rfl⟩) (fun _ _=>rfl) (fun bb o ho z=>by
    rcases z with z|z
    .exact z
    exact absurd (K bb z.1 o) (fun h5=>hr.heap.dis i k b _ bb o hs E hk ho h5)) (fun _ _ _ _ h=>h)
  .obtain⟨c1,k1,k2⟩:=D i bi b o E o1;obtain⟨c2,k3,k4⟩:=D j bj b o h2 o2;exact hr.heap.dis i j c1 c2 b o ht k1 k3 k2 k4
  rcases z with z|z
  .exact hr.heap.sl b o z
  exact ME G z.1
 have X:tJ A L g0 w0 g' w ((k,.grow e t.cells (List.length l))::s.H):=by
  refine⟨fun b o h0=>⟨.inl (F.shut b o h0).1,(F.shut b o h0).2⟩,⟨F.fr.os,F.fr.tape,F.fr.output,F.fr.size,F.fr.blk,F.fr.cell,fun b o z=>?_,F.fr.shape⟩,fun i b bb o hb ho=>?_,F.J,F.live,fun i u y us hi hb=>?_,F.cur⟩
  .rcases z with z|z
   .exact F.fr.new b o z
   exact .inr (F.perm k _ b o hk (K b z.1 o))
  .obtain⟨c1,k1,k2⟩:=D i b bb o hb ho;exact F.perm i c1 bb o k1 k2
  rcases I i _ hb with⟨_,E⟩ |⟨_,E⟩
  .cases E
  exact F.ty i u y us hi E
 exact h ro he A L g0 w0 g' a w B hB ha X hn
def iter {σ ρ:Type}(f:σ->Option (σ⊕ρ)):Nat->σ->Option ρ
 |0,_=>none
 |n+1,x=>match f x with
  |none=>none
  |some (.inl y)=>iter f n y
  |some (.inr r)=>some r
theorem Qy {σ ρ:Type}{f:σ->Option (σ⊕ρ)}{r:ρ}: ∀{n:Nat}{x:σ},iter f n x=some r->iter f (n+1) x=some r
 |0,_,h=>by cases h
 |n+1,x,h=>by
  unfold iter at h|-;split
  .rename_i e;rw[e] at h;cases h
  .rename_i y e;rw[e] at h;exact Qy h
  rename_i r' e;rw[e] at h;exact h
theorem kj {σ ρ:Type}{f:σ->Option (σ⊕ρ)}{r:ρ}{n:Nat}{x:σ}(h:iter f n x=some r): ∀m,iter f (n+m) x=some r
 |0=>h
 |m+1=>Qy (kj h m)
theorem Qz {σ ρ:Type}{f:σ->Option (σ⊕ρ)}{r r':ρ}{n m:Nat}{x:σ}(h:iter f n x=some r) (D:iter f m x=some r'):r=r':=by
 have z:=kj h m;have j:=kj D n;rw[Nat.add_comm] at j;exact aFE (z.symm.trans j)
noncomputable def S7 {σ ρ:Type}(f:σ->Option (σ⊕ρ)) (x:σ):Option ρ:=open Classical in if h: ∃n r,iter f n x=some r then some (Classical.choose (aHe h)) else none
def a6E {ρ:Type}:Option ρ->Option ρ->Option ρ
 |some r,_=>some r
 |none,r=>r
noncomputable def s8 {σ ρ:Type}(f:σ->Option (σ⊕ρ)) (x:σ):Option ρ:=a6E (iter f 2000 x) (S7 f x)
theorem a6F {σ ρ:Type}{f:σ->Option (σ⊕ρ)}{x:σ}{r:ρ}{n:Nat}(h:iter f n x=some r):S7 f x=some r:=by
 have j: ∃n r,iter f n x=some r:=⟨n,r,h⟩;unfold S7;rw[aHB j,Qz h (aHe (aHe j))]
theorem km {σ ρ:Type}{f:σ->Option (σ⊕ρ)}{x:σ}{r:ρ}{n:Nat}(h:iter f n x=some r):s8 f x=some r:=by
 unfold s8;cases hi:iter f 2000 x with
 |some r'=>rw[Qz h hi];rfl
 |none=>exact a6F h
theorem XT {σ ρ:Type}{f:σ->Option (σ⊕ρ)}{x:σ}{r:ρ}(h:s8 f x=some r): ∃n,iter f n x=some r:=by
 unfold s8 at h;cases hi:iter f 2000 x with
 |some r'=>
  rw[hi] at h;cases h;exact⟨_,hi⟩
 |none=>
  rw[hi] at h;have h:S7 f x=some r:=h;unfold S7 at h;split at h
  .rename_i j;have:=aHe (aHe j);rw[aFE h] at this;exact⟨_,this⟩
  cases h
attribute [irreducible] s8
theorem I4 {σ ρ:Type}{f:σ->Option (σ⊕ρ)}{x y:σ}(h:f x=some (.inl y)):s8 f x=s8 f y:=by
 cases z:s8 f y with
 |some r=>
  obtain⟨n,j⟩:=XT z;exact km (n:=n+1) (by unfold iter;rw[h];exact j)
 |none=>
  cases D:s8 f x with
  |none=>rfl
  |some r=>
   obtain⟨n,j⟩:=XT D;cases n with
   |zero=>cases j
   |succ n=>
    unfold iter at j;rw[h] at j;rw[km j] at z;cases z
theorem z7 {σ ρ:Type}{f:σ->Option (σ⊕ρ)}{x:σ}{r:ρ}(h:f x=some (.inr r)):s8 f x=some r:=km (n:=1) (by unfold iter;rw[h])
def Nxt {σ ρ:Type}(f:σ->Option (σ⊕ρ)) (y:ρ) (n:Nat):σ⊕ρ->Prop
 | .inl x=>iter f n x=some y
 | .inr r=>r=y
def qL {σ ρ:Type}(enc:σ->St) (f:σ->Option (σ⊕ρ)) (y:ρ) (n:Nat) (Q:Ex->St->Prop):Ex->St->Prop
 | .normal,s=> ∃(k:wG) (x:σ),s.keep k=enc x/\iter f n x=some y
 | .exit j,s=>Q (.exit j) s
 | .ret,s=>Q .ret s
theorem a6H {P:Program}{c:Code}{s:St}{Q:Ex->St->Prop}(I:Nat->St->Prop) (h0: ∃(k:wG) (n:Nat),I n (s.keep k))
  (h: ∀n s,I n s->Ev R P c s (fun e s'=>match e with| .normal=> ∃(k:wG) (m:Nat),m<n/\I m (s'.keep k) |e=>Q e s')):Ev R P (.loop c) s Q:=by
 intro ro F A L g0 w0 g a w B O hr K G;obtain⟨k,n0,h0⟩:=h0;obtain⟨g1,k1,k2,k3,_⟩:=K1 hr K G k
 let R:Act->q8->Nat->Prop:=fun a w n=> ∃g s,I n s/\vB B g w s a/\tJ A L g0 w0 g w s.H/\s.np=L.length
 refine wpIn_loop (fun a w=> ∃n,R a w n) (fun a w=>S4 (R a w)) ⟨_,g1,s.keep k,h0,k1,k2,k3⟩ (fun a w M=>?_);obtain⟨⟨g2,s2,i1,i3,i4,i5⟩,_⟩:=XO M;refine aHl (h _ s2 i1 ro F A L g0 w0 g2 a w B O i3 i4 i5) fun e a' w' hp=>?_;obtain⟨e',g',s',j,E,h3,h4,D⟩:=hp;cases e<;>simp only[GC,aFy] at j
 case normal=>
  subst j;obtain⟨k',m,j1,j2⟩:=E;obtain⟨g3,l1,l2,l3,_⟩:=K1 h3 h4 D k';have z:R a' w' m:=⟨g3,s'.keep k',j2,l1,l2,l3⟩;exact⟨⟨_,z⟩,Nat.lt_of_le_of_lt ((XO ⟨_,z⟩).2 _ z) j1⟩
 case exit id=>subst j;exact⟨.exit id,g',s',rfl,E,h3,h4,D⟩
 case ret=>subst j;exact⟨.ret,g',s',rfl,E,h3,h4,D⟩
 all_goals cases j
theorem uA {P:Program}{c:Code}{s:St}{Q:Ex->St->Prop}{σ ρ:Type}{f:σ->Option (σ⊕ρ)}{x0:σ}{y:ρ}(z:s8 f x0=some y) (enc:σ->St) (k:wG) (h0:s.keep k=enc x0)
  (round: ∀x w n,f x=some w->Nxt f y n w->Ev R P c (enc x) (qL enc f y n Q)):Ev R P (.loop c) s Q:=by
 obtain⟨n,D⟩:=XT z;refine a6H (fun n s=> ∃x,s=enc x/\iter f n x=some y) ⟨k,n,x0,h0,D⟩ fun n s ⟨x,e,h⟩=>?_;subst e;cases n with
 |zero=>cases h
 |succ n=>
  unfold iter at h;refine a6A (Q':=qL enc f y n Q) ?_ (fun e s' hq=>?_)
  .split at h
   .cases h
   .rename_i x' e;exact round x _ n e h
   rename_i r e;exact round x _ n e (aFE h)
  cases e with
  |normal=>obtain⟨k,x',F,E⟩:=hq;exact⟨k,n,pP,x',F,E⟩
  |exit j=>exact hq
  |ret=>exact hq
def qX (j:Nat) (X:St->Prop) (Q:Ex->St->Prop):Ex->St->Prop
 | .normal,s=>Q .normal s
 | .exit i,s=>if i=j then∃k:wG,X (s.keep k) else Q (.exit i) s
 | .ret,s=>Q .ret s
theorem uE {P:Program}{c:Code}{s:St}{Q:Ex->St->Prop}(j:Nat) (X:St->Prop) (h:Ev R P c s (qX j X Q)) (J: ∀s',X s'->Q (.exit j) s'):Ev R P c s Q:=by
 intro ro G A L g0 w0 g a w B O hr M I;refine aHl (h ro G A L g0 w0 g a w B O hr M I) fun x a' w' hp=>?_;obtain⟨e,g',s',F,z,h3,h4,E⟩:=hp;cases e with
 |normal=>exact⟨.normal,g',s',F,z,h3,h4,E⟩
 |ret=>exact⟨.ret,g',s',F,z,h3,h4,E⟩
 |exit i=>
  have z:(if i=j then∃k:wG,X (s'.keep k) else Q (.exit i) s'):=z;by_cases D:i=j
  .rw[aFz D] at z;obtain⟨k,K⟩:=z;obtain⟨g1,k1,k2,k3,_⟩:=K1 h3 h4 E k;exact⟨.exit i,g1,s'.keep k,F,by rw[D];exact J _ K,k1,k2,k3⟩
  rw[aFA D] at z;exact⟨.exit i,g',s',F,z,h3,h4,E⟩
section
variable {Q:Ex->St->Prop}{s:St}{j i:Nat}{X:St->Prop}{σ ρ:Type}{enc:σ->St}{f:σ->Option (σ⊕ρ)}{y:ρ}{n:Nat}
theorem vN (h:Q .ret s):qX j X Q .ret s:=h
theorem uF (h: ∃k:wG,X (s.keep k)):qX j X Q (.exit j) s:=by show (if j=j then _ else _);rw[aFz rfl];exact h
theorem tB (h: ∃(k:wG) (x:σ),s.keep k=enc x/\iter f n x=some y):qL enc f y n Q .normal s:=h
theorem tZ (h:Q (.exit j) s):qL enc f y n Q (.exit j) s:=h
theorem uY (h:Q .ret s):qL enc f y n Q .ret s:=h
end
def qN (X:St->Prop) (Q:Ex->St->Prop):Ex->St->Prop
 | .normal,s=> ∃k:wG,X (s.keep k)
 | .exit j,s=>Q (.exit j) s
 | .ret,s=>Q .ret s
theorem D0 {P:Program}{c:Code}{s:St}{Q:Ex->St->Prop}(X:St->Prop) (h:Ev R P c s (qN X Q)) (J: ∀s',X s'->Q .normal s'):Ev R P c s Q:=by
 intro ro F A L g0 w0 g a w B M hr K G;refine aHl (h ro F A L g0 w0 g a w B M hr K G) fun x a' w' hp=>?_;obtain⟨e,g',s',E,D,h3,h4,z⟩:=hp;cases e with
 |exit j=>exact⟨.exit j,g',s',E,D,h3,h4,z⟩
 |ret=>exact⟨.ret,g',s',E,D,h3,h4,z⟩
 |normal=>
  obtain⟨k,I⟩:=D;obtain⟨g1,k1,k2,k3,_⟩:=K1 h3 h4 z k;exact⟨.normal,g1,s'.keep k,E,J _ I,k1,k2,k3⟩
section
variable {Q:Ex->St->Prop}{s:St}{j:Nat}{X:St->Prop}
theorem vV (h: ∃k:wG,X (s.keep k)):qN X Q .normal s:=h
theorem kp (h:Q .ret s):qN X Q .ret s:=h
end
def val {ρ:Type}[Inhabited ρ] (x:Option ρ):ρ:=x.getD default
theorem sC {ρ:Type}[Inhabited ρ] {x:Option ρ}{y:ρ}(h:x=some y):val x=y:=by rw[h];rfl
theorem rO {ρ:Type}{x:Option ρ}{y:ρ}(h:x=some y):x.isSome=true:=by rw[h];rfl
theorem qP {ρ:Type}{c:Prop}[Decidable c] {x:Option ρ}{r:ρ}(h:(if c then x else none)=some r):c/\x=some r:=by
 by_cases j:c
 .rw[aFz j] at h;exact⟨j,h⟩
 rw[aFA j] at h;cases h
theorem pK{ρ:Type}{c e:Prop}[Decidable c][Decidable e]{x:Option ρ}{r:ρ}(h:(if c then if e then x else none else none)=some r):c/\e/\x=some r:=have k:=qP h;⟨k.1,qP k.2⟩
theorem r8 {σ ρ:Type}{x:Option σ}{k:σ->Option ρ}{r:ρ}(h:x.bind k=some r): ∃y,x=some y/\k y=some r:=by
 cases x with
 |none=>cases h
 |some y=>exact⟨y,rfl,h⟩
theorem a6I {ρ:Type}{b:Bool}{x y:ρ}{r:ρ}(h:(if b=true then x else y)=r) (hb:b=true):x=r:=by rw[aFz hb] at h;exact h
theorem a6J {ρ:Type}{b:Bool}{x y:ρ}{r:ρ}(h:(if b=true then x else y)=r) (hb:b=false):y=r:=by rw[hb,aFA pQ] at h;exact h
def tN {σ ρ:Type}(x:Option (σ⊕ρ)) (k:σ->Option ρ):Option ρ:=x.bind fun y=>match y with
 | .inl v=>k v
 | .inr r=>some r
theorem vD {σ ρ:Type}{x:Option (σ⊕ρ)}{k:σ->Option ρ}{r:ρ}(h:tN x k=some r): ∃y,x=some y/\(match y with| .inl v=>k v| .inr r=>some r)=some r:=r8 h
def uO {σ ρ:Type}(x:Option σ) (k:σ->Option ρ):Option ρ:=x.bind k
def BF {σ ρ:Type}(x:σ) (k:σ->ρ):ρ:=k x
theorem kq {σ ρ:Type}{x:σ}{k:σ->ρ}{r:ρ}(h:BF x k=r):k x=r:=h
theorem S8 {σ ρ:Type}{x:σ}{k:σ->ρ}{r:ρ}(h:BF x k=r): ∃y,x=y/\k y=r:=⟨x,rfl,h⟩
theorem sJ {x:Bool}(h:x=true):(x==true)=true:=by rw[h];rfl
theorem GD {G x:Bool}(j:G=true) (h:x=true):(G&&(x==true))=true:=by rw[j,h];rfl
theorem I5 {G x:Bool}(j:G=true) (h:x=false):(G&&(x==false))=true:=by rw[j,h];rfl
theorem tC {x:Bool}(h:x=false):(x==false)=true:=by rw[h];rfl
section
variable {P:Program}{T:sW}{Γ:tH}(E:rF P T Γ) {s:St}{Q:Ex->St->Prop}
include E
theorem Ra {id:Nat}{ops:Array Oper}{a:wB}(h:vA T Γ ops.toList ops.toList (some ⟨s,[],[]⟩)=some a) (hp:rJ a.side) (hq:Q .normal a.s):Ev R P (.region id ops false) s Q:=
 Qt E.T E.Γ E.m (a4a h hp hq)
theorem Rb {id:Nat}{ops:Array Oper}{a:wB}(h:vA T Γ ops.toList ops.toList (some ⟨s,[],[]⟩)=some a) (hf:M9 ops s.nb a.es.reverse=true) (hp:rJ a.side) (hq:Q .normal a.s):Ev R P (.region id ops true) s Q:=
 Qt E.T E.Γ E.m (a4b h hf hp hq)
end
end Go.Proofs.YtcpbaddnmpeipaaGreatDoor.Vc
namespace Go.Proofs.YtcpbaddnmpeipaaGreatDoor.Vc
open Go.RowKit
variable {R:Bool}
attribute [go_sem] Option.map_some Option.map_none
@[go_sem] theorem aDz {H:List (Nat×qJ)}{ps:List PK}{b:List qK}{a:Option t8}:yE H ps ([]++b) a=yE H ps b a:=rfl
@[go_sem] theorem aDA {H:List (Nat×qJ)}{ps:List PK}{x:qK}{l b:List qK}{a:Option t8}:yE H ps ((x::l)++b) a=yE H ps (x::(l++b)) a:=rfl
@[go_sem] def Rc:Option qK->Option (List qK)->Option (List qK)
 |some s,some l=>some (s::l)
 |_,_=>none
@[go_sem] def Re:Option qY->Option qK
 |some e=>some e.slot
 |none=>none
@[go_sem] def XU (H:List (Nat×qJ)):Option TI->qK->Option qY
 |some ti,(.val .ref (some (i,off)),_)=>R6 ti.ty i off (qO H i)
 |_,_=>none
@[go_sem] def S9 (T:sW) (s:St) (m:pU):Nat×Option TypeId->Option qK
 |(t,none)=>some (AR m (lk s.env t))
 |(t,some ty)=>(Re (XU s.H (rY T ty) (lk s.env t))).map (AR m)
@[go_sem] def K2 (T:sW) (s:St) (m:pU):List (Nat×Option TypeId)->Option (List qK)
 |[]=>some []
 |q::r=>Rc (S9 T s m q) (K2 T s m r)
def DZ:Nat×Option TypeId->ResultVar
 |(t,none)=> .tmp t
 |(t,some ty)=> .cell t ty
@[go_sem] def EW:Nat->Nat->List (Nat×qJ)->List (Nat×qJ)
 |0,_,H=>H
 |n+1,i,[]=>(i,.dead)::EW n (i+1) []
 |n+1,i,(j,b)::H=>if j=i then(j,b)::EW n (i+1) H else(i,.dead)::EW n (i+1) ((j,b)::H)
theorem MU: ∀{n i:Nat}{H:List (Nat×qJ)}{k:Nat}{b:qJ},qO (EW n i H) k=some b->qO H k=some b\/b= .dead
 |0,_,_,_,_,h=> .inl h
 |n+1,i,[],k,b,h=>by
  simp only[EW,qO] at h;split at h
  .exact .inr (aFE h).symm
  .exact MU h
 |n+1,i,(j,c)::H,k,b,h=>by
  unfold EW at h;split at h
  .simp only[qO] at h|-;split at h
   .rename_i e;rw[aFz e];exact .inl h
   rename_i e;rw[aFA e];exact MU h
  simp only[qO] at h;split at h
  .exact .inr (aFE h).symm
  exact MU h
theorem sK.pad {g:Gh}{w:q8}{H:sF}(h:sK g w H) (n i:Nat):sK g w (EW n i H):=by
 have own: ∀{k blk b o},qO (EW n i H) k=some blk->sH g k blk b o->qO H k=some blk:=fun F ho=>by
  rcases MU F with z|z
  .exact z
  subst z;exact ho.elim
 refine⟨fun k b hb=>?_,fun i j bi bj b o E z D o1 o2=>h.dis i j bi bj b o E (own z o1) (own D o2) o1 o2,h.sl,h.tab.1,fun k blk b o z D=>h.tab.2 k blk b o (own z D) D⟩;rcases MU hb with z|z
 .exact h.blk k b z
 subst z;trivial
theorem tJ.pad {A:Nat->Nat->Prop}{L:List qJ}{g0 g:Gh}{w0 w:q8}{H:sF}(h:tJ A L g0 w0 g w H) (n i:Nat):tJ A L g0 w0 g w (EW n i H):=by
 refine⟨h.shut,h.fr,fun k blk b o z ho=>?_,h.J,h.live,fun k u y us D z=>?_,h.cur⟩
 .rcases MU z with j|j
  .exact h.perm k blk b o j ho
  subst j;exact ho.elim
 rcases MU z with j|j
 .exact h.ty k u y us D j
 cases j
def Rf (T:sW) (ts:List (Nat×Option TypeId)) (r:qT):Ex->St->Prop
 | .exit _,_=>False
 |_,s=> ∃m:pU,xE s.np m=true/\EW (rD r.H) 0 (s.keep ⟨[],m⟩).H=r5 0 r.H/\K2 T s m ts=some r.ret
section
variable {P:Program}{o:Oper}{a:Act}{g:Gh}{w:q8}{H:sF}{T:sW}(hT:xU P T) (hH:sK g w H)
include hT hH
theorem a6K {t:TypeId}{vx:q9}{sx:qK}(I:rS g w sx vx) {e:qY}(hr:XU H (rY T t) sx=some e): ∃ad v,vx= .pointer (some ad)/\(loadVar t ad).run P w= .ok v w/\rS g w e.slot v:=by
 generalize V:rY T t=ot at hr;replace I:=I.1;unfold XU at hr;split at hr
 .rename_i ti i off k;have K:=t7 hT V;generalize hb:qO H i=ob at hr;unfold R6 at hr;split at hr
  .rename_i u z toks;generalize j:rE ti.ty u z off=oy at hr;cases oy with
   |none=>cases hr
   |some y=>
    cases hr;obtain⟨p,hp,U⟩:=xW I;obtain⟨p',cs,h,X,Q,_,_,O⟩:=hH.blk i _ hb;rw[hp] at h;obtain rfl:=aFE h;obtain⟨c1,c2,c3,rfl,rfl,D⟩:=CA X j;obtain⟨v,Y,R,h3⟩:=P3 hT hH K (MK hT hH Q) D;refine⟨_,v,U,by simpa[Instr.loadAt,Instr.sureAddr] using Y,R,?_⟩;obtain⟨ty,el,by',ar,ls⟩:=ti;cases ty with
    |list u'=>
     simp only[FY];generalize M:xQ toks c1.length=ok;cases ok with
     |none=>trivial
     |some k=>
      obtain⟨u2,l,v',g1,g2,g3⟩:=O _ _ (gt hT hH M);obtain⟨heq,hl⟩:=Md hT hH g1 j rfl;injection heq with G
      subst G;have F:=sZ D;obtain⟨v2,rfl⟩:=aGS.1 F;have e2:v'=v2:=by
       have e:(c1++[v2]++c3)[c1.length]? =some v2:=by simp
       rw[e] at g2;exact(aFE g2).symm
      have e3:v=v2:=by
       have h4:=xV rfl R;have E:=AS h4 v pR;have:v.cells= #[v]:=by cases v<;>first|rfl|(simp [Value.oneCell'] at E)
       rw[this] at h3;simpa using h3
      subst e2;subst e3;have e4:(y:List u'.den)=l:=hl;subst e4;exact g3
    |_=>trivial
  cases hr
 cases hr
end
def MV (tmps:Array q9) (q:Nat×Option TypeId):Sem q9:=match DZ q with
 | .tmp t=>pure (tmps.getD t undef)
 | .cell a t=>do loadVar t (<-asAddr (tmps.getD a undef))
theorem Rg {P:Program}{T:sW}(hT:xU P T) {B:Nat}{g:Gh}{w:q8}{s:St}{a:Act}{m:pU}(j:xE s.np m=true) (hr:vB B g w s a): ∀{ts:List (Nat×Option TypeId)}{l:List qK},K2 T s m ts=some l->
  ∃vs:pW,(ts.mapM (MV a.tmps)).run P w= .ok vs w/\vG (uJ g s.np m) w l vs
 |[],l,h=>by
  simp only[K2,aFy] at h;subst h;exact⟨[],by simp,rfl⟩
 |q::ts,l,h=>by
  simp only[K2] at h;obtain⟨s1,l1,e1,e2,rfl⟩: ∃s1 l1,S9 T s m q=some s1/\K2 T s m ts=some l1/\l=s1::l1:=by
   cases G:S9 T s m q<;>cases F:K2 T s m ts<;>rw[G,F] at h<;>simp [Rc] at h
   exact⟨_,_,rfl,rfl,h.symm⟩
  obtain⟨vs,v1,v2⟩:=Rg hT j hr e2;obtain⟨v,w1,w2⟩: ∃v,(MV a.tmps q).run P w= .ok v w/\rS (uJ g s.np m) w s1 v:=by
   obtain⟨t,oty⟩:=q;cases oty with
   |none=>
    simp only[S9,aFy] at e1;subst e1;exact⟨_,by simp [MV,DZ],XJ j (hr.env t)⟩
   |some ty=>
    simp only[S9] at e1;cases z:XU s.H (rY T ty) (lk s.env t) with
    |none=>rw[z] at e1;cases e1
    |some e=>
     rw[z] at e1;simp only[Re,Option.map_some,aFy] at e1;subst e1;obtain⟨ad,v,D,hl,E⟩:=a6K hT hr.heap (hr.env t) z;exact⟨v,by simp only[MV,DZ,D,asAddr,aFM,aF0,aFH,hl],XJ j E⟩
  exact⟨v::vs,by simp only[List.mapM_cons,aFM,w1,aFH,v1,aF0],v,vs,rfl,w2,v2⟩
def PC (tmps:Array q9):ResultVar->Sem q9
 | .tmp t=>pure (tmps.getD t undef)
 | .cell a t=>do loadVar t (<-asAddr (tmps.getD a undef))
theorem a6L {P:Program}{fn:Func}{w:q8}{tmps:Array q9}{ts:List (Nat×Option TypeId)}(h:fn.results.toList=ts.map DZ) {vs:pW}(z:(ts.mapM (MV tmps)).run P w= .ok vs w):(results fn tmps).run P w= .ok (kg vs) w:=by
 obtain⟨rs,j⟩: ∃rs,fn.results=⟨rs⟩:=⟨fn.results.toList,rfl⟩;have hm:rs=ts.map DZ:=by rw[j] at h;exact h
 have key:Sem.run P (((ts.map DZ).toArray).mapM (PC tmps)) w=Result.ok vs.toArray w:=by
  rw[List.mapM_toArray,List.mapM_map];have e:PC tmps∘DZ=MV tmps:=by
   funext q;obtain⟨t,o⟩:=q;cases o<;>rfl
  have e2:(fun q=>PC tmps (DZ q))=MV tmps:=e;show Sem.run P (List.mapM (fun q=>PC tmps (DZ q)) ts>>=fun l=>pure l.toArray) w=_;rw[e2,aFM,z];rfl
 have D:results fn tmps=(fn.results.mapM (PC tmps) >>=fun vs=>pure (if h:vs.size=1 then vs[0] else .tuple vs)):=by
  unfold results;congr 2
 rw[D,j,hm,aFM];have key2:Sem.run P (Array.mapM (PC tmps) (⟨ts.map DZ⟩:Array ResultVar)) w=Result.ok vs.toArray w:=key;rw[key2];simp only[aFH,aF0]
 match vs with
 |[]=>rfl
 |[v]=>rfl
 |v::u::l=>simp [kg]
theorem a6M {P:Program}{T:sW}(hT:xU P T) {f:FuncId}{fn:Func}{c:Code}{C:List qK->List qJ->Option qT}{ts:List (Nat×Option TypeId)}(hf:P.funcs[f]? =some fn) (hb:fn.body=some c) {N:Nat}(hN:fn.ntmps=N)
  (I: ∀args w,(callFunc f args).run P w= .ok (.enter f args) w) (U:fn.results.toList=ts.map DZ)
  (h: ∀args L r,C args L=some r->(∀p∈r.side,p)->rW L->args.length<=N/\S5 (vZ 0 L) args/\MS (vZ 0 L) L/\Ev false P c ⟨rV 0 args,r5 0 L,rD L,N,rD L⟩ (Rf T ts r)):xF P f C:=by
 subst hN;refine⟨I,fun g w args vals L r hH ha hC O=>?_⟩;obtain⟨h1,h2,h3,h4⟩:=h args L r hC O (Qm fun i b hb=>⟨i,hH.blk i b (by rw[xY];exact hb)⟩);obtain⟨hr,D⟩:=a6y hH ha h2 h3 h1;have j: ∀b o,z6 (uJ g 0 (vZ 0 L)) (r5 0 L) b o->z6 g (r5 0 L) b o:=fun b o ⟨i,blk,M,ho⟩=>⟨i,blk,M,(D i blk (by rw[<-xY];exact M)).2.2 b o ho⟩;have G:tJ (z6 (uJ g 0 (vZ 0 L)) (r5 0 L)) L (uJ g 0 (vZ 0 L)) w (uJ g 0 (vZ 0 L)) w (r5 0 L):=by
  refine⟨fun b o h=>⟨h,rfl⟩,Fr.refl _ _ _,fun i blk b o M ho=> .inr ⟨i,blk,M,ho⟩,fun _ _ _ h=>h,fun i hi=>?_,fun i u y us _ M=>⟨y,us,by rw[<-xY];exact M⟩,fun _ _ _ _ h=>h⟩;have hL:L[i]? =some L[i]:=by simp
  obtain⟨_,z,_⟩:=D i L[i] hL;have R:=(MT h3 L[i] (aGp hi)).2;generalize L[i]=blk at z R;cases blk with
  |cells t x ts=>obtain⟨p,cs,hp,_⟩:=z;exact .inl ⟨p,hp⟩
  |grow e c n=>obtain⟨v,xs,K,_⟩:=z;exact .inr ⟨n,v,K⟩
  |row e t l n=>obtain⟨_,v,xs,K,_⟩:=z;exact .inr ⟨n,v,K⟩
  |map k v l=>obtain⟨p,es,cl,hp,_⟩:=z;exact .inl ⟨p,hp⟩
  |iter s n=>obtain⟨p,hp,_⟩:=z;exact .inl ⟨p,hp⟩
  |dead=>exact absurd rfl R
 refine callsIn_wide.1 (callsIn_of_wp_marks (F:=Fence.wide) (n:=0) hf hb trivial (aHl (h4 none rfl _ _ _ _ _ _ _ _ (aFW _) hr G (XR L)) fun x a' w' hp=>?_) rfl);obtain⟨e,g',s',e1,e2,e3,e4,e5⟩:=hp;have fin: ∀m:pU,xE s'.np m=true->EW (rD r.H) 0 (s'.keep ⟨[],m⟩).H=r5 0 r.H->K2 T s' m ts=some r.ret->LeavesInM Fence.wide 0 P fn a'.tmps (fun e w'=> ∃v' g',e= .returned v'/\GA g w L r g' w' v') a'.defers .returning w':=by
  intro m Y k1 k2;refine Qs a'.defers w' e3 e4 (fun w1 e3 e4=>?_);obtain⟨l1,l2,l3,_⟩:=jo e3 e4 e5 ⟨[],m⟩ Y;replace l2:=l2.pad (rD r.H) 0;rw[k1] at l2;obtain⟨vs,q1,q2⟩:=Rg hT Y e3 k2;have q3:=a6L (P:=P) (w:=w1) (tmps:=a'.tmps) U q1;refine⟨_,q3,_,_,rfl,⟨fun b o hb=>l2.shut b o hb,by rw[<-k1];exact l1.heap.pad _ _,?_,?_,fun i blk b o hi ho=>?_,fun i t x us hi=>?_,fun i t x us u y vs hi hr=>?_,fun i p hi hp=>l2.J i p hi ((zU XP (PB.2 ⟨rfl,aGu _,pP⟩)).1.trans hp),fun i n u hi Z=>l2.cur i n u hi ((congrFun (zU XP (PB.2 ⟨rfl,aGu _,pP⟩)).2 n).trans Z)⟩⟩
  .unfold RV;split
   .rename_i s O;rw[O] at q2;obtain⟨v,vs',K,Q,h6⟩:=q2;rw[K,show vs'=[] from h6];exact Q
   rename_i X;refine⟨_,?_,q2⟩;unfold kg;split
   .rename_i v K;exfalso;have:=(XQ q2).1;cases hq:r.ret with
    |nil=>rw[hq] at this;simp at this
    |cons s l=>cases l with
     |nil=>exact X s hq
     |cons _ _=>rw[hq] at this;simp at this
   rfl
  .exact⟨l2.fr.os,l2.fr.tape,l2.fr.output,l2.fr.size,fun b hb V=>l2.fr.blk b hb (fun o ho=>V o (j b o ho)),fun b o hb V=>l2.fr.cell b o hb (fun ho=>V (j b o ho)),fun b o hS=>(l2.fr.new b o hS).imp id (Or.imp id (j b o)),fun b s O=>(l2.fr.shape b s O).imp id fun h o=>j b o (h o)⟩
  .exact(l2.perm i blk b o (by rw[xY];exact hi) ho).imp id (j b o)
  .obtain⟨j1,⟨p,cs,j2,_⟩,_⟩:=D i _ hi;have E:i<L.length:=(aFP.1 hi).1;rw[l2.J i p E j2,<-j1,j2]
  have E:i<L.length:=(aFP.1 hi).1;obtain⟨x',ts',Q⟩:=l2.ty i u y vs E (by rw[xY];exact hr);rw[hi] at Q;simp only[aFy,qJ.cells.injEq] at Q;exact Q.1.symm
 cases x<;>simp only[GC,aFy] at e1
 case normal=>subst e1;obtain⟨k,k0,k1,k2⟩:=e2;exact fin k k0 k1 k2
 case ret=>subst e1;obtain⟨k,k0,k1,k2⟩:=e2;exact fin k k0 k1 k2
 case exit id=>subst e1;exact e2.elim
 all_goals cases e1
open Classical in
noncomputable def rX {V:Type}(p:V->List qK) (q:V->List qJ) (R:V->qT) (a:List qK) (L:List qJ):Option qT:=
 if h: ∃v,p v=a/\q v=L then some (R h.choose) else none
theorem a6N {V:Type}{p:V->List qK}{q:V->List qJ}{R:V->qT}{a:List qK}{L:List qJ}{r:qT}(h:rX p q R a L=some r): ∃v,p v=a/\q v=L/\R v=r:=by
 unfold rX at h;split at h
 .rename_i e;exact⟨e.choose,e.choose_spec.1,e.choose_spec.2,aFE h⟩
 cases h
theorem rZ {V:Type}{p:V->List qK}{q:V->List qJ}{R:V->qT}(inj: ∀v v',p v=p v'->q v=q v'->v=v') (v:V):rX p q R (p v) (q v)=some (R v):=by
 have h: ∃u,p u=p v/\q u=q v:=⟨v,rfl,rfl⟩;unfold rX;rw[aHB h,inj _ v h.choose_spec.1 h.choose_spec.2]
theorem Rh: ∀{l:List Prop},(∀p∈l,p)->rJ l
 |[],_=>trivial
 |[p],h=>h p pR
 |p::q::r,h=>⟨h p pR,Rh (l:=q::r) fun x j=>h x (aFK _ j)⟩
def rL (P:Program) (x:Nat×rH):Prop:=xF P x.1 x.2.C/\∀F,x.2.row=some F->X4 P x.1 F
theorem s5 {P:Program}{T:sW}{Γ:tH}(F:rF P T Γ) {f:FuncId}{fn:Func}{c:Code}{V:Type}{p:V->List qK}{q:V->List qJ}{R:V->qT}{ps:List PK}{gs:List (Nat×Nat×PK)}{same:pZ}{ts:List (Nat×Option TypeId)}(hf:P.funcs[f]? =some fn) (hb:fn.body=some c) {N:Nat}(E:fn.ntmps=N)
  (z:fn.results.toList=ts.map DZ) (j: ∀args w,(callFunc f args).run P w= .ok (.enter f args) w)
  (h: ∀v,rJ (R v).side->rW (q v)->Ev false P c ⟨rV 0 (p v),r5 0 (q v),rD (q v),N,rD (q v)⟩ (Rf T ts (R v)))
  (K: ∀v,Nat.ble (p v).length N=true:=by intro _;rfl)
  (I: ∀v,S5 (vZ 0 (q v)) (p v):=by intro _;repeat (first|exact trivial|refine ⟨rfl,?_⟩))
  (h3: ∀v,MS (vZ 0 (q v)) (q v):=by intro _;repeat (first|exact trivial|refine ⟨rfl,?_⟩)):rL P (f,⟨ps,rX p q R,gs,same,none⟩):=
 ⟨a6M F.T hf hb E j z fun args L r G D hr=>by
  obtain⟨v,rfl,rfl,rfl⟩:=a6N G;exact⟨aGT (K v),I v,h3 v,h v (Rh D) hr⟩,fun _ h=>by cases h⟩
abbrev qM (n:Int):Prop:= -9223372036854775808<=n/\n<=9223372036854775807
@[go_sem] def rG:List (Nat×rH)->tH
 |[],_=>none
 |(k,s)::r,f=>if k=f then some s else rG r f
theorem rU {P:Program}:ET P (rG []):=fun _ _ _ h=>by cases h
theorem qW {P:Program}{x:Nat×rH}{r:List (Nat×rH)}(h:rL P x) (hr:ET P (rG r)):ET P (rG (x::r)):=fun f s z j=>by
 obtain⟨k,y⟩:=x;simp only[rG] at j;split at j
 .rename_i e;subst e;cases j;exact h
 exact hr f s z j
section
variable {P:Program}{T:sW}{Γ:tH}(E:rF P T Γ) {s:St}{Q:Ex->St->Prop}
include E
theorem qI {id:Nat}{ops:Array Oper}{a:wB}{y:Code}(hq:Ev R P y a.s Q) (h:vA T Γ ops.toList ops.toList (some ⟨s,[],[]⟩)=some a:=by simp only[go_sem];rfl) (hp:rJ a.side:=by exact trivial):Ev R P (.seq (.region id ops false) y) s Q:=
 qV (Ra E h hp hq)
theorem xH {id:Nat}{ops:Array Oper}{a:wB}{y:Code}(hq:Ev R P y a.s Q) (h:vA T Γ ops.toList ops.toList (some ⟨s,[],[]⟩)=some a:=by simp only[go_sem];rfl) (hp:rJ a.side:=by exact trivial) (hf:M9 ops s.nb a.es.reverse=true:=by kernel_rfl):Ev R P (.seq (.region id ops true) y) s Q:=
 qV (Rb E h hf hp hq)
theorem rP {id:Nat}{ops:Array Oper}{a:wB}(hq:Q .normal a.s) (h:vA T Γ ops.toList ops.toList (some ⟨s,[],[]⟩)=some a:=by simp only[go_sem];rfl) (hp:rJ a.side:=by exact trivial):Ev R P (.region id ops false) s Q:=
 Ra E h hp hq
theorem K3 {id:Nat}{ops:Array Oper}{a:wB}(hq:Q .normal a.s) (h:vA T Γ ops.toList ops.toList (some ⟨s,[],[]⟩)=some a:=by simp only[go_sem];rfl) (hp:rJ a.side:=by exact trivial) (hf:M9 ops s.nb a.es.reverse=true:=by kernel_rfl):Ev R P (.region id ops true) s Q:=
 Rb E h hf hp hq
end
theorem qZ {P:Program}{s:St}{Q:Ex->St->Prop}{c:Operand}{x y:Code}{b b':Bool}{k:pY}{ρ:Type}{X Y r:ρ}(j:(if b'=true then X else Y)=r) (z:X=r->b=true->Ev R P x s Q) (hf:Y=r->b=false->Ev R P y s Q)
  (h:u7 s.env c=(.val .bool b,k):=by simp only[go_sem];rfl) (hb:b=b':=by first|rfl|simp):Ev R P (.cond c x y) s Q:=
 a6B h (fun e=>z (a6I j (hb▸e)) e) (fun e=>hf (a6J j (hb▸e)) e)
theorem rQ {σ ρ:Type}[Inhabited σ] {x:Option σ}{k:σ->Option ρ}{r:ρ}(h:x.bind k=some r): ∃y,x=some y/\val x=y/\k y=some r:=by
 obtain⟨y,j,z⟩:=r8 h;exact⟨y,j,sC j,z⟩
attribute [go_sem] true_and and_true false_and and_false Nat.reduceMul List.nil_append List.cons_append List.append_nil List.toList_toArray Nat.reduceEqDiff reduceIte reduceDIte reduceCtorEq Nat.reduceAdd Nat.reduceSub Int.reduceToNat Nat.reduceLT Nat.reduceLeDiff decide_true decide_false Bool.and_self Bool.or_self Bool.or_false Bool.false_or Bool.and_true Bool.true_and Bool.not_true Bool.not_false
end Go.Proofs.YtcpbaddnmpeipaaGreatDoor.Vc
namespace Go.Proofs
open Go.RowKit Go.Lib
open Tryz
def Tryz.lays137_ren:Go.Shelf.Ren:=⟨fun|137=>133|217=>139|266=>174|n=>n,fun|9=>9|5=>5|3=>3|n=>n,fun|n=>n⟩
theorem Tryz.lays137:Go.Proofs.Lays.n137 prog Tryz.lays137_ren:={
 mixed:=by kernel_rfl
 f137:=Tryz.func133.trans (aFZ some qC)
 f217:=Tryz.func139.trans (aFZ some qC)
 f266:=Tryz.func174.trans (aFZ some qC)
 t3:=Tryz.underlying3
 a3:=Tryz.isAgg3
 z3:=Tryz.sizeOf3
 v3:=Tryz.zeroValue3
 t5:=Tryz.underlying5
 a5:=Tryz.isAgg5
 z5:=Tryz.sizeOf5
 v5:=Tryz.zeroValue5
 t9:=Tryz.underlying9
 a9:=Tryz.isAgg9
 z9:=Tryz.sizeOf9
 v9:=Tryz.zeroValue9}
def Tryz.lays161_ren:Go.Shelf.Ren:=⟨fun|161=>80|231=>111|227=>112|233=>113|235=>114|228=>143|197=>144|151=>145|260=>176|152=>177|137=>133|119=>199|224=>141|225=>140|217=>139|266=>174|n=>n,fun|9=>9|4=>4|3=>3|5=>5|117=>152|116=>151|0=>0|124=>155|105=>177|21=>21|119=>218|46=>176|139=>221|138=>220|n=>n,fun|3=>1|4=>2|n=>n⟩
theorem Tryz.lays161:Go.Proofs.Lays.n161 prog Tryz.lays161_ren:={
 mixed:=by kernel_rfl
 f119:=Tryz.func199.trans (aFZ some qC)
 f137:=Tryz.func133.trans (aFZ some qC)
 f151:=Tryz.func145.trans (aFZ some qC)
 f152:=Tryz.func177.trans (aFZ some qC)
 f161:=Tryz.func80.trans (aFZ some qC)
 f197:=Tryz.func144.trans (aFZ some qC)
 f217:=Tryz.func139.trans (aFZ some qC)
 f224:=Tryz.func141.trans (aFZ some qC)
 f225:=Tryz.func140.trans (aFZ some qC)
 f227:=Tryz.func112.trans (aFZ some qC)
 f228:=Tryz.func143.trans (aFZ some qC)
 f231:=Tryz.func111.trans (aFZ some qC)
 f233:=Tryz.func113.trans (aFZ some qC)
 f235:=Tryz.func114.trans (aFZ some qC)
 f260:=Tryz.func176.trans (aFZ some qC)
 f266:=Tryz.func174.trans (aFZ some qC)
 t0:=Tryz.underlying0
 a0:=Tryz.isAgg0
 z0:=Tryz.sizeOf0
 v0:=Tryz.zeroValue0
 t3:=Tryz.underlying3
 a3:=Tryz.isAgg3
 z3:=Tryz.sizeOf3
 v3:=Tryz.zeroValue3
 t4:=Tryz.underlying4
 a4:=Tryz.isAgg4
 z4:=Tryz.sizeOf4
 v4:=Tryz.zeroValue4
 t5:=Tryz.underlying5
 a5:=Tryz.isAgg5
 z5:=Tryz.sizeOf5
 v5:=Tryz.zeroValue5
 t9:=Tryz.underlying9
 a9:=Tryz.isAgg9
 z9:=Tryz.sizeOf9
 v9:=Tryz.zeroValue9
 t21:=Tryz.underlying21
 a21:=Tryz.isAgg21
 z21:=Tryz.sizeOf21
 v21:=Tryz.zeroValue21
 t46:=Tryz.underlying176
 a46:=Tryz.isAgg176
 z46:=Tryz.sizeOf176
 v46:=Tryz.zeroValue176
 t105:=Tryz.underlying177
 a105:=Tryz.isAgg177
 z105:=Tryz.sizeOf177
 v105:=Tryz.zeroValue177
 t116:=Tryz.underlying151
 a116:=Tryz.isAgg151
 z116:=Tryz.sizeOf151
 t117:=Tryz.underlying152
 a117:=Tryz.isAgg152
 z117:=Tryz.sizeOf152
 v117:=Tryz.zeroValue152
 t119:=Tryz.underlying218
 a119:=Tryz.isAgg218
 z119:=Tryz.sizeOf218
 t124:=Tryz.underlying155
 a124:=Tryz.isAgg155
 z124:=Tryz.sizeOf155
 v124:=Tryz.zeroValue155
 t138:=Tryz.underlying220
 a138:=Tryz.isAgg220
 z138:=Tryz.sizeOf220
 v138:=Tryz.zeroValue220
 t139:=Tryz.underlying221
 a139:=Tryz.isAgg221
 z139:=Tryz.sizeOf221
 v139:=Tryz.zeroValue221
 g3:=by kernel_rfl
 g4:=by kernel_rfl}
def Tryz.lays190_ren:Go.Shelf.Ren:=⟨fun|190=>163|125=>192|258=>191|128=>217|129=>218|302=>208|303=>209|304=>210|305=>211|306=>212|307=>213|308=>214|309=>215|310=>216|333=>236|329=>237|330=>238|334=>239|335=>240|336=>241|344=>252|n=>n,fun|31=>23|9=>9|3=>3|46=>176|0=>0|51=>202|53=>241|4=>4|183=>234|182=>233|131=>54|5=>5|218=>255|222=>259|228=>268|229=>140|n=>n,fun|n=>n⟩
theorem Tryz.lays190:Go.Proofs.Lays.n190 prog Tryz.lays190_ren:={
 mixed:=by kernel_rfl
 f125:=Tryz.func192.trans (aFZ some qC)
 f128:=Tryz.func217.trans (aFZ some qC)
 f129:=Tryz.func218.trans (aFZ some qC)
 f190:=Tryz.func163.trans (aFZ some qC)
 f258:=Tryz.func191.trans (aFZ some qC)
 f302:=Tryz.func208.trans (aFZ some qC)
 f303:=Tryz.func209.trans (aFZ some qC)
 f304:=Tryz.func210.trans (aFZ some qC)
 f305:=Tryz.func211.trans (aFZ some qC)
 f306:=Tryz.func212.trans (aFZ some qC)
 f307:=Tryz.func213.trans (aFZ some qC)
 f308:=Tryz.func214.trans (aFZ some qC)
 f309:=Tryz.func215.trans (aFZ some qC)
 f310:=Tryz.func216.trans (aFZ some qC)
 f329:=Tryz.func237.trans (aFZ some qC)
 f330:=Tryz.func238.trans (aFZ some qC)
 f333:=Tryz.func236.trans (aFZ some qC)
 f334:=Tryz.func239.trans (aFZ some qC)
 f335:=Tryz.func240.trans (aFZ some qC)
 f336:=Tryz.func241.trans (aFZ some qC)
 f344:=Tryz.func252.trans (aFZ some qC)
 t0:=Tryz.underlying0
 a0:=Tryz.isAgg0
 z0:=Tryz.sizeOf0
 v0:=Tryz.zeroValue0
 t3:=Tryz.underlying3
 a3:=Tryz.isAgg3
 z3:=Tryz.sizeOf3
 v3:=Tryz.zeroValue3
 t4:=Tryz.underlying4
 a4:=Tryz.isAgg4
 z4:=Tryz.sizeOf4
 v4:=Tryz.zeroValue4
 t5:=Tryz.underlying5
 a5:=Tryz.isAgg5
 z5:=Tryz.sizeOf5
 v5:=Tryz.zeroValue5
 t9:=Tryz.underlying9
 a9:=Tryz.isAgg9
 z9:=Tryz.sizeOf9
 v9:=Tryz.zeroValue9
 t31:=Tryz.underlying23
 a31:=Tryz.isAgg23
 z31:=Tryz.sizeOf23
 v31:=Tryz.zeroValue23
 t46:=Tryz.underlying176
 a46:=Tryz.isAgg176
 z46:=Tryz.sizeOf176
 v46:=Tryz.zeroValue176
 t51:=Tryz.underlying202
 a51:=Tryz.isAgg202
 z51:=Tryz.sizeOf202
 v51:=Tryz.zeroValue202
 t53:=Tryz.underlying241
 a53:=Tryz.isAgg241
 z53:=Tryz.sizeOf241
 v53:=Tryz.zeroValue241
 t131:=Tryz.underlying54
 a131:=Tryz.isAgg54
 z131:=Tryz.sizeOf54
 v131:=Tryz.zeroValue54
 t182:=Tryz.underlying233
 a182:=Tryz.isAgg233
 z182:=Tryz.sizeOf233
 v182:=Tryz.zeroValue233
 t183:=Tryz.underlying234
 a183:=Tryz.isAgg234
 z183:=Tryz.sizeOf234
 v183:=Tryz.zeroValue234
 t218:=Tryz.underlying255
 a218:=Tryz.isAgg255
 z218:=Tryz.sizeOf255
 v218:=Tryz.zeroValue255
 t222:=Tryz.underlying259
 a222:=Tryz.isAgg259
 z222:=Tryz.sizeOf259
 v222:=Tryz.zeroValue259
 t228:=Tryz.underlying268
 a228:=Tryz.isAgg268
 z228:=Tryz.sizeOf268
 v228:=Tryz.zeroValue268
 t229:=Tryz.underlying140
 a229:=Tryz.isAgg140
 z229:=Tryz.sizeOf140
 v229:=Tryz.zeroValue140}
def Tryz.lays196_ren:Go.Shelf.Ren:=⟨fun|196=>168|259=>195|n=>n,fun|0=>0|3=>3|4=>4|5=>5|9=>9|12=>12|46=>176|53=>241|119=>218|138=>220|139=>221|n=>n,fun|3=>1|4=>2|n=>n⟩
theorem Tryz.lays196:Go.Proofs.Lays.n196 prog Tryz.lays196_ren:={
 mixed:=by kernel_rfl
 f196:=Tryz.func168.trans (aFZ some qC)
 f259:=Tryz.func195.trans (aFZ some qC)
 t0:=Tryz.underlying0
 a0:=Tryz.isAgg0
 z0:=Tryz.sizeOf0
 v0:=Tryz.zeroValue0
 t3:=Tryz.underlying3
 a3:=Tryz.isAgg3
 z3:=Tryz.sizeOf3
 v3:=Tryz.zeroValue3
 t4:=Tryz.underlying4
 a4:=Tryz.isAgg4
 z4:=Tryz.sizeOf4
 v4:=Tryz.zeroValue4
 t5:=Tryz.underlying5
 a5:=Tryz.isAgg5
 z5:=Tryz.sizeOf5
 v5:=Tryz.zeroValue5
 t9:=Tryz.underlying9
 a9:=Tryz.isAgg9
 z9:=Tryz.sizeOf9
 v9:=Tryz.zeroValue9
 t12:=Tryz.underlying12
 a12:=Tryz.isAgg12
 z12:=Tryz.sizeOf12
 v12:=Tryz.zeroValue12
 t46:=Tryz.underlying176
 a46:=Tryz.isAgg176
 z46:=Tryz.sizeOf176
 v46:=Tryz.zeroValue176
 t53:=Tryz.underlying241
 a53:=Tryz.isAgg241
 z53:=Tryz.sizeOf241
 v53:=Tryz.zeroValue241
 t119:=Tryz.underlying218
 a119:=Tryz.isAgg218
 z119:=Tryz.sizeOf218
 t138:=Tryz.underlying220
 a138:=Tryz.isAgg220
 z138:=Tryz.sizeOf220
 v138:=Tryz.zeroValue220
 t139:=Tryz.underlying221
 a139:=Tryz.isAgg221
 z139:=Tryz.sizeOf221
 v139:=Tryz.zeroValue221
 g3:=by kernel_rfl
 g4:=by kernel_rfl}
def Tryz.lays240_ren:Go.Shelf.Ren:=⟨fun|240=>78|276=>109|n=>n,fun|0=>0|4=>4|9=>9|20=>20|70=>79|72=>82|164=>146|37=>80|n=>n,fun|n=>n⟩
theorem Tryz.lays240:Go.Proofs.Lays.n240 prog Tryz.lays240_ren:={
 mixed:=by kernel_rfl
 f240:=Tryz.func78.trans (aFZ some qC)
 f276:=Tryz.func109.trans (aFZ some qC)
 t0:=Tryz.underlying0
 a0:=Tryz.isAgg0
 z0:=Tryz.sizeOf0
 v0:=Tryz.zeroValue0
 t4:=Tryz.underlying4
 a4:=Tryz.isAgg4
 z4:=Tryz.sizeOf4
 v4:=Tryz.zeroValue4
 t9:=Tryz.underlying9
 a9:=Tryz.isAgg9
 z9:=Tryz.sizeOf9
 v9:=Tryz.zeroValue9
 t20:=Tryz.underlying20
 a20:=Tryz.isAgg20
 z20:=Tryz.sizeOf20
 v20:=Tryz.zeroValue20
 t70:=Tryz.underlying79
 a70:=Tryz.isAgg79
 z70:=Tryz.sizeOf79
 v70:=Tryz.zeroValue79
 t72:=Tryz.underlying82
 a72:=Tryz.isAgg82
 z72:=Tryz.sizeOf82
 v72:=Tryz.zeroValue82
 t164:=Tryz.underlying146
 a164:=Tryz.isAgg146
 z164:=Tryz.sizeOf146
 v164:=Tryz.zeroValue146}
theorem Tryz.builderX72:Builder.X72 prog Tryz.lays240_ren:={
 sizeBuilder:=by kernel_rfl
 liesBuilder:=by kernel_rfl}
def Tryz.lays169_ren:Go.Shelf.Ren:=⟨fun|169=>53|n=>n,fun|70=>79|9=>9|0=>0|72=>82|37=>80|127=>115|3=>3|5=>5|n=>n,fun|n=>n⟩
theorem Tryz.lays169:Go.Proofs.Lays.n169 prog Tryz.lays169_ren:={
 mixed:=by kernel_rfl
 f169:=Tryz.func53.trans (aFZ some qC)
 t0:=Tryz.underlying0
 a0:=Tryz.isAgg0
 z0:=Tryz.sizeOf0
 v0:=Tryz.zeroValue0
 t3:=Tryz.underlying3
 a3:=Tryz.isAgg3
 z3:=Tryz.sizeOf3
 v3:=Tryz.zeroValue3
 t9:=Tryz.underlying9
 a9:=Tryz.isAgg9
 z9:=Tryz.sizeOf9
 v9:=Tryz.zeroValue9
 t37:=Tryz.underlying80
 a37:=Tryz.isAgg80
 z37:=Tryz.sizeOf80
 v37:=Tryz.zeroValue80
 t70:=Tryz.underlying79
 a70:=Tryz.isAgg79
 z70:=Tryz.sizeOf79
 v70:=Tryz.zeroValue79
 t72:=Tryz.underlying82
 a72:=Tryz.isAgg82
 z72:=Tryz.sizeOf82
 v72:=Tryz.zeroValue82
 t127:=Tryz.underlying115
 a127:=Tryz.isAgg115
 z127:=Tryz.sizeOf115
 v127:=Tryz.zeroValue115}
theorem Tryz.builderExtra:Builder.Extra prog Tryz.lays169_ren:={
 sizeBuilder:=by kernel_rfl
 liesBuilder:=by kernel_rfl
 t5:=Tryz.underlying5
 a5:=Tryz.isAgg5
 z5:=Tryz.sizeOf5
 v5:=Tryz.zeroValue5
 infoByte:=by kernel_rfl
 cellsByte:=by kernel_rfl
 sizeByte:=by kernel_rfl
 neB5:=by decide}
end Go.Proofs
namespace Go.Proofs.YtcpbaddnmpeipaaGreatDoor
open Vc Go.RowKit
open Tryz
theorem a6O {g:Gh}{w w':q8}(hH:sK g w (r5 0 [])) (hb:Below w.heap.size w w'):sK g w' (r5 0 []):=
 ⟨fun _ _ h=>(by cases h),fun _ _ _ _ _ _ _ h=>(by cases h),fun b o h=>aF9 (hH.sl b o h) hb.size,⟨JF hH.tab.1 hb.size fun b h=>hb.block b (aF9 h hH.tab.1.1),fun _ _ _ _ h=>(by cases h)⟩⟩
theorem I6 {P:Program}{f:FuncId}{C:List qK->List qJ->Option qT}(hen: ∀args w,(callFunc f args).run P w= .ok (.enter f args) w)
  (h: ∀(g:Gh) (w:q8) (args:List qK) (vals:pW) (L:List qJ) (r:qT),FX w->vG g w args vals->C args L=some r->(∀p∈r.side,p)->
   L=[]/\r.H=[]/\Calls P f vals.toArray w (fun e w'=> ∃v,e= .returned v/\Below w.heap.size w w'/\RV g w' r.ret v)):xF P f C:=by
 refine⟨hen,fun g w args vals L r hH ha hC hs=>?_⟩;obtain⟨rfl,hr,hc⟩:=h g w args vals L r hH.tab.1 ha hC hs;refine hc.mono fun e w' ⟨v,he,hb,hv⟩=>⟨v,g,he,⟨fun b o h=>⟨h,hb.cell (p:=⟨b,o,none⟩) (hH.sl b o h)⟩,by rw[hr];exact a6O hH hb,hv,⟨hb.os,hb.tape,hb.output,hb.size,fun b h _=>hb.block b h,fun b o h _=>⟨hb.cell (p:=⟨b,o,none⟩) h,hb.frozen (p:=⟨b,o,none⟩) h⟩,fun b o h=> .inl h,fun b s h=> .inl ((CC (hb.block b (CB h))).trans h)⟩,(fun i blk b o h=>by rw[hr] at h;cases h),(fun i t x ts h=>by cases h),(fun i t x ts u y us h=>by cases h),(fun _ _ _ h=>h),(fun _ _ _ _ h=>h)⟩⟩
theorem XV {P:Program}{f:FuncId}{vals:Array q9}{w:q8}{Q:Ending->Prop}(h:Calls P f vals w fun e w'=>Q e/\w'=w):Calls P f vals w fun e w'=>Q e/\Below w.heap.size w w':=
 h.mono fun e w' ⟨h1,h2⟩=>⟨h1,by rw[h2];exact Below.refl _ _⟩
def vW (s:pL) (c:Int):Int:=Lib.indexByte s (Int.toNat c).toUInt8
@[go_sem] def XW:List qK->List qJ->Option qT
 |[(.val .str O,none),(.val (.int .u8) Z,none)],[]=>some ⟨[],[(.val (.int .i64) (vW O Z),none)],[]⟩
 |_,_=>none
theorem Ri:xF prog 133 XW:=by
 refine I6 (fun _ _=>rfl) fun g w args vals L r hT ha hC hs=>?_;unfold XW at hC;split at hC
 .rename_i s c;cases hC;obtain⟨va,_,rfl,ra,vb,_,rfl,rb,hv⟩:=ha;obtain rfl:=wX ra.1;obtain rfl:=wD rb.1;cases hv;exact⟨rfl,rfl,(XV (Any.strings_IndexByte Tryz.lays137 ⟨List.toArray s⟩ c w)).mono fun e w' ⟨he,hb⟩=>⟨_,he,hb,wI _ _ _ _,trivial⟩⟩
 cases hC
@[go_sem] def XX:List qK->List qJ->Option qT
 |[(.val .str O,none),(.val .str Z,none)],[]=>some ⟨[(List.all Z fun b=>decide (b.toNat<128))=true/\List.length Z<4294967281],[(.val .str (Lib.trimLeftS O Z),none)],[]⟩
 |_,_=>none
theorem Rj:xF prog 80 XX:=by
 refine I6 (fun _ _=>rfl) fun g w args vals L r hT ha hC hs=>?_;unfold XX at hC;split at hC
 .rename_i s c;cases hC;obtain⟨h1,h2⟩:=hs _ aFT;obtain⟨va,_,rfl,ra,vb,_,rfl,rb,hv⟩:=ha;obtain rfl:=wX ra.1;obtain rfl:=wX rb.1;cases hv;exact⟨rfl,rfl,(Any.strings_TrimLeft_laid Tryz.lays161 qC ⟨List.toArray s⟩ ⟨List.toArray c⟩ w h2 (ascii_of_all h1)).mono fun e w' ⟨he,hb⟩=>⟨_,he,hb,CZ _ _ _,trivial⟩⟩
 cases hC
@[go_sem] def XY:List qK->List qJ->Option qT
 |[(.val .str O,none)],[]=>some ⟨[List.length O<=9223372036854775807],[(.val .bool (Lib.validD O),none)],[]⟩
 |_,_=>none
theorem Rk:xF prog 168 XY:=by
 refine I6 (fun _ _=>rfl) fun g w args vals L r hT ha hC hs=>?_;unfold XY at hC;split at hC
 .rename_i s;cases hC;have h1:=hs _ aFT;obtain⟨va,_,rfl,ra,hv⟩:=ha;obtain rfl:=wX ra.1;cases hv;exact⟨rfl,rfl,(Any.utf8_ValidString Tryz.lays196 ⟨List.toArray s⟩ w h1 hT.2.1).mono fun e w' ⟨he,hb⟩=>⟨_,he,hb,vU _ _ _,trivial⟩⟩
 cases hC
@[go_sem] def kr:List qK->List qJ->Option qT:=fun _ _=>none
def tS (l:pM):pM:=l.mergeSort fun x y=>decide (x<=y)
@[go_sem] def ku:(t:Ty)->List t.den->Option (List t.den)
 | .str,l=>some (tS l)
 |_,_=>none
def kv {g:Gh}{w:q8}: ∀{l:pM}{xs:pW},uD (Rd g w .str) 1 l xs->xs=l.map Go.Proofs.encStr
 |[],_,h=>h
 |_::_,_,⟨c1,c2,e,_,h2,h3⟩=>by rw[e,show c1=_ from h2,kv h3];rfl
def kw {g:Gh}{w:q8}: ∀(l:pM),uD (Rd g w .str) 1 l (l.map Go.Proofs.encStr)
 |[]=>rfl
 |x::l=>⟨[.string ⟨x.toArray⟩],_,rfl,rfl,rfl,kw l⟩
def Rl (s:pM) (cur:Array q9) (h:s.length<=cur.size):(Go.Sort.putCells Go.Proofs.encStr 0 s.toArray cur).toList.take s.length=s.map Go.Proofs.encStr:=by
 apply List.ext_getElem
 .simp [Go.Sort.putCells];omega
 intro i h1 h2;have hi:i<s.length:=by simpa using h2
 simp only[Go.Sort.putCells,List.getElem_take,Array.getElem_toList,Array.getElem_mapIdx,List.getElem_map];rw[aFz (by simp;exact hi)];simp [hi]
def Rm:xF prog 163 kr/\∀F,some ku=some F->X4 prog 163 F:=by
 refine⟨⟨fun _ _=>rfl,fun g w args vals L r _ _ hC _=>by cases hC⟩,fun F hF=>?_⟩;cases hF;intro g w e t l l' v n xs hT hown hF hl hn hf;cases t with
 |str=>
  have hf:tS l=l':=aFE hf;subst hf;subst hl;have hlen:(tS l).length=l.length:=by simp [tS]
  obtain⟨hx,⟨rfl,h0⟩ |⟨b,cap,cur,rfl,hb0,hbk,hnc,hcm,hcs,htk⟩⟩:=hown
  .obtain rfl:l=[]:=aGD.1 h0;refine(Any.slices_Sort_string_none Tryz.lays190 none 0 w).mono ?_;rintro en w' ⟨rfl,rfl⟩;exact⟨rfl,hlen,[],⟨rfl,.inl ⟨rfl,rfl⟩⟩,by simp [tS,uD],⟨rfl,rfl,rfl,aFW _,fun _ _ _=>rfl⟩⟩
  .have hxs:=kv hF;subst hxs;have hc1:(Ty.str).cells=1:=rfl;rw[hc1,aHj] at hcs htk;have hbl:b<w.heap.size:=by
    rcases aGN b w.heap.size with h|h
    .exact h
    rw[Array.getElem?_eq_none h] at hbk;cases hbk
   have hH:Go.Sort.Holds Go.Proofs.encStr w b 0 l.toArray:=by
    intro j hj;have hj':j<l.length:=by simpa using hj
    refine⟨?_,Lib.frozen_of_heap hbk _⟩;rw[Lib.cell_of_heap hbk,aF6];have h2:(cur.toList.take l.length)[j]? =(l.map Go.Proofs.encStr)[j]? :=by rw[htk]
    rw[aGw hj',aGF] at h2;rw[h2];simp [hj']
   refine(Any.slices_Sort_string Tryz.lays190 b 0 cap l w hH hbl hn).mono ?_;rintro en w' ⟨rfl,m,os,rfl⟩;have hsz:(tS l).length<=cur.size:=by rw[hlen,hcs];exact hnc
   have hnew:(Go.Sort.grow (Go.Sort.putRow Go.Proofs.encStr (Go.Sort.ahead w m) b 0 (tS l).toArray) os).heap[b]? =some (.cells (Go.Sort.putCells Go.Proofs.encStr 0 (tS l).toArray cur) e (0,0)):=by
    rw[Go.Sort.heap_grow_old _ _ (by simpa using hbl)];simp [Go.Sort.putRow,Go.Sort.mapBlock,aGG,hbk,Go.Sort.onCells]
   refine⟨rfl,hlen,(tS l).map Go.Proofs.encStr,⟨by simp [hlen,hc1],.inr ⟨b,cap,_,rfl,hb0,hnew,hnc,hcm,?_,?_⟩⟩,kw _,⟨rfl,rfl,rfl,by simp,fun k hk hne=>?_⟩⟩
   .rw[hc1,aHj];simpa[Go.Sort.putCells] using hcs
   .rw[hc1,aHj,<-hlen];exact Rl _ _ hsz
   .rw[Go.Sort.heap_grow_old _ _ (by simpa using hk)];have hkb:b≠k:=fun h=>hne (by rw[h];rfl);simp [Go.Sort.putRow,Go.Sort.mapBlock,aGG,hkb]
 |_=>cases hf
def GE (s c:pL):Int:=Lib.index s c
@[go_sem] def XZ:List qK->List qJ->Option qT
 |[(.val .ref (some (0,0)),none)],[.cells (.pair .mref (.pair (.list (.int .u8)) .unit)) ((some (0,0)),O) [(1,1)],.grow Z 1 aA]=>some ⟨[aA=List.length O.1],[],[.cells (.pair .mref (.pair (.list (.int .u8)) .unit)) ((some (0,0)),O) [(1,1)],.grow Z 1 aA]⟩
 |_,_=>none
def Rn {g:Gh}{w:q8}{L:List qJ}{e:qY}{w':q8}{u v:q9}{r:qT}(hE:rR g w (r5 0 L) e g w' u)
  (hH: ∀i,qO (r5 0 r.H) i=qO (r7 e.upd (r5 0 L)) i) (hin: ∀i,i∈qQ e.upd->i<L.length) (hlen:r.H.length=L.length)
  (hp: ∀i blk b o,r.H[i]? =some blk->sH g i blk b o->w.heap.size<=b\/z6 g (r5 0 L) b o)
  (hty: ∀(i:Nat) t x ts u y us,L[i]? =some (.cells t x ts)->r.H[i]? =some (.cells u y us)->u=t)
  (hret:RV g w' r.ret v):GA g w L r g w' v:=
 ⟨fun b o h=>⟨h,hE.le.cell b o h⟩,hE.heap.ext hH,hret,hE.fr.mono fun b o ⟨i,blk,_,h1,h2⟩=>⟨i,blk,h1,h2⟩,hp,fun _ _ _ _ _=>rfl,hty,fun _ _ _ h=>h,fun _ _ _ _ h=>h⟩
def a6P {P:Program}{ρ:Go.Shelf.Ren}(L:Lays.n240 P ρ) (X:Builder.X72 P ρ) {e:TypeId}(b:Nat) (w:q8) (h0:w.cell? ⟨b,0,none⟩=some (.pointer none)) (hsh:w.shape? b=some (e,2)) (hl:liesAt P P.depth e (2/P.cellsOf e) 0 (ρ.t 72) 1=true) (hfz:w.frozen? ⟨b,0,none⟩=false):
  Calls P (ρ.f 240) #[.pointer (some ⟨b,0,none⟩)] w fun en w'=>en= .returned (.tuple #[])/\w'=w.setCell ⟨b,0,none⟩ (.pointer (some ⟨b,0,none⟩)):=by
 obtain⟨j,hj,hjs⟩:=aFQ.1 X.sizeBuilder;have mixed:=L.mixed;have t72:=L.t72;have a72:=L.a72;have z72:=L.z72;have v72:=L.v72;have u72:=aFX L.t72;have t70:=L.t70;have a70:=L.a70;have z70:=L.z70;have v70:=L.v70;have u70:=aFX L.t70;have t9:=L.t9;have a9:=L.a9;have z9:=L.z9;have v9:=L.v9;have u9:=aFX L.t9;have t4:=L.t4;have a4:=L.a4;have z4:=L.z4;have v4:=L.v4;have u4:=aFX L.t4;have t164:=L.t164;have a164:=L.a164;have z164:=L.z164;have v164:=L.v164;have u164:=aFX L.t164
 go_enter L.f240,Body.n240_ntmps ρ
 go_wp2
 rw[Lib.run_to_unsafe w ⟨b,0,none⟩ L.t70 L.t164 hj (by rw[hjs];decide) hsh (Nat.zero_lt_succ 1)];simp only[Result.andThen];rw[Oper.upon_value]
 go_wp2
 rw[run_callFunc_extern L.f276 qC qC qC (e:=Extern.AbiNoEscape.same) qC];rw[Lib.run_noEscape];simp only[Result.andThen];rw[Oper.upon_value]
 go_wp2
 rw[Lib.run_from_unsafe w ⟨b,0,none⟩ L.t164 L.t70 hj hsh hl];simp only[Result.andThen];rw[Oper.upon_value]
 go_wp2
 go_end0
 exact⟨rfl,rfl⟩
def Ro:xF prog 78 XZ:=by
 refine⟨fun _ _=>rfl,fun g w args vals L r hH ha hC hs=>?_⟩;unfold XZ at hC;split at hC
 .rename_i O Z aA;cases hC;obtain⟨va,_,rfl,ra,hv⟩:=ha;cases hv;have hg0:qO (r5 0 [qJ.cells (.pair .mref (.pair (.list (.int .u8)) .unit)) ((some (0,0)),O) [(1,1)],.grow Z 1 aA]) 0=some (.cells (.pair .mref (.pair (.list (.int .u8)) .unit)) ((some (0,0)),O) [(1,1)]):=rfl;obtain⟨p,cs,hJ,hR,hra,hth,hns,htk⟩:=hH.blk 0 _ hg0;obtain⟨c1,c2,rfl,hR1,hR2⟩:=hR;obtain⟨p',hJ',⟨hp0,eb,heb,hk3⟩,hc1⟩:=hR1;rw[hJ] at hJ';obtain rfl:=aFE hJ';obtain⟨b,o,k⟩:=p;have ho:o=0:=by simpa using hp0
  subst ho;have hlies:liesAt prog Tryz.prog.depth eb (2/Tryz.prog.cellsOf eb) 0 82 1=true:=by
   unfold cr at heb;split at heb
   .rename_i h;subst h;kernel_rfl
   split at heb
   .rename_i h;subst h;kernel_rfl
   cases heb
  have hva:va= .pointer (some ⟨b,0,none⟩):=by
   obtain⟨q,hq,e⟩:=xW ra.1;rw[hJ] at hq;cases hq;exact e
  subst hva;have hsh:w.shape? b=some (eb,2):=hth.2 pQ _ hk3;rcases hc1 with rfl|rfl
  .have h0:w.cell? ⟨b,0,none⟩=some (.pointer none)/\w.frozen? ⟨b,0,none⟩=false:=⟨hra 0 _ rfl,(hth.1 0 pQ).2⟩;refine(a6P Tryz.lays240 Tryz.builderX72 b w h0.1 hsh hlies h0.2).mono ?_;rintro en w' ⟨rfl,rfl⟩;refine⟨_,g,rfl,?_⟩;have hE:=rR.store (side:=[]) (rds:=[]) hH (i:=0) (t:= .mref) (y:=some (0,0)) (off:=0) (k:=none) (p:=⟨b,0,k⟩) (cy:=[.pointer (some ⟨b,0,none⟩)]) (v:= .pointer (some ⟨b,0,none⟩)) hg0 hJ (z:=((some (0,0)),O)) qD ⟨_,hJ,⟨rfl,_,heb,hk3⟩,.inr rfl⟩ trivial (fun _ _ h=>by cases h) (fun _=>rfl);refine Rn hE.1 ?_ ?_ rfl ?_ ?_ ?_
   .intro i
    match i with
    |0=>rfl
    |1=>rfl
    |i+2=>rfl
   .intro i hi;simp [qQ] at hi;subst hi;exact Nat.zero_lt_succ _
   .intro i blk b o hi ho;exact .inr ⟨i,blk,by rw[X3];simpa using hi,ho⟩
   .intro i t x ts u y us h1 h2;rw[h1] at h2;cases h2;rfl
   exact⟨[],rfl,rfl⟩
  have h0:w.cell? ⟨b,0,none⟩=some (.pointer (some ⟨b,0,none⟩)):=hra 0 _ rfl;refine(Any.Builder_copyCheck_used Tryz.lays240 Tryz.builderX72 b w h0).mono ?_;rintro en w' ⟨rfl,rfl⟩;refine⟨_,g,rfl,⟨fun b o h=>⟨h,rfl⟩,hH,⟨[],rfl,rfl⟩,Fr.refl _ _ _,?_,fun _ _ _ _ _=>rfl,?_,fun _ _ _ h=>h,fun _ _ _ _ h=>h⟩⟩
  .intro i blk b o hi ho;exact .inr ⟨i,blk,by rw[X3];simpa using hi,ho⟩
  intro i t x ts u y us h1 h2;rw[h1] at h2;cases h2;rfl
 cases hC
def Rp {P:Program}(w:q8): ∀(l:pV) (a:Addr) (acc:ByteArray),(∀j x,l[j]? =some x->w.cell? (a.add j)=some (.int .u8 x))->
  (loadBytes a acc l.length).run P w= .ok ⟨acc.data++(tG l).toArray⟩ w
 |[],a,acc,_=>by simp [loadBytes,tG]
 |x::l,a,acc,h=>by
  have h0:w.cell? a=some (.int .u8 x):=by
   have:=h 0 x rfl;simpa[Addr.add] using this
  have ih:=Rp (P:=P) w l (a.add 1) (acc.push (UInt8.ofNat x.toNat)) (fun j y hy=>by
   have:=h (j+1) y (by simpa using hy);have e:(a.add 1).add j=a.add (j+1):=by
    unfold Addr.add;by_cases hj:j=0
    .subst hj;simp
    simp [hj];omega
   rw[e];exact this)
  have hx:x.toNat.toUInt8=UInt8.ofNat x.toNat:=rfl;simp only[aFF,loadBytes,aFM,run_load,h0,Result.andThen,hx];rw[ih];congr 1;apply ByteArray.ext;simp [ByteArray.push,tG]
def a6Q {P:Program}(w:q8) (pt it ty e:TypeId) (hp:P.underlying pt=some (.pointer e)) (hc:P.cellsOf e=1) (g cells:Nat) (hsh:w.shape? g=some (e,cells)) (l:pV) (h0:l≠[]) (hn:l.length<=cells) (h63:l.length<=9223372036854775807)
  (hcell: ∀j x,l[j]? =some x->w.cell? ((⟨g,0,none⟩:Addr).add j)=some (.int .u8 x)):
  (Builtin.unsafeString_ #[pt,it] ty #[.pointer (some ⟨g,0,none⟩),.int .i64 l.length]).run P w= .ok (.string ⟨(tG l).toArray⟩) (w.freeze ⟨g,0,none⟩ l.length):=by
 have hl:l.length≠0:=by simpa using h0
 have hlb:=Rp (P:=P) w l ⟨g,0,none⟩ .empty hcell;have hlies:=Lib.liesAt_bytes (P:=P) hc (cells/P.cellsOf e) l.length (by rw[hc];simpa using hn);have h63': ¬(9223372036854775807:Int)<(l.length:Int):=by omega
 have hdef:Builtin.unsafeString_ #[pt,it] ty #[.pointer (some ⟨g,0,none⟩),.int .i64 l.length]=
   (do
    let n<-asInt (.int .i64 l.length)
    if n<0 then runtimePanic (.error "unsafe.String: len out of range")
    if n>IntKind.i64.max then unsupported (.unsafePointer "String: a length above the largest int")
    if n=0 then pure (.string .empty)
    else if<-variablesAt ⟨g,0,none⟩ (<-elemOf pt) n.toNat then do
     let s<-loadBytes ⟨g,0,none⟩ .empty n.toNat
     freeze ⟨g,0,none⟩ n.toNat
     pure (.string s)
    else unsupported (.unsafePointer "String: not so many bytes at ptr")):=rfl
 rw[hdef];have hmax:IntKind.i64.max=9223372036854775807:=rfl;have hneg: ¬(l.length:Int)<0:=by omega
 simp [asInt,asIntOf,hmax,h63',hneg,hl,variablesAt,hsh,elemOf,aFX hp,hlies,hlb]
def kz {P:Program}{ρ:Go.Shelf.Ren}(L:Lays.n169 P ρ) (X:Builder.Extra P ρ) (b n cap:Nat) (a q:Option Addr) (s:ByteArray) (w w2:q8)
  (c1:w.drew.cell? ⟨b,1,none⟩=some (.slice a n cap)) (hSD:(Builtin.unsafeSliceData_ #[(ρ.t 37)] (ρ.t 127) #[.slice a n cap]).run P w.drew= .ok (.pointer q) w.drew)
  (hUS:(Builtin.unsafeString_ #[(ρ.t 127),(ρ.t 3)] (ρ.t 9) #[.pointer q,.int .i64 n]).run P w.drew= .ok (.string s) w2):
  Calls P (ρ.f 169) #[.pointer (some ⟨b,0,none⟩)] w fun e w'=>e= .returned (.string s)/\w'=w2:=by
 have mixed:=L.mixed;have t72:=L.t72;have a72:=L.a72;have z72:=L.z72;have v72:=L.v72;have u72:=aFX L.t72;have t70:=L.t70;have a70:=L.a70;have z70:=L.z70;have v70:=L.v70;have u70:=aFX L.t70;have t37:=L.t37;have a37:=L.a37;have z37:=L.z37;have v37:=L.v37;have u37:=aFX L.t37;have t127:=L.t127;have a127:=L.a127;have z127:=L.z127;have v127:=L.v127;have u127:=aFX L.t127;have t3:=L.t3;have a3:=L.a3;have z3:=L.z3;have v3:=L.v3;have u3:=aFX L.t3;have t9:=L.t9;have a9:=L.a9;have z9:=L.z9;have v9:=L.v9;have u9:=aFX L.t9;have t5:=X.t5;have a5:=X.a5;have z5:=X.z5;have v5:=X.v5;have u5:=aFX X.t5
 go_enter L.f169,Body.n169_ntmps ρ
 go_wp2
 go_region_o
 all_goals (go_wp2;go_ret;exact⟨rfl,rfl⟩)
def a6R {P:Program}{ρ:Go.Shelf.Ren}(L:Lays.n169 P ρ) (X:Builder.Extra P ρ) (b g:Nat) (cur:Array q9) (w:q8) (hlt:b<w.heap.size)
  (c1:w.drew.cell? ⟨b,1,none⟩=some (.slice (some ⟨g,0,none⟩) 0 0)) (hg:w.drew.heap[g]? =some (.cells cur (ρ.t 5) (0,0))):
  Calls P (ρ.f 169) #[.pointer (some ⟨b,0,none⟩)] w fun e w'=>e= .returned (.string ⟨#[]⟩)/\w'=w.drew.alloc (.view ⟨g,0,none⟩ (ρ.t 5)):=by
 have hUS:=Any.unsafeString_none L X;have hSD:(Builtin.unsafeSliceData_ #[(ρ.t 37)] (ρ.t 127) #[.slice (some ⟨g,0,none⟩) 0 0]).run P w.drew= .ok (.pointer (some ⟨w.drew.heap.size,0,none⟩)) (w.drew.alloc (.view ⟨g,0,none⟩ (ρ.t 5))):=
  Lib.run_unsafeSliceData_zero w.drew _ _ (ρ.t 5) L.t127 ⟨g,0,none⟩ 0 ((ρ.t 5),cur.size) (by simp [World.shape?,hg])
 have c2:(w.drew.alloc (.view ⟨g,0,none⟩ (ρ.t 5))).cell? ⟨b,1,none⟩=some (.slice (some ⟨g,0,none⟩) 0 0):=
  (aFY (a:=⟨b,1,none⟩) (Lib.alloc_old w.drew _ b hlt)).trans c1
 have c3:(w.alloc (.view ⟨g,0,none⟩ (ρ.t 5))).drew.cell? ⟨b,1,none⟩=some (.slice (some ⟨g,0,none⟩) 0 0):=c2;have c0:w.cell? ⟨b,1,none⟩=some (.slice (some ⟨g,0,none⟩) 0 0):=c1;have mixed:=L.mixed;have t72:=L.t72;have a72:=L.a72;have z72:=L.z72;have v72:=L.v72;have u72:=aFX L.t72;have t70:=L.t70;have a70:=L.a70;have z70:=L.z70;have v70:=L.v70;have u70:=aFX L.t70;have t37:=L.t37;have a37:=L.a37;have z37:=L.z37;have v37:=L.v37;have u37:=aFX L.t37;have t127:=L.t127;have a127:=L.a127;have z127:=L.z127;have v127:=L.v127;have u127:=aFX L.t127;have t3:=L.t3;have a3:=L.a3;have z3:=L.z3;have v3:=L.v3;have u3:=aFX L.t3;have t9:=L.t9;have a9:=L.a9;have z9:=L.z9;have v9:=L.v9;have u9:=aFX L.t9;have t5:=X.t5;have a5:=X.a5;have z5:=X.z5;have v5:=X.v5;have u5:=aFX X.t5
 go_enter L.f169,Body.n169_ntmps ρ
 go_wp2
 go_region_o
 all_goals (go_wp2;go_ret;exact⟨rfl,rfl⟩)
@[go_sem] def Y0:List qK->List qJ->Option qT
 |[(.val .ref (some (0,0)),none)],[.cells (.pair .mref (.pair (.list (.int .u8)) .unit)) ((some (0,0)),O) [(1,1)],.grow 5 1 Z]=>some ⟨[Z=List.length O.1],[(.val .str (tG O.1),none)],[.cells (.pair .mref (.pair (.list (.int .u8)) .unit)) ((some (0,0)),O) [],.dead]⟩
 |_,_=>none
def lb {g:Gh}{w w':q8}{m:pX}{b:(Ty.pair (.list (.int .u8)) .unit).den}{e n:Nat}{s:pL}{sd:List Prop}(hH:sK g w (r5 0 [qJ.cells (.pair .mref (.pair (.list (.int .u8)) .unit)) (m,b) [(1,1)],.grow e 1 n]))
  (hos:w'.os=w.os) (htape:w'.tape=w.tape) (hout:w'.output=w.output) (hsz:w.heap.size<=w'.heap.size)
  (hcell: ∀b o,b<w.heap.size->w'.cell? ⟨b,o,none⟩=w.cell? ⟨b,o,none⟩) (hshape: ∀b s,w.shape? b=some s->w'.shape? b=some s)
  (hblk: ∀b,b<w.heap.size->(∀o,¬sH g 1 (.grow e 1 n) b o)->w'.heap[b]? =w.heap[b]?):
  GA g w [qJ.cells (.pair .mref (.pair (.list (.int .u8)) .unit)) (m,b) [(1,1)],.grow e 1 n] ⟨sd,[(.val .str s,none)],[.cells (.pair .mref (.pair (.list (.int .u8)) .unit)) (m,b) [],.dead]⟩ g w' (.string ⟨s.toArray⟩):=by
 have hg0:qO (r5 0 [qJ.cells (.pair .mref (.pair (.list (.int .u8)) .unit)) (m,b) [(1,1)],.grow e 1 n]) 0=some (.cells (.pair .mref (.pair (.list (.int .u8)) .unit)) (m,b) [(1,1)]):=rfl;have hg1:qO (r5 0 [qJ.cells (.pair .mref (.pair (.list (.int .u8)) .unit)) (m,b) [(1,1)],.grow e 1 n]) 1=some (.grow e 1 n):=rfl;have hle:Le g w g w':=⟨fun _ _ h=>h,fun b o h=>hcell b o (hH.sl b o h),fun _ _ h=>h,fun _ _ _ h=>h⟩;have hno: ∀c o,sH g 0 (.cells (.pair .mref (.pair (.list (.int .u8)) .unit)) (m,b) [(1,1)]) c o->∀o',¬sH g 1 (.grow e 1 n) c o':=fun c o h o' h'=>by
  obtain⟨v,hv,hb⟩:=h';exact hH.dis 0 1 _ _ c o pQ hg0 hg1 h ⟨v,hv,hb⟩
 obtain⟨p,cs,hJ,hR,hra,hth,hns,htk⟩:=hH.blk 0 _ hg0;have hown0: ∀j,j<2->sH g 0 (.cells (.pair .mref (.pair (.list (.int .u8)) .unit)) (m,b) [(1,1)]) p.1 (p.2+j):=fun j hj=>⟨p,hJ,rfl,Nat.le_add_right _ _,Nat.add_lt_add_left hj _⟩;have hpl:p.1<w.heap.size:=MF (hH.blk 0 _ hg0) (hown0 0 pQ);have hpb:w'.heap[p.1]? =w.heap[p.1]? :=hblk p.1 hpl (hno p.1 _ (hown0 0 pQ));have hbk0:AT g w' 0 (.cells (.pair .mref (.pair (.list (.int .u8)) .unit)) (m,b) []):=
  ⟨p,cs,hJ,wT hle hR,fun j v hj=>(hcell _ _ hpl).trans (hra j v hj),⟨fun j hj=>by
   have h1:=hth.1 j hj;rw[hcell _ _ hpl];exact⟨h1.1,(aGn (a:=⟨p.1,p.2+j,none⟩) hpb).trans h1.2⟩,fun h s hs=>hshape _ _ (hth.2 h s hs)⟩,hns,fun _ _ h=>by cases h⟩
 refine⟨fun b o h=>⟨h,hcell b o (hH.sl b o h)⟩,?_,(show rS g w' (.val .str s,none) (.string ⟨s.toArray⟩) from⟨CZ _ _ _,trivial⟩),⟨hos,htape,hout,hsz,?_,?_,fun _ _ h=> .inl h,fun b s h=> .inl (hshape b s h)⟩,?_,fun _ _ _ _ _=>rfl,?_,fun _ _ _ h=>h,fun _ _ _ _ h=>h⟩
 .refine⟨fun i blk h=>?_,fun i j bi bj c o hij hi hj hoi hoj=>?_,fun b o h=>aF9 (hH.sl b o h) hsz,JF hH.tab.1 hsz (fun c hc=>hblk c (aF9 hc hH.tab.1.1) fun o ho=>absurd (hH.tab.2 1 _ c o hg1 ho) pP),fun i blk c o h ho=>?_⟩
  .match i,h with
   |0,h=>cases h;exact hbk0
   |1,h=>cases h;trivial
   |i+2,h=>simp [r5,qO] at h
  .match i,j,hi,hj with
   |0,0,_,_=>exact hij rfl
   |0,1,_,hj=>cases hj;exact hoj
   |1,_,hi,_=>cases hi;exact hoi
   |0,j+2,_,hj=>simp [r5,qO] at hj
   |i+2,_,hi,_=>simp [r5,qO] at hi
  match i,h with
  |0,h=>cases h;exact hH.tab.2 0 _ c o hg0 ho
  |1,h=>cases h;exact ho.elim
  |i+2,h=>simp [r5,qO] at h
 .intro c hc hn;exact hblk c hc fun o ho=>hn o ⟨1,_,hg1,ho⟩
 .intro c o hc hn;exact⟨hcell c o hc,aGn (a:=⟨c,o,none⟩) (hblk c hc fun o' ho=>hn ⟨1,_,hg1,by obtain⟨v,hv,hb⟩:=ho;exact⟨v,hv,hb⟩⟩)⟩
 .intro i blk c o hi ho
  match i,hi with
  |0,hi=>cases hi;exact .inr ⟨0,_,hg0,ho⟩
  |1,hi=>cases hi;exact ho.elim
  |i+2,hi=>simp at hi
 intro i t x ts u y us h1 h2
 match i,h1,h2 with
 |0,h1,h2=>cases h1;cases h2;rfl
 |1,h1,_=>cases h1
 |i+2,h1,_=>simp at h1
def a6S (w:q8) (a p:Addr) (n:Nat):(w.freeze a n).cell? p=w.cell? p:=by
 unfold World.freeze;split
 .rfl
 simp only[World.cell?,aGG];by_cases h:a.block=p.block
 .rw[aFz h];cases w.heap[p.block]? with
  |none=>rfl
  |some o=>cases o<;>rfl
 rw[aFA h]
def a6T (w:q8) (a:Addr) (n b:Nat):(w.freeze a n).shape? b=w.shape? b:=by
 unfold World.freeze;split
 .rfl
 simp only[World.shape?,aGG];by_cases h:a.block=b
 .rw[aFz h];cases w.heap[b]? with
  |none=>rfl
  |some o=>cases o<;>rfl
 rw[aFA h]
def a6U (w:q8) (a:Addr) (n b:Nat) (h:b≠a.block):(w.freeze a n).heap[b]? =w.heap[b]? :=by
 unfold World.freeze;split
 .rfl
 simp only[aGG];rw[aFA (Ne.symm h)]
def a6V (w:q8) (a:Addr) (n:Nat):(w.freeze a n).os=w.os/\(w.freeze a n).tape=w.tape/\(w.freeze a n).output=w.output/\(w.freeze a n).heap.size=w.heap.size:=by
 unfold World.freeze;split
 .exact⟨rfl,rfl,rfl,rfl⟩
 exact⟨rfl,rfl,rfl,by simp⟩
def Rq {g:Gh}{w:q8}{b:Nat}: ∀{l:pV}{o:Nat},yY (Rd g w (.int .u8)) w g.S 1 b o l->∀j x,l[j]? =some x->w.cell? ⟨b,o+j,none⟩=some (.int .u8 x)
 |[],_,_,_,_,h=>by cases h
 |y::l,o,⟨⟨cs,_,hra,_,hR⟩,hl⟩,j,x,h=>by
  match j,h with
  |0,h=>
   cases h;have hR:cs=[.int .u8 y]:=hR;subst hR;exact hra 0 _ rfl
  |j+1,h=>
   have:=Rq hl j x (by simpa using h);rw[show o+(j+1)=o+1+j by omega];exact this
def a6W {u:Ty}{m:pX}{bv:(Ty.pair (.list (.int .u8)) .unit).den}{l:List u.den}(hget:rE (.list u) (.pair .mref (.pair (.list (.int .u8)) .unit)) (m,bv) 1=some l):l.length=bv.1.length:=by
 have h2:rE (.list u) (.list (.int .u8)) bv.1 0=some l:=hget;simp only[rE] at h2;split at h2
 .rename_i h;injection h with h
  subst h;cases h2;rfl
 cases h2
def Rr:xF prog 53 Y0:=by
 refine⟨fun _ _=>rfl,fun g w args vals L r hH ha hC hs=>?_⟩;unfold Y0 at hC;split at hC
 .rename_i bv n;cases hC;obtain rfl:n=List.length bv.1:=hs _ pR;obtain⟨va,_,rfl,ra,hv⟩:=ha;cases hv;have hg0:qO (r5 0 [qJ.cells (.pair .mref (.pair (.list (.int .u8)) .unit)) ((some (0,0)),bv) [(1,1)],.grow 5 1 (List.length bv.1)]) 0=some (.cells (.pair .mref (.pair (.list (.int .u8)) .unit)) ((some (0,0)),bv) [(1,1)]):=rfl;have hg1:qO (r5 0 [qJ.cells (.pair .mref (.pair (.list (.int .u8)) .unit)) ((some (0,0)),bv) [(1,1)],.grow 5 1 (List.length bv.1)]) 1=some (.grow 5 1 (List.length bv.1)):=rfl;obtain⟨p,cs,hJ,hR,hra,hth,hns,htk⟩:=hH.blk 0 _ hg0;obtain⟨v',xs,hv',hown,hmax,hsl⟩:=hH.blk 1 _ hg1;obtain⟨c1,c2,rfl,hR1,hR2⟩:=hR;obtain⟨d1,d2,rfl,⟨a,cap,rfl,hcap,hl⟩,hd2⟩:=hR2;obtain⟨p',hJ',⟨hp0,_,_,_⟩,hc1⟩:=hR1;rw[hJ] at hJ';obtain rfl:=aFE hJ';obtain⟨b,o,k⟩:=p;have ho:o=0:=by simpa using hp0
  subst ho;have hlen1:c1.length=1:=by rcases hc1 with rfl|rfl<;>rfl
  obtain⟨q,hq,hva⟩:=xW ra.1;rw[hJ] at hq;cases hq;subst hva;have hcell1:w.cell? ⟨b,1,none⟩=some (.slice a bv.1.length cap):=hra 1 _ (by rw[aFJ pP,hlen1];rfl);obtain⟨u,l,v,hget,hcv,hcur⟩:=htk 1 1 pR;have hvv:v= .slice a bv.1.length cap:=by
   rw[aFJ pP,hlen1] at hcv;exact(aFE hcv).symm
  have hll:l.length=bv.1.length:=a6W hget;rw[hll,hv',hvv] at hcur;obtain rfl:=aFE hcur;have hbl:b<w.heap.size:=RO hcell1;have hdr: ∀(s:pL) (sd:List Prop),GA g w _ ⟨sd,[(.val .str s,none)],[.cells (.pair .mref (.pair (.list (.int .u8)) .unit)) ((some (0,0)),bv) [],.dead]⟩ g w.drew (.string ⟨s.toArray⟩):=fun s sd=>
   lb hH rfl rfl rfl (aFW _) (fun _ _ _=>rfl) (fun _ _ h=>h) (fun _ _ _=>rfl)
  obtain⟨hx,⟨hnil,h0⟩ |⟨gb,cap',cur,hsl',hb0,hbk,hnc,hcm,hcs,htake⟩⟩:=hown
  .have hb0:bv.1=[]:=aGD.1 h0;have hz:tG bv.1=[]:=by rw[hb0];rfl
   have hl0:List.length bv.1=0:=h0;injection hnil with e1 e2 e3
   subst e1;subst e3;refine(kz Tryz.lays169 Tryz.builderExtra b bv.1.length 0 none none .empty w w.drew hcell1 rfl (by rw[hl0];exact Any.unsafeString_none Tryz.lays169 Tryz.builderExtra w.drew none)).mono ?_;rintro e w' ⟨rfl,rfl⟩;exact⟨_,g,rfl,by rw[hz];exact hdr [] _⟩
  injection hsl' with e1 e2 e3
  subst e1;subst e3;have hsz:bv.1.length<=cur.size:=by omega
  by_cases hb0:bv.1=[]
  .have hz:tG bv.1=[]:=by rw[hb0];rfl
   have hl0:List.length bv.1=0:=by rw[hb0];rfl
   by_cases hc0:cap=0
   .subst hc0;rw[hl0] at hcell1;refine(a6R Tryz.lays169 Tryz.builderExtra b gb cur w hbl hcell1 hbk).mono ?_;rintro e w' ⟨rfl,rfl⟩;have hold: ∀c,c<w.heap.size->(w.drew.alloc (.view ⟨gb,0,none⟩ 5)).heap[c]? =w.heap[c]? :=fun c hc=>Lib.alloc_old w.drew _ c hc;refine⟨_,g,rfl,?_⟩;rw[hz];exact lb hH rfl rfl rfl pR (fun c o hc=>aFY (a:=⟨c,o,none⟩) (hold c hc)) (fun c s h=>(CC (hold c (CB h))).trans h) (fun c hc _=>hold c hc)
   refine(kz Tryz.lays169 Tryz.builderExtra b bv.1.length cap (some ⟨gb,0,none⟩) (some ⟨gb,0,none⟩) .empty w w.drew hcell1 (Lib.run_unsafeSliceData_row _ _ _ _ _ _ hc0) (by rw[hl0];exact Any.unsafeString_none Tryz.lays169 Tryz.builderExtra w.drew _)).mono ?_;rintro e w' ⟨rfl,rfl⟩;exact⟨_,g,rfl,by rw[hz];exact hdr [] _⟩
  have hcap0:cap≠0:=fun h=>hb0 (aGD.1 pP);have hcb: ∀j x,bv.1[j]? =some x->w.cell? ⟨gb,j,none⟩=some (.int .u8 x):=by
   rcases hl with hl|⟨b',o',ha',hl⟩
   .exact absurd hl hb0
   cases ha';intro j x hj;have:=Rq hl j x hj;rwa [aF6] at this
  have hbk':w.drew.heap[gb]? =some (.cells cur 5 (0,0)):=hbk;have hshp:w.drew.shape? gb=some (5,cur.size):=by simp only[World.shape?,hbk']
  refine(kz Tryz.lays169 Tryz.builderExtra b bv.1.length cap (some ⟨gb,0,none⟩) (some ⟨gb,0,none⟩) ⟨(tG bv.1).toArray⟩ w (w.drew.freeze ⟨gb,0,none⟩ bv.1.length) hcell1 (Lib.run_unsafeSliceData_row _ _ _ _ _ _ hcap0)
   (a6Q w.drew _ _ _ 5 (Tryz.lays169).t127 (Tryz.builderExtra).cellsByte gb cur.size hshp bv.1 hb0 hsz (by unfold maxLen at hcm;omega) (fun j x h=>by rw[aGP,aF6];exact hcb j x h))).mono ?_
  rintro e w' ⟨rfl,rfl⟩;refine⟨_,g,rfl,?_⟩;have hblk: ∀c,(∀o,¬sH g 1 (.grow 5 1 (List.length bv.1)) c o)->(w.drew.freeze ⟨gb,0,none⟩ bv.1.length).heap[c]? =w.heap[c]? :=fun c hc=>a6U w.drew _ _ c fun e=>hc 0 ⟨_,hv',by rw[e];rfl⟩;have hr:=a6V w.drew ⟨gb,0,none⟩ bv.1.length;refine lb hH hr.1 hr.2.1 hr.2.2.1 (aG9 hr.2.2.2.symm) (fun c o _=>a6S w.drew _ _ _) (fun c s h=>(a6T w.drew _ _ c).trans h) (fun c _ hc=>hblk c hc)
 cases hC
end Go.Proofs.YtcpbaddnmpeipaaGreatDoor
namespace Go.Proofs.YtcpbaddnmpeipaaGreatDoor.Vc
open Go.RowKit
@[go_sem] def lc (np:Nat):DV->Bool
 | .any=>true
 | .nilS=>true
 | .val .ref (some (i,_))=>decide (i<np)
 | .val .ref none=>true
 | .val t _=>t.pure
 |_=>false
@[go_sem] def Y1 (np:Nat):qK->Bool
 |(d,none)=>lc np d
 |(.val (.list t) _,some k)=>t.pure&&decide (k<np)
 |_=>false
@[go_sem] def K4 (np:Nat):List (Nat×qK)->Bool
 |[]=>true
 |(_,s)::r=>Y1 np s&&K4 np r
theorem Rs {np:Nat}: ∀{env:List (Nat×qK)},K4 np env=true->∀t,Y1 np (lk env t)=true
 |[],_,t=>rfl
 |(k,s)::r,h,t=>by
  simp only[K4,aFL] at h;unfold lk;split
  .exact h.1
  exact Rs h.2 t
theorem a6X {np:Nat}{g g':Gh}{w:q8}(K:g'.S=g.S) (O: ∀i,i<np->g'.J i=g.J i) (R: ∀i n,i<np->g'.cur i n=g.cur i n) {s:qK}{v:q9}(hp:Y1 np s=true) (h:rS g w s v):rS g' w s v:=by
 have I: ∀{t:Ty}{x:t.den},t.pure=true->tD g w t x v->tD g' w t x v:=fun G M=>by
  rcases M with⟨j,cs,z,h3⟩ |⟨j,z⟩
  .exact .inl ⟨j,cs,z,wC K G h3⟩
  exact .inr ⟨j,wC K G z⟩
 have Q: ∀d,lc np d=true->zJ g w d v->zJ g' w d v:=by
  intro d D hr;unfold lc at D;split at D
  .trivial
  .exact hr
  .rename_i i o;have hi:=aGc D;rcases hr with⟨j,_⟩ |⟨j,z⟩
   .cases j
   refine .inr ⟨j,?_⟩;obtain⟨p,F,E⟩:=z;exact⟨p,(O i hi).trans F,E⟩
  .rcases hr with⟨j,_⟩ |⟨j,z⟩
   .cases j
   exact .inr ⟨j,z⟩
  .exact I D hr
  cases D
 obtain⟨d,k⟩:=s;cases k with
 |none=>exact⟨Q d hp h.1,trivial⟩
 |some k=>
  unfold Y1 at hp;split at hp
  .rename_i heq;cases heq
  .rename_i t x k' heq;cases heq;simp only[aFL,aFI] at hp;exact⟨I (t:= .list t) hp.1 h.1,(R k _ hp.2).trans h.2⟩
  cases hp
theorem a6Y {np:Nat}{g g':Gh}{w w':q8}{env:List (Nat×qK)}{tmps:Array q9}(h:BC g w env tmps) (hp:K4 np env=true) (D: ∀b o,g.S b o->g'.S b o) (z: ∀b o,g.S b o->w'.cell? ⟨b,o,none⟩=w.cell? ⟨b,o,none⟩)
  (E: ∀i p,i<np->g.J i=some p->g'.J i=some p) (F: ∀i n v,i<np->g.cur i n=some v->g'.cur i n=some v):BC g' w' env tmps:=fun t=>by
 have le:Le g w ⟨g'.S,fun i=>if i<np then g'.J i else g.J i,fun i n=>if i<np then g'.cur i n else g.cur i n⟩ w':=by
  refine⟨D,z,fun i p hi=>?_,fun i n v hi=>?_⟩
  .show (if i<np then _ else _)=_;split
   .rename_i j;exact E i p j hi
   exact hi
  show (if i<np then _ else _)=_;split
  .rename_i j;exact F i n v j hi
  exact hi
 exact a6X (np:=np) (g:=⟨g'.S,fun i=>if i<np then g'.J i else g.J i,fun i n=>if i<np then g'.cur i n else g.cur i n⟩) (g':=g') rfl (fun i hi=>(aFz hi).symm) (fun i n hi=>by show g'.cur i n=(if i<np then g'.cur i n else g.cur i n);rw[aFz hi]) (Rs hp t) (DX le (h t))
theorem tJ.inner {A A':Nat->Nat->Prop}{L L':List qJ}{g0 g g':Gh}{w0 w w':q8}{H H':sF}(h:tJ A L g0 w0 g w H) (k:tJ A' L' g w g' w' H') (I: ∀b o,A' b o->w.heap.size<=b\/z6 g H b o) (hl:L.length<=L'.length)
  (G: ∀i,i<L.length->∀b,L'[i]? =some b->qO H i=some b):tJ A L g0 w0 g' w' H':=by
 have own: ∀b o,A' b o->w0.heap.size<=b\/A b o:=fun b o x=>by
  rcases I b o x with j|⟨i,blk,j,z⟩
  .exact .inl (aGA h.fr.size j)
  exact h.perm i blk b o j z
 refine⟨fun b o x=>?_,h.fr.trans k.fr own,fun i blk b o j z=>?_,fun i p hi hp=>k.J i p pP (h.J i p hi hp),fun i hi=>k.live i pP,fun i u y us hi F=>?_,fun i n v hi E=>k.cur i n v pP (h.cur i n v hi E)⟩
 .obtain⟨j,z⟩:=h.shut b o x;obtain⟨k1,k2⟩:=k.shut b o j;exact⟨k1,k2.trans z⟩
 .rcases k.perm i blk b o j z with h3|h3
  .exact .inl (aGA h.fr.size h3)
  exact own b o h3
 obtain⟨x,ts,D⟩:=k.ty i u y us pP F;exact h.ty i u x ts hi (G i hi _ D)
theorem tJ.start {g:Gh}{w:q8}{H:sF}{L':List qJ}(hH:sK g w H) (G: ∀i b,L'[i]? =some b->qO H i=some b/\b≠.dead) (E: ∀i,i<L'.length->∀b,qO H i=some b->L'[i]? =some b):tJ (z6 g H) L' g w g w H:=by
 refine⟨fun b o h=>⟨h,rfl⟩,Fr.refl _ _ _,fun i blk b o D ho=> .inr ⟨i,blk,D,ho⟩,fun _ _ _ h=>h,fun i hi=>?_,fun i u y us hi D=>⟨y,us,E i hi _ D⟩,fun _ _ _ _ h=>h⟩;obtain⟨I,F⟩:=G i L'[i] pR;have j:=hH.blk i _ I;generalize L'[i]=blk at j F;cases blk with
 |cells t x ts=>obtain⟨p,cs,hp,_⟩:=j;exact .inl ⟨p,hp⟩
 |grow e c n=>obtain⟨v,xs,z,_⟩:=j;exact .inr ⟨n,v,z⟩
 |row e t l n=>obtain⟨_,v,xs,z,_⟩:=j;exact .inr ⟨n,v,z⟩
 |map k v l=>obtain⟨p,es,cl,hp,_⟩:=j;exact .inl ⟨p,hp⟩
 |iter s n=>obtain⟨p,hp,_⟩:=j;exact .inl ⟨p,hp⟩
 |dead=>exact absurd rfl F
@[go_sem] def K5 (env:List (Nat×qK)):pZ->List qK->List (Nat×qK)
 |p::ps,s::ss=>K5 (uH (some p) s env) ps ss
 |_,_=>env
theorem Rt {g:Gh}{w:q8}: ∀{ps:pZ}{ss:List qK}{vs:pW}{env:List (Nat×qK)}{tmps:Array q9},BC g w env tmps->(∀p∈ps,p<tmps.size)->vG g w ss vs->ps.length=ss.length->
  BC g w (K5 env ps ss) ((ps.zip vs).foldl (fun t (q:Nat×q9)=>t.setIfInBounds q.1 q.2) tmps)/\((ps.zip vs).foldl (fun t (q:Nat×q9)=>t.setIfInBounds q.1 q.2) tmps).size=tmps.size
 |[],[],vs,env,tmps,h,_,ha,_=>by
  have:vs=[]:=ha;subst this;exact⟨h,rfl⟩
 |p::ps,s::ss,vs,env,tmps,h,hp,ha,hl=>by
  obtain⟨v,vs',rfl,h1,h2⟩:=ha;have hput:BC g w (uH (some p) s env) (tmps.setIfInBounds p v):=jp (a:={tmps:=tmps,defers:=[]}) (o:=⟨some p,.move (.tmp 0),0, "",#[],none⟩) (N:=tmps.size) h (Le.refl g w) h1 rfl (by simpa[JP] using hp p pR)
  have:=Rt (tmps:=tmps.setIfInBounds p v) hput (fun q hq=>by simpa using hp q (aFK _ hq)) h2 (by simpa using hl);exact⟨this.1,by rw[List.zip_cons_cons,List.foldl_cons];rw[this.2];simp⟩
def Y2 (P:Program) (gf:Nat) (u:Ty) {ι:Type}(pre:u.den->Prop) (items:u.den->List ι) (vl:ι->pW):Prop:=
 (∀args w,(callFunc gf args).run P w= .ok (.enter gf args) w)/\
 ∀(l b o:Nat) (x:u.den) (cs:pW) (g:Gh) (W0:q8) (J:Nat->q8->Prop) (Jx:q8->Prop),pre x->Rd g W0 u x cs->
  (∀i W,J i W->W.rangeAt b o cs/\∀b o,g.S b o->W.cell? ⟨b,o,none⟩=W0.cell? ⟨b,o,none⟩)->
  (∀i W W',J i W->Below W.heap.size W W'->J i W')->(∀W W',Jx W->Below W.heap.size W W'->Jx W')->(∀i W,J i W->FX W)->
  (∀i it V W,(items x)[i]? =some it->J i V->Below V.heap.size V W->YieldAt Fence.wide 0 P l (vl it).toArray W fun e W'=>((e= .returned (.bool true)/\J (i+1) W')\/(e= .returned (.bool false)/\Jx W'))/\
   ∀D,V.heap.size<=D->D<W.heap.size->W'.heap[D]? =W.heap[D]?)->
  ∀W,J 0 W->Calls P gf #[.func (.yield l) #[] #[],.pointer (some ⟨b,o,none⟩)] W fun e W'=>(∃v,e= .returned v)/\(J (items x).length W'\/Jx W')
def Y3 (once:Bool) (P:Program) (gf:Nat) (u:Ty) {ι:Type}(pre:u.den->Prop) (items:u.den->List ι) (vl:ι->pW):Prop:=
 (∀args w,(callFunc gf args).run P w= .ok (.enter gf args) w)/\
 ∀(l b o:Nat) (x:u.den) (cs:pW) (g:Gh) (W0:q8) (J:Nat->q8->Prop) (Jx:q8->Prop),pre x->Rd g W0 u x cs->
  (∀i W,J i W->(once=false->W.rangeAt b o cs)/\∀b o,g.S b o->W.cell? ⟨b,o,none⟩=W0.cell? ⟨b,o,none⟩)->
  (∀i W W',J i W->Below W.heap.size W W'->J i W')->(∀W W',Jx W->Below W.heap.size W W'->Jx W')->(∀i W,J i W->FX W)->
  (∀i it V W,(items x)[i]? =some it->J i V->Below V.heap.size V W->YieldAt Fence.wide 0 P l (vl it).toArray W fun e W'=>((e= .returned (.bool true)/\J (i+1) W')\/(e= .returned (.bool false)/\Jx W'))/\
   ∀D,V.heap.size<=D->D<W.heap.size->W'.heap[D]? =W.heap[D]?)->
  ∀W,J 0 W->W.rangeAt b o cs->Calls P gf #[.func (.yield l) #[] #[],.pointer (some ⟨b,o,none⟩)] W fun e W'=>(∃v,e= .returned v)/\(J (items x).length W'\/Jx W')
theorem Y2.zero {P:Program}{gf:Nat}{u:Ty}{ι:Type}{pre:u.den->Prop}{items:u.den->List ι}{vl:ι->pW}(h:Y2 P gf u pre items vl):Y3 false P gf u pre items vl:=
 ⟨h.1,fun l b o x cs g W0 J Jx I G h3 h4 F E D W z _=>h.2 l b o x cs g W0 J Jx I G (fun i W j=>⟨(h3 i W j).1 rfl,(h3 i W j).2⟩) h4 F E D W z⟩
theorem a6Z {F:Fence}{m:Nat}{P:Program}{l:Nat}{args:Array q9}{W:q8}{R R':Ending->q8->Prop}(h:YieldAt F m P l args W R) (hr: ∀e W',R e W'->R' e W'):YieldAt F m P l args W R':=by
 obtain⟨fn,tmps,assign,body,z,j⟩:=h;exact⟨fn,tmps,assign,body,z,j.mono hr⟩
def AX {ι σ ρ:Type}(f:ι->σ->Option (σ⊕ρ)):List ι->σ->Option (σ⊕ρ)
 |[],x=>some (.inl x)
 |it::r,x=>(f it x).bind fun w=>match w with
  | .inl x'=>AX f r x'
  | .inr y=>some (.inr y)
theorem a60 {ι σ ρ:Type}{f:ι->σ->Option (σ⊕ρ)}{it:ι}{r:List ι}{x:σ}{y:σ⊕ρ}(h:AX f (it::r) x=some y): ∃w,f it x=some w/\(∀x',w= .inl x'->AX f r x'=some y)/\(∀z,w= .inr z->y= .inr z):=by
 unfold AX at h;cases hf:f it x with
 |none=>rw[hf] at h;cases h
 |some w=>
  rw[hf] at h;refine⟨w,rfl,fun x' e=>?_,fun z e=>?_⟩
  .subst e;exact h
  subst e;exact(aFE h).symm
def qA (st:St):Ex->St->Prop
 | .normal,s=> ∃k:wG,s.keep k=st
 |_,_=>False
def qF {σ ρ:Type}(encH:σ->List qJ) (E0:List (Nat×qK)) (N np np':Nat) (w:σ⊕ρ) (Q:Ex->St->Prop):Ex->St->Prop
 | .normal,s=> ∃(k:wG) (x:σ),w= .inl x/\s.keep k=⟨[],r5 0 (encH x),rD (encH x),N,np'⟩
 |e,s=> ∃(k:wG) (B:List qJ),s.keep k=⟨[],r5 0 B,rD B,N,np'⟩/\(∃z,w= .inr z)/\Q e ⟨E0,r5 0 B,rD B,N,np⟩
section
variable {B:Nat}{A:Nat->Nat->Prop}{L:List qJ}{g0 g:Gh}{w0 w:q8}{b0 o0 n0:Nat}{cs:pW}{E0:List (Nat×qK)}{tmps:Array q9}{ds:List Deferred}
structure EX (B:Nat) (A:Nat->Nat->Prop) (L:List qJ) (g0:Gh) (w0:q8) (g:Gh) (w:q8) (b0 o0 n0:Nat) (cs:pW) (E0:List (Nat×qK)) (tmps:Array q9) (ds:List Deferred) (g1:Gh) (W:q8) (H:sF):Prop where
 env:BC g1 W E0 tmps
 heap:sK g1 W H
 good:tJ A L g0 w0 g1 W H
 sld: ∀b o,g.S b o->g1.S b o/\W.cell? ⟨b,o,none⟩=w.cell? ⟨b,o,none⟩
 rng:W.rangeAt b0 o0 cs
 len:cs.length=n0
 lt:0<n0->b0<W.heap.size
 out: ∀o,o0<=o->o<o0+n0->¬z6 g1 H b0 o
 defs:AK B W ds
theorem EX.turn {g1:Gh}{W W2:q8}{H:sF}(h:EX B A L g0 w0 g w b0 o0 n0 cs E0 tmps ds g1 W H) (t:vC w0.heap.size W W2) {ds':List Deferred}(D:AK B W2 ds'):EX B A L g0 w0 g w b0 o0 n0 cs E0 tmps ds' g1 W2 H:=by
 refine⟨fun x=>DX (t.le h.heap.sl) (h.env x),t.heapOk h.heap,h.good.turn h.heap.sl t,fun b o x=>⟨(h.sld b o x).1,(t.cell (h.heap.sl b o (h.sld b o x).1) o).1.trans (h.sld b o x).2⟩,fun j v z=>?_,h.len,fun x=>aF9 (h.lt x) t.size,h.out,D⟩;have E:j<cs.length:=(aFP.1 z).1;have:=h.len;exact(t.cell (h.lt pP) _).1.trans (h.rng j v z)
theorem EX.inner {g1 g2:Gh}{W W2:q8}{H H2:sF}{L':List qJ}{np':Nat}(h:EX B A L g0 w0 g w b0 o0 n0 cs E0 tmps ds g1 W H) (k:tJ (z6 g1 H) L' g1 W g2 W2 H2) (hH:sK g2 W2 H2) (F:K4 np' E0=true) (I:np'=L'.length) (hl:L.length<=L'.length)
  (O: ∀i,i<L.length->∀b,L'[i]? =some b->qO H i=some b):EX B A L g0 w0 g w b0 o0 n0 cs E0 tmps ds g2 W2 H2:=by
 subst I;refine⟨a6Y h.env F (fun b o x=>(k.shut b o x).1) (fun b o x=>(k.shut b o x).2) (fun i p hi x=>k.J i p hi x) (fun i n v hi x=>k.cur i n v hi x),hH,h.good.inner k (fun b o x=> .inr x) hl O,fun b o x=>?_,fun j v K=>?_,h.len,fun x=>aF9 (h.lt x) k.fr.size,fun o z E ⟨i,blk,h3,h4⟩=>?_,h.defs.same fun D G=>?_⟩
 .obtain⟨z,E⟩:=h.sld b o x;exact⟨(k.shut b o z).1,(k.shut b o z).2.trans E⟩
 .have Q:j<cs.length:=(aFP.1 K).1;have:=h.len;exact(k.fr.cell _ _ (h.lt pP) (h.out _ pP pP)).1.trans (h.rng j v K)
 .rcases k.perm i blk _ _ h3 h4 with M|M
  .have:=h.lt pP;omega
  exact h.out o z E M
 rw[k.fr.blk D (aF1.1 G).1 (fun o ⟨i,blk,z,E⟩=>XG (h.heap.blk i blk z) E G rfl)];exact G
theorem Ru {g1 g2:Gh}{W W2:q8}{H H2:sF}{L':List qJ}(hH:sK g1 W H) (k:tJ (z6 g1 H) L' g1 W g2 W2 H2) {D:Nat}{ob:Obj}(h:W.heap[D]? =some ob) (hm:I0 ob=true):W2.heap[D]? =some ob:=by
 rw[k.fr.blk D (aF1.1 h).1 (fun o ⟨i,blk,z,j⟩=>XG (hH.blk i blk z) j h hm)];exact h
end
theorem vC.put {B:Nat}{W:q8}{l:Nat}{o o':Obj}(h:W.heap[l]? =some o) (E:B<=l) (D:NG<=l) (hm:I0 o=true) (j:I0 o'=true):vC B W (W.putObj l o'):=by
 have z:=(aF1.1 h).1;refine⟨rfl,rfl,rfl,by simp [World.putObj],fun b hb=>?_⟩;by_cases e:b=l
 .subst e;exact .inr ⟨E,D,_,_,h,World.putObj_heap_same z,hm,j⟩
 exact .inl (World.putObj_heap_other e)
theorem vC.new (B:Nat) (W:q8) (o:Obj):vC B W (W.alloc o):=by
 refine⟨rfl,rfl,rfl,by simp,fun b hb=> .inl ?_⟩;exact aF5 W o b hb
theorem Rv {e:Ex}{x:Exit}(h:GC x=some e):(x= .normal/\e= .normal)\/(x= .ret/\e= .ret)\/∃id,x= .exit id/\e= .exit id:=by
 cases x<;>simp only[GC,aFy] at h
 .exact .inl ⟨rfl,h.symm⟩
 .exact .inr (.inr ⟨_,rfl,h.symm⟩)
 .cases h
 .exact .inr (.inl ⟨rfl,h.symm⟩)
 .cases h
 cases h
def a61:Ex->Option Code
 | .normal=>none
 | .ret=>some .ret
 | .exit id=>some (.exit id)
theorem Rw {once:Bool}{P:Program}{gf:Nat}{u:Ty}{ι:Type}{pre:u.den->Prop}{items:u.den->List ι}{vl:ι->pW}(k7:Y3 once P gf u pre items vl) {sl:ι->List qK}(ky: ∀it g w,vG g w (sl it) (vl it))
  {fo:Operand}{ps:Array Tmp}{assign body:Code}{s:St}{Q:Ex->St->Prop}{c:Nat}{k0:pY}(hf:u7 s.env fo=(.val .clo (some (gf,[(c,0)])),k0)) {xc:u.den}{toks:pU}(hc:qO s.H c=some (.cells u xc toks)) (qn:pre xc)
  {σ ρ:Type}{f:ι->σ->Option (σ⊕ρ)}{x0:σ}{y:σ⊕ρ}(hy:AX f (items xc) x0=some y)
  (E0:List (Nat×qK)) (E1:ι->List (Nat×qK)) (encH:σ->List qJ) (encA:ι->σ->List qJ) (np':Nat) (k:wG) (hk:xE s.np k.ids=true) (h0:s.keep k=⟨E0,r5 0 (encH x0),rD (encH x0),s.N,s.np⟩)
  (kt:k.ids.all (fun q=>decide (q.2≠c))=true\/c<s.np/\(∀g w cs g2 w2 cs2,Rd g w u xc cs->Rd g2 w2 u xc cs2->cs=cs2)/\(∃toksK,∀x,qO (r5 0 (encH x)) c=some (.cells u xc toksK))\/c<s.np/\once=true) (hL:K4 np' E0=true) (hG:s.np<=np') (ht: ∀x,np'<=rD (encH x)) (ko: ∀x,((encH x).take np').all (fun b=>match b with| .dead=>false|_=>true)=true)
  (hA: ∀it x,(encA it x).take np'=(encH x).take np') (kk: ∀it x,np'<=rD (encA it x))
  (k4: ∀it,ps.toList.length=(sl it).length) (v3:(ps.toList.all fun p=>decide (p<s.N))=true)
  (hJ: ∀it x w,f it x=some w->(∀z,w= .inr z->y= .inr z)->Ev true P assign ⟨K5 E0 ps.toList (sl it),r5 0 (encH x),rD (encH x),s.N,np'⟩ (qA ⟨E1 it,r5 0 (encA it x),rD (encA it x),s.N,np'⟩)/\
   Ev true P body ⟨E1 it,r5 0 (encA it x),rD (encA it x),s.N,np'⟩ (qF encH E0 s.N s.np np' w Q))
  (kn: ∀x,y= .inl x->Q .normal ⟨E0,r5 0 (encH x),rD (encH x),s.N,s.np⟩):Ev false P (.rangeFunc fo ps assign body) s Q:=by
 intro ro v2 A L g0 w0 g a w B hB hr hg hn;have hN:ro=none:=by cases ro<;>first|rfl|cases v2
 subst hN;have k8:=AW hr.env fo;rw[hf] at k8;obtain⟨p,hW,z0⟩: ∃p,g.J c=some p/\a.eval fo= .func (.func gf) #[] #[.pointer (some ⟨p.1,p.2,none⟩)]:=by
  rcases k8.1 with⟨E,_⟩ |⟨_,vs,⟨p,vs',h4,O,h6⟩,h3⟩
  .cases E
  rw[show vs'=[] from h6] at O;subst O;simp only[aGm,and_true] at h3;exact⟨p,h4,h3⟩
 obtain⟨p',cs,k5,h9,kF,v0,y1,y0⟩:=hr.heap.blk c _ hc;rw[hW] at k5;obtain rfl:=aFE k5;obtain⟨K,U,y2,_⟩:=jo hr hg hn k hk;have q0:c<s.np->(uJ g s.np k.ids).J c=some p:=fun ha=>by
  show (if c<s.np then g.J c else _)=_;rw[aFz ha];exact hW
 obtain⟨b0,o0,n0,cI,inv0,ql⟩: ∃b0 o0 n0 cI,EX B A L g0 w0 g w b0 o0 n0 cI E0 a.tmps a.defers (uJ g s.np k.ids) w (r5 0 (encH x0))/\∀{g1:Gh}{W:q8}{x:σ}{dd:List Deferred},EX B A L g0 w0 g w b0 o0 n0 cI E0 a.tmps dd g1 W (r5 0 (encH x))->(c<s.np->g1.J c=some p)->once=false->W.rangeAt p.1 p.2 cs:=by
  rcases kt with z2|⟨ha,hu,toksK,z3⟩ |⟨ha,v4⟩
  .have hM: ∀o,p.2<=o->o<p.2+u.cells->¬z6 (uJ g s.np k.ids) (s.keep k).H p.1 o:=by
    rintro o E F ⟨i,blk,h3,h4⟩;have k9:qO (RH s k (xE s.np k.ids)).H i=some blk:=h3;rw[hk] at k9;obtain⟨o',O,rfl⟩:=K0 k9;obtain⟨c1,h6,h7⟩:=(MQ hk O fun c1 z4=>hr.heap.blk o' c1 z4).2 _ _ h4;exact hr.heap.dis o' c c1 _ p.1 o (aGc (aGt.1 z2 _ O)) h6 hc h7 ⟨p,hW,rfl,E,F⟩
   rw[h0] at K U hM;exact⟨p.1,p.2,u.cells,cs,⟨K.env,K.heap,U,fun b o h=>⟨h,rfl⟩,kF,sZ h9,fun qs=>by
    obtain⟨v,hv⟩:=aFB.1 (v0.1 0 qs).1;exact RO hv,hM,hr.def_⟩,fun h _ _=>h.rng⟩
  .rw[h0] at K U;refine⟨0,0,0,[],⟨K.env,K.heap,U,fun b o h=>⟨h,rfl⟩,fun j v h=>by simp at h,rfl,fun h=>absurd h pP,fun o E F=>by omega,K.def_⟩,fun h F _=>?_⟩;obtain⟨p2,cs2,h3,h4,O,_⟩:=h.heap.blk c _ (z3 _);rw[F ha] at h3;obtain rfl:=aFE h3;rw[hu _ _ _ _ _ _ h9 h4];exact O
  rw[h0] at K U;exact⟨0,0,0,[],⟨K.env,K.heap,U,fun b o h=>⟨h,rfl⟩,fun j v h=>by simp at h,rfl,fun h=>absurd h pP,fun o E F=>by omega,K.def_⟩,fun _ _ h=>by rw[v4] at h;cases h⟩
 rw[h0] at K U;have z9:NG<=w.heap.size:=hr.heap.tab.1.1;have y4:w0.heap.size<=w.heap.size:=hg.fr.size;refine wpIn_rangeFunc fun fn _=>?_;obtain⟨rec,G⟩: ∃rec:LoopState->Option Code->Loop,rec=fun st pe=>{state:=st,pending:=pe,fn,tmps:=a.tmps,params:=ps,assign,body,defers:=w.heap.size}:=⟨_,rfl⟩;obtain⟨W1,hh⟩: ∃W1,(w.alloc (.deferred (some []))).alloc (.loop (rec .ready none))=W1:=⟨_,rfl⟩;have yt:W1.heap[w.heap.size+1]? =some (.loop (rec .ready none)):=by
  rw[<-hh];have:=World.alloc_heap_new (w.alloc (.deferred (some []))) (.loop (rec .ready none));rwa [World.size_alloc] at this
 have yy:W1.heap[w.heap.size]? =some (.deferred (some [])):=by
  rw[<-hh];exact(aF5 _ _ _ pR).trans (World.alloc_heap_new w _)
 have t1:vC w0.heap.size w W1:=by rw[<-hh];exact(vC.new _ _ _).trans (vC.new _ _ _)
 obtain⟨ds,h8⟩: ∃ds:List Deferred,{target:= .collected w.heap.size,args:= #[]}::a.defers=ds:=⟨_,rfl⟩;have z1:AK B W1 ds:=by
  rw[<-h8];refine⟨List.nodup_cons.2 ⟨fun hm=>?_,hr.def_.1⟩,fun d hd=>?_⟩
  .obtain⟨D,E,_,_,h4⟩:=hr.def_.2 _ hm;have O:w.heap.size=D:=by injection E with E;injection E
   have:=(aF1.1 h4).1;omega
  rcases aFN.1 hd with rfl|hd
  .exact⟨_,rfl,pP,z9,yy⟩
  obtain⟨D,E,F,h3,h4⟩:=hr.def_.2 _ hd;have hX:=(aF1.1 h4).1;refine⟨D,E,F,h3,?_⟩;rw[<-hh];exact(aF5 _ _ D pS).trans ((aF5 _ _ D hX).trans h4)
 let l:=w.heap.size+1
 let J:Nat->q8->Prop:=fun i W=> ∃g1 x,AX f ((items xc).drop i) x=some y/\EX B A L g0 w0 g w b0 o0 n0 cI E0 a.tmps ds g1 W (r5 0 (encH x))/\
  (∀j,rD (encH x)<=j->g1.J j=none/\∀n,g1.cur j n=none)/\W.heap[l]? =some (.loop (rec .ready none))/\(c<s.np->g1.J c=some p)
 let Jx:q8->Prop:=fun W=> ∃g1 Bl e cd z,a61 e=some cd/\y= .inr z/\Q e ⟨E0,r5 0 Bl,rD Bl,s.N,s.np⟩/\EX B A L g0 w0 g w b0 o0 n0 cI E0 a.tmps ds g1 W (r5 0 Bl)/\
  (∀j,rD Bl<=j->g1.J j=none/\∀n,g1.cur j n=none)/\s.np<=rD Bl/\W.heap[l]? =some (.loop (rec .done (some cd)))
 have tbel: ∀{W W':q8},Below W.heap.size W W'->vC w0.heap.size W W':=fun hb=>⟨hb.os,hb.tape,hb.output,hb.size,fun b h=> .inl (hb.block b h)⟩;have Z: ∀{W W':q8}{D:Nat}{ob:Obj},Below W.heap.size W W'->W.heap[D]? =some ob->W'.heap[D]? =some ob:=fun hb h=>(hb.block _ (aF1.1 h).1).trans h;have yL: ∀i W W',J i W->Below W.heap.size W W'->J i W':=fun i W W' ⟨g1,x,E,F,h3,h4,O⟩ hb=>⟨g1,x,E,F.turn (tbel hb) (F.defs.same fun _ h=>Z hb h),h3,Z hb h4,O⟩;have vv: ∀W W',Jx W->Below W.heap.size W W'->Jx W':=fun W W' ⟨g1,Bl,e,cd,z,E,F,h3,h4,O,h6,h7⟩ hb=>⟨g1,Bl,e,cd,z,E,F,h3,h4.turn (tbel hb) (h4.defs.same fun _ h=>Z hb h),O,h6,Z hb h7⟩;have hF: ∀i it V W,(items xc)[i]? =some it->J i V->Below V.heap.size V W->YieldAt Fence.wide 0 P l (vl it).toArray W fun e W'=>((e= .returned (.bool true)/\J (i+1) W')\/(e= .returned (.bool false)/\Jx W'))/\
   ∀D,V.heap.size<=D->D<W.heap.size->W'.heap[D]? =W.heap[D]? :=by
  rintro i it V W hi ⟨g1,x,hE,invV,nb,k6,zz⟩ hC;have inv:=invV.turn (tbel hC) (invV.defs.same fun _ h=>Z hC h);have hl:=Z hC k6;have y3:l<V.heap.size:=(aF1.1 k6).1;have hQ: ∀D,V.heap.size<=D->∀o,¬z6 g1 (r5 0 (encH x)) D o:=fun D hD o ⟨i,blk,E,F⟩=>by
   have:=MF (invV.heap.blk i blk E) F;omega
  have v9:i<(items xc).length:=(aFP.1 hi).1;have kl:(items xc).drop i=it::(items xc).drop (i+1):=by
   rw[aGb v9];congr 1;exact(aFP.1 hi).2
  rw[kl] at hE;obtain⟨wv,hw,vr,hx⟩:=a60 hE;obtain⟨evA,evB⟩:=hJ it x wv hw hx;have vy:(vl it).toArray.size=ps.size:=by
   rw[aGy,(XQ (ky it g1 W)).1,<-k4 it,aGv]
  have kx:=run_yield (P:=P) (args:=(vl it).toArray) hl (by rw[G];exact vy);rw[G] at kx;refine⟨fn,_,assign,body,kx,roundIn_of_wpIn trivial ?_⟩;have hz:(ps.zip (vl it).toArray).foldl (fun tmps (t,v)=>tmps.setIfInBounds t v) a.tmps=(ps.toList.zip (vl it)).foldl (fun t (q:Nat×q9)=>t.setIfInBounds q.1 q.2) a.tmps:=by
   rw[<-aHE,Array.toList_zip]
  rw[hz];obtain⟨vt,v1⟩:=Rt inv.env (fun q hq=>by rw[hr.size];exact aGc (aGt.1 v3 q hq)) (ky it g1 W) (k4 it);have I:((encH x).take np').length=np':=by
   rw[aGh];have:=ht x;rw[XR] at this;omega
  have X: ∀i b,((encH x).take np')[i]? =some b->qO (r5 0 (encH x)) i=some b:=fun i b h=>by
   rw[xY];exact(aGw (by have:=(aFP.1 h).1;omega)).symm.trans h
  have Y: ∀i b,((encH x).take np')[i]? =some b->qO (r5 0 (encH x)) i=some b/\b≠.dead:=fun i b h=>⟨X i b h,fun e=>by
   have:=aGt.1 (ko x) b (List.mem_of_getElem? h);subst e;cases this⟩
  have hV: ∀i,i<((encH x).take np').length->∀b,qO (r5 0 (encH x)) i=some b->((encH x).take np')[i]? =some b:=fun i hi b h=>by
   rw[xY] at h;exact(aGw pP).trans h
  have gs:=tJ.start inv.heap Y hV;have rA:vB W.heap.size g1 W ⟨K5 E0 ps.toList (sl it),r5 0 (encH x),rD (encH x),s.N,np'⟩ {tmps:=(ps.toList.zip (vl it)).foldl (fun t (q:Nat×q9)=>t.setIfInBounds q.1 q.2) a.tmps,defers:=[]}:=⟨vt,inv.heap,v1.trans hr.size,nb,Oq _ _,ht x⟩;have hR:L.length<=((encH x).take np').length:=by rw[I,<-hn];exact hG
  refine aHl (evA (some l) rfl _ _ g1 W g1 _ W _ (aFW _) rA gs I.symm) fun e a1 wa hp=>?_;obtain⟨e',g2,s2,e1,e2,e3,e4,e5⟩:=hp;rcases Rv e1 with⟨rfl,rfl⟩ |⟨rfl,rfl⟩ |⟨id,rfl,rfl⟩
  .obtain⟨kA,hY⟩:=e2;obtain⟨g3,k1,k2,k3,_⟩:=K1 e3 e4 e5 kA;rw[hY] at k1 k2;have inva:=inv.inner k2 k1.heap hL I.symm hR (fun i hi b h=>X i b h);have hs:=Ru inv.heap k2 hl rfl;refine⟨_,run_beginRound hs (by rw[G]),?_⟩;obtain⟨Wb,he⟩: ∃Wb,wa.putObj l (.loop {rec .ready none with state:= .busy})=Wb:=⟨_,rfl⟩
   have tb:vC w0.heap.size wa Wb:=by rw[<-he];exact vC.put hs (by show w0.heap.size<=w.heap.size+1;omega) (by show NG<=w.heap.size+1;omega) rfl rfl
   have hX:=(aF1.1 hs).1;have other: ∀{W:q8}{o o':Obj}{D:Nat},W.heap[l]? =some (.loop (rec .ready none))\/W.heap[l]? =some (.loop {rec .ready none with state:= .busy})->W.heap[D]? =some (.deferred (some []))->(W.putObj l o').heap[D]? =some (.deferred (some [])):=by
    intro W o o' D E F;rw[World.putObj_heap_other (fun e=>by subst e;rcases E with E|E<;>(rw[E] at F;cases F))]
    exact F
   have invb:=inva.turn tb (inva.defs.same fun D hD=>by rw[<-he];exact other (o:= .loop (rec .ready none)) (.inl hs) hD);have v5:Wb.heap[l]? =some (.loop {rec .ready none with state:= .busy}):=by rw[<-he];exact World.putObj_heap_same hX
   have hY: ∀D,V.heap.size<=D->D<W.heap.size->Wb.heap[D]? =W.heap[D]? :=fun D E F=>by
    rw[<-he,World.putObj_heap_other pP];exact k2.fr.blk D F (hQ D E)
   rw[he];have kd: ∀i,i<np'->qO (r5 0 (encA it x)) i=qO (r5 0 (encH x)) i:=fun i hi=>by
    rw[xY,xY,<-aGw hi,hA it x,aGw hi]
   have vb: ∀i b,((encH x).take np')[i]? =some b->i<np':=fun i b h=>by
    have:=(aFP.1 h).1;omega
   have gsb:=tJ.start invb.heap (fun i b h=>by rw[kd i (vb i b h)];exact Y i b h) (fun i hi b h=>hV i hi b (by rw[<-kd i pP];exact h));have rB:vB W.heap.size g3 Wb ⟨E1 it,r5 0 (encA it x),rD (encA it x),s.N,np'⟩ a1:=⟨fun t=>DX (tb.le k1.heap.sl) (k1.env t),invb.heap,k1.size,k1.nb,k1.def_.same fun D hD=>by rw[<-he];exact other (o:= .loop (rec .ready none)) (.inl hs) hD,kk it x⟩;have z5:W.heap.size<=Wb.heap.size:=aGA k2.fr.size tb.size;refine aHl (evB (some l) rfl _ _ g3 Wb g3 a1 Wb _ z5 rB gsb I.symm) fun e a2 wc hp=>?_;obtain⟨e',g4,s4,e1,e2,e3,e4,e5⟩:=hp;have fin: ∀(kB:wG) (Bl:List qJ),s4.keep kB=⟨[],r5 0 Bl,rD Bl,s.N,np'⟩->∀jump:Option Code,∃g5,EX B A L g0 w0 g w b0 o0 n0 cI E0 a.tmps ds g5 (wc.putObj l (.loop (rec (if jump.isNone then .ready else .done) jump))) (r5 0 Bl)/\
     (∀j,rD Bl<=j->g5.J j=none/\∀n,g5.cur j n=none)/\np'<=rD Bl/\(wc.putObj l (.loop (rec (if jump.isNone then .ready else .done) jump))).heap[l]? =some (.loop (rec (if jump.isNone then .ready else .done) jump))/\
     (Instr.endRound l jump).run P wc= .ok (.bool jump.isNone) (wc.putObj l (.loop (rec (if jump.isNone then .ready else .done) jump)))/\(c<s.np->g5.J c=some p)/\
     ∀D,V.heap.size<=D->D<W.heap.size->(wc.putObj l (.loop (rec (if jump.isNone then .ready else .done) jump))).heap[D]? =W.heap[D]? :=by
    intro kB Bl R jump;obtain⟨g5,j1,j2,j3,_⟩:=K1 e3 e4 e5 kB;rw[R] at j1 j2;have invc:=invb.inner j2 j1.heap hL I.symm hR (fun i hi b h=>by rw[kd i pP];exact X i b h);have hI:=Ru invb.heap j2 v5 rfl;have va:=(aF1.1 hI).1;have tc:vC w0.heap.size wc (wc.putObj l (.loop (rec (if jump.isNone then .ready else .done) jump))):=vC.put hI (by show w0.heap.size<=w.heap.size+1;omega) (by show NG<=w.heap.size+1;omega) rfl rfl;refine⟨g5,invc.turn tc (invc.defs.same fun D hD=>other (o:= .loop (rec .ready none)) (.inr hI) hD),j1.nb,j1.np,World.putObj_heap_same va,?_,fun ha=>j2.J c p pP (k2.J c p pP (zz ha)),fun D E F=>?_⟩
    .have:=run_endRound (P:=P) jump hI;rw[this,G]
    rw[World.putObj_heap_other pP,j2.fr.blk D pP (fun o ⟨i,blk,h3,h4⟩=>by
     rcases k2.perm i blk D o h3 h4 with O|O
     .omega
     exact hQ D E o O),hY D E F]
   rcases Rv e1 with⟨rfl,rfl⟩ |⟨rfl,rfl⟩ |⟨id,rfl,rfl⟩
   .obtain⟨kB,x',rfl,R⟩:=e2;obtain⟨g5,q1,q2,q3,q4,q5,q6,q7⟩:=fin kB _ R none;exact⟨_,_,q5,.inl ⟨rfl,g5,x',vr x' rfl,q1,q2,q4,q6⟩,q7⟩
   .obtain⟨kB,Bl,R,⟨z,rfl⟩,hq⟩:=e2;obtain⟨g5,q1,q2,q3,q4,q5,q6,q7⟩:=fin kB _ R (some .ret);exact⟨_,_,q5,.inr ⟨rfl,g5,Bl,.ret,.ret,z,rfl,hx z rfl,hq,q1,q2,aGA hG q3,q4⟩,q7⟩
   obtain⟨kB,Bl,R,⟨z,rfl⟩,hq⟩:=e2;obtain⟨g5,q1,q2,q3,q4,q5,q6,q7⟩:=fin kB _ R (some (.exit id));exact⟨_,_,q5,.inr ⟨rfl,g5,Bl,.exit id,.exit id,z,rfl,hx z rfl,hq,q1,q2,aGA hG q3,q4⟩,q7⟩
  .exact e2.elim
  exact e2.elim
 refine⟨l,[{target:= .collected w.heap.size,args:= #[]}],W1,{target:= .fn (.func gf) #[.pointer (some ⟨p.1,p.2,none⟩)],args:= #[.func (.yield l) #[] #[]]},W1,gf,#[.func (.yield l) #[] #[]]++ #[.pointer (some ⟨p.1,p.2,none⟩)],W1,?_,?_,fun _ _=>trivial,?_,fun h=>(by cases h),?_⟩
 .rw[<-hh,G];exact run_enterLoop_outer _ _ _ _ _
 .simp only[resolve,z0];simp [go_sem]
 .simp [invoke,go_sem,k7.1]
 have inv1:=inv0.turn t1 z1;have qm:W1.rangeAt p.1 p.2 cs:=fun j v hj=>by
  have E:=kF j v hj;have F:p.1<w.heap.size:=RO E;rw[<-E,<-hh];exact aFY (a:=⟨p.1,p.2+j,none⟩) ((aF5 _ _ p.1 pS).trans (aF5 _ _ p.1 F))
 refine(Pb (ro:=none) (n:=0-1) (k7.2 l p.1 p.2 xc cs g w J Jx qn h9 (fun i W ⟨g1,x,_,F,_,_,O⟩=>⟨ql F O,fun b o hb=>(F.sld b o hb).2⟩) yL vv (fun i W ⟨g1,x,_,F,_⟩=>F.heap.tab.1) hF W1 ⟨_,x0,hy,inv1,K.nb,yt,q0⟩ qm)).mono ?_;have hS: ∀{W:q8}{r:Loop},W.heap[l]? =some (.loop r)->∀{ds0:List Deferred},AK B W ds0->AK B (W.putObj l (.loop {r with state:= .exhausted})) ds0:=by
  intro W r E ds0 F;refine F.same fun D hD=>?_;rw[World.putObj_heap_other (fun e=>by subst e;rw[E] at hD;cases hD)];exact hD
 rintro e W2 ⟨⟨v,rfl⟩,(⟨g1,x,E,F,h3,h4,_⟩ |⟨g1,Bl,e,cd,z,E,F,h3,h4,O,h6,h7⟩)⟩
 .rw[aGs] at E;have vx:y= .inl x:=(aFE E).symm;have M:=F.turn (vC.put (o':= .loop {rec .ready none with state:= .exhausted}) h4 (by show w0.heap.size<=w.heap.size+1;omega) (by show NG<=w.heap.size+1;omega) rfl rfl) (hS h4 F.defs)
  refine⟨none,W2.putObj l (.loop {rec .ready none with state:= .exhausted}),by have:=run_endLoop (P:=P) h4 (by rw[G];simp);rw[G] at this|-;exact this,?_⟩
  refine⟨.normal,g1,_,rfl,kn x vx,⟨M.env,M.heap,hr.size,h3,?_,aGA hG (ht x)⟩,M.good,hn⟩;have:=M.defs;rw[<-h8] at this;exact this
 have M:=h4.turn (vC.put (o':= .loop {rec .done (some cd) with state:= .exhausted}) h7 (by show w0.heap.size<=w.heap.size+1;omega) (by show NG<=w.heap.size+1;omega) rfl rfl) (hS h7 h4.defs)
 refine⟨some cd,W2.putObj l (.loop {rec .done (some cd) with state:= .exhausted}),by have:=run_endLoop (P:=P) h7 (by rw[G];simp);rw[G] at this|-;exact this,?_⟩
 have hU:=M.defs;rw[<-h8] at hU;have hK:vB B g1 (W2.putObj l (.loop {rec .done (some cd) with state:= .exhausted})) ⟨E0,r5 0 Bl,rD Bl,s.N,s.np⟩ {a with defers:=[{target:= .collected w.heap.size,args:= #[]}]++a.defers}:=⟨M.env,M.heap,hr.size,O,hU,h6⟩
 cases e with
 |normal=>cases E
 |ret=>
  obtain rfl:=aFE E;exact wpIn_ret ⟨.ret,g1,_,rfl,h3,hK,M.good,hn⟩
 |exit id=>
  obtain rfl:=aFE E;exact wpIn_exit ⟨.exit id,g1,_,rfl,h3,hK,M.good,hn⟩
theorem a62 {P:Program}{gf:Nat}{u:Ty}{ι:Type}{pre:u.den->Prop}{items:u.den->List ι}{vl:ι->pW}(R:Y2 P gf u pre items vl) {sl:ι->List qK}(I: ∀it g w,vG g w (sl it) (vl it))
  {fo:Operand}{ps:Array Tmp}{assign body:Code}{s:St}{Q:Ex->St->Prop}{c:Nat}{k0:pY}(hf:u7 s.env fo=(.val .clo (some (gf,[(c,0)])),k0)) {xc:u.den}{toks:pU}(Y:qO s.H c=some (.cells u xc toks)) (F:pre xc)
  {σ ρ:Type}{f:ι->σ->Option (σ⊕ρ)}{x0:σ}{y:σ⊕ρ}(V:AX f (items xc) x0=some y)
  (E0:List (Nat×qK)) (E1:ι->List (Nat×qK)) (encH:σ->List qJ) (np':Nat) (k:wG) (X:xE s.np k.ids=true) (h0:s.keep k=⟨E0,r5 0 (encH x0),rD (encH x0),s.N,s.np⟩)
  (U:k.ids.all (fun q=>decide (q.2≠c))=true) (G:K4 np' E0=true) (O:s.np<=np') (j: ∀x,np'<=rD (encH x)) (E: ∀x,((encH x).take np').all (fun b=>match b with| .dead=>false|_=>true)=true)
  (K: ∀it,ps.toList.length=(sl it).length) (M:(ps.toList.all fun p=>decide (p<s.N))=true)
  (h: ∀it x w,f it x=some w->(∀z,w= .inr z->y= .inr z)->Ev true P assign ⟨K5 E0 ps.toList (sl it),r5 0 (encH x),rD (encH x),s.N,np'⟩ (qA ⟨E1 it,r5 0 (encH x),rD (encH x),s.N,np'⟩)/\
   Ev true P body ⟨E1 it,r5 0 (encH x),rD (encH x),s.N,np'⟩ (qF encH E0 s.N s.np np' w Q))
  (D: ∀x,y= .inl x->Q .normal ⟨E0,r5 0 (encH x),rD (encH x),s.N,s.np⟩):Ev false P (.rangeFunc fo ps assign body) s Q:=
 Rw R.zero I hf Y F V E0 E1 encH (fun _=>encH) np' k X h0 (.inl U) G O j E (fun _ _=>rfl) (fun _=>j) K M h D
theorem a63 {P:Program}{gf:Nat}{u:Ty}{ι:Type}{pre:u.den->Prop}{items:u.den->List ι}{vl:ι->pW}(U:Y3 true P gf u pre items vl) {sl:ι->List qK}(K: ∀it g w,vG g w (sl it) (vl it))
  {fo:Operand}{ps:Array Tmp}{assign body:Code}{s:St}{Q:Ex->St->Prop}{c:Nat}{k0:pY}(hf:u7 s.env fo=(.val .clo (some (gf,[(c,0)])),k0)) {xc:u.den}{toks:pU}(Z:qO s.H c=some (.cells u xc toks)) (F:pre xc)
  {σ ρ:Type}{f:ι->σ->Option (σ⊕ρ)}{x0:σ}{y:σ⊕ρ}(X:AX f (items xc) x0=some y)
  (E0:List (Nat×qK)) (E1:ι->List (Nat×qK)) (encH:σ->List qJ) (encA:ι->σ->List qJ) (np':Nat) (k:wG) (Y:xE s.np k.ids=true) (h0:s.keep k=⟨E0,r5 0 (encH x0),rD (encH x0),s.N,s.np⟩)
  (V:c<s.np) (G:K4 np' E0=true) (R:s.np<=np') (I: ∀x,np'<=rD (encH x)) (E: ∀x,((encH x).take np').all (fun b=>match b with| .dead=>false|_=>true)=true)
  (hA: ∀it x,(encA it x).take np'=(encH x).take np') (j: ∀it x,np'<=rD (encA it x))
  (M: ∀it,ps.toList.length=(sl it).length) (O:(ps.toList.all fun p=>decide (p<s.N))=true)
  (h: ∀it x w,f it x=some w->(∀z,w= .inr z->y= .inr z)->Ev true P assign ⟨K5 E0 ps.toList (sl it),r5 0 (encH x),rD (encH x),s.N,np'⟩ (qA ⟨E1 it,r5 0 (encA it x),rD (encA it x),s.N,np'⟩)/\
   Ev true P body ⟨E1 it,r5 0 (encA it x),rD (encA it x),s.N,np'⟩ (qF encH E0 s.N s.np np' w Q))
  (D: ∀x,y= .inl x->Q .normal ⟨E0,r5 0 (encH x),rD (encH x),s.N,s.np⟩):Ev false P (.rangeFunc fo ps assign body) s Q:=
 Rw U K hf Z F X E0 E1 encH encA np' k Y h0 (.inr (.inr ⟨V,rfl⟩)) G R I E hA j M O h D
section
variable {σ ρ:Type}{encH:σ->List qJ}{E0:List (Nat×qK)}{N np np':Nat}{w:σ⊕ρ}{Q:Ex->St->Prop}{st s:St}
theorem Rx (k:wG) (h:s.keep k=st):qA st .normal s:=⟨k,h⟩
theorem Ry (k:wG) (x:σ) (hw:w= .inl x) (h:s.keep k=⟨[],r5 0 (encH x),rD (encH x),N,np'⟩):qF encH E0 N np np' w Q .normal s:=⟨k,x,hw,h⟩
end
end Go.Proofs.YtcpbaddnmpeipaaGreatDoor.Vc
namespace Go.Proofs.YtcpbaddnmpeipaaGreatDoor
open Go.RowKit Go.Shelf Vc
open Tryz
section
attribute [local go_sem] Oper.semAt_some
def D1 (d:(Ty.pair .str (.pair (.list .str) (.pair .str .unit))).den):List (Int×pL):=
 (0,d.1)::((List.range d.2.1.length).map fun j:Nat=>((j:Int)+1,d.2.1.getD j []))++[((d.2.1.length:Int)+1,d.2.2.1)]
def SA (it:Int×pL):pW:=[.int .i64 it.1,.string ⟨it.2.toArray⟩]
@[go_sem] def Rz (it:Int×pL):List qK:=[(.val (.int .i64) it.1,none),(.val .str it.2,none)]
theorem a64 (it:Int×pL) (g:Gh) (w:q8):vG g w (Rz it) (SA it):=⟨_,_,rfl,⟨wI _ _ _ _,trivial⟩,_,_,rfl,⟨CZ _ _ _,trivial⟩,rfl⟩
theorem a65 (d:(Ty.pair .str (.pair (.list .str) (.pair .str .unit))).den):(D1 d).length=d.2.1.length+2:=by simp [D1]
theorem a67 (d:(Ty.pair .str (.pair (.list .str) (.pair .str .unit))).den):(D1 d)[0]? =some (0,d.1):=by simp [D1]
theorem a68 (d:(Ty.pair .str (.pair (.list .str) (.pair .str .unit))).den) {j:Nat}(h:j<d.2.1.length):(D1 d)[j+1]? =some ((j:Int)+1,d.2.1.getD j []):=by
 simp [D1,aFU,h]
theorem a69 (d:(Ty.pair .str (.pair (.list .str) (.pair .str .unit))).den):(D1 d)[d.2.1.length+1]? =some ((d.2.1.length:Int)+1,d.2.2.1):=by
 simp [D1]
theorem a7a:Y2 prog 77 (.pair .str (.pair (.list .str) (.pair .str .unit))) (fun d=>d.2.1.length<=4611686018427387904) D1 SA:=by
 refine⟨fun _ _=>rfl,?_⟩;intro l b o d cs g W0 J Jx hpre hR hrd hJd hJxd hJt hY W h0;replace hY:=fun i it W h1 h2=>a6Z (hY i it W W h1 h2 (Below.refl _ _)) (R':=fun e W'=>(e= .returned (.bool true)/\J (i+1) W')\/(e= .returned (.bool false)/\Jx W')) (fun _ _ h=>h.1);obtain⟨c1,c2,rfl,hh,c3,c4,rfl,hl,c5,c6,rfl,ht,hu⟩:=hR;rw[show c1=[.string ⟨d.1.toArray⟩] from hh] at hrd;rw[show c5=[.string ⟨d.2.2.1.toArray⟩] from ht,show c6=[] from hu] at hrd;obtain⟨a,cap,rfl,hcap,hel⟩:=hl;have r0: ∀i W,J i W->W.cell? ⟨b,o,none⟩=some (.string ⟨d.1.toArray⟩):=fun i W h=>by simpa using(hrd i W h).1 0 _ rfl
 have r1: ∀i W,J i W->W.cell? ⟨b,o+1,none⟩=some (.slice a d.2.1.length cap):=fun i W h=>(hrd i W h).1 1 _ rfl;have r2: ∀i W,J i W->W.cell? ⟨b,o+2,none⟩=some (.string ⟨d.2.2.1.toArray⟩):=fun i W h=>(hrd i W h).1 2 _ rfl;have re: ∀j,j<d.2.1.length->∃b' o',a=some ⟨b',o',none⟩/\∀i W,J i W->W.cell? ⟨b',o'+j,none⟩=some (.string ⟨(d.2.1.getD j []).toArray⟩):=by
  intro j hj;rcases hel with h|⟨b',o',h1,h2⟩
  .rw[h] at hj;cases hj
  refine⟨b',o',h1,fun i W h=>?_⟩;have hg:d.2.1[j]? =some (d.2.1.getD j []):=by rw[aFV,aFG hj];rfl
  obtain⟨cs,k1,k2,k3,k4⟩:=MJ h2 hg;rw[show cs=[.string ⟨(d.2.1.getD j []).toArray⟩] from k4] at k2;have k5:=k2 0 _ rfl;have k6:=k3 0 pQ;rw[aGK,show j*Ty.str.cells=j from aHj j] at k5 k6;rw[(hrd i W h).2 _ _ k6];exact k5
 have q0:=a67 d;have qm:=fun j=>a68 d (j:=j);have ql:=a69 d;have qn:=a65 d;generalize hn:d.2.1.length=n at*;refine(callsIn_wide (n:=0)).1 (callsIn_of_wp func77 rfl trivial ?_);simp only[Tryz.ntmps77,aGy,aFF,aFS,Nat.reduceAdd,Nat.reduceSub,Array.replicate_succ,Array.replicate_zero,List.push_toArray,List.append_toArray,List.nil_append,List.cons_append];have c0:=r0 0 W h0;obtain⟨fn,tmps,assign,body,hy,hQ⟩:=hY 0 _ W q0 h0;dsimp only[SA] at hy
 gi_wp2
 refine⟨rfl,hQ.mono ?_⟩;clear hQ hy;rintro e W1 (⟨rfl,hJ1⟩ |⟨rfl,hJx⟩)
 .have s1:=r1 _ W1 hJ1
  gi_wp2
  gi_loopw [13] (fun i wr=> ∃k:Nat,k<=n/\i= .int .i64 k/\J (k+1) wr) (fun i _=>n- (RowKit.intOf i).toNat)
  case atStart=>exact⟨0,aGu _,rfl,hJ1⟩
  case round=>
   obtain⟨k,hk,rfl,hJs⟩:=hrel;by_cases hlt:k<n
   .obtain⟨b',o',rfl,hce⟩:=re k hlt;have hc':=hce _ _ hJs;have hq:=qm k hlt;clear re qm ql q0 hce;generalize d.2.1.getD k []=x at hc' hq;obtain⟨fn,tmps,assign,body,hy,hQ⟩:=hY _ _ wr hq hJs;dsimp only[SA] at hy
    gi_wp2
    refine⟨rfl,hQ.mono ?_⟩;clear hQ hy;rintro e W2 (⟨rfl,hJ2⟩ |⟨rfl,hJx⟩)
    .gi_wp2
     go_roundw
     case rel=>exact⟨k+1,pP,by simp,hJ2⟩
     case measure=>
      show n- (k+1)<n-k;omega
    gi_wp2
    refine bodyPost_ret (results_none rfl _ _ _) rfl ?_;exact⟨⟨_,rfl⟩,.inr hJx⟩
   obtain rfl:k=n:=by omega
   have s1:=r1 _ _ hJs;have s2:=r2 _ _ hJs;obtain⟨fn,tmps,assign,body,hy,hQ⟩:=hY _ _ wr ql hJs;dsimp only[SA] at hy
   gi_wp2
   refine⟨rfl,hQ.mono ?_⟩;clear hQ hy;rintro e W2 (⟨rfl,hJ2⟩ |⟨rfl,hJx⟩)
   .gi_wp2
    go_end0
    exact⟨⟨_,rfl⟩,.inl (by rw[qn];exact hJ2)⟩
   gi_wp2
   go_end0
   exact⟨⟨_,rfl⟩,.inr hJx⟩
 gi_wp2
 refine bodyPost_ret (results_none rfl _ _ _) rfl ?_;exact⟨⟨_,rfl⟩,.inr hJx⟩
theorem PD: ∀(s:pL) (c:UInt8),Lib.indexByte s c<s.length/\ -1<=Lib.indexByte s c
 |[],_=>by simp [Lib.indexByte]
 |b::l,c=>by
  have:=PD l c;unfold Lib.indexByte;split
  .simp
  split
  .simp;omega
  simp only[aFF];omega
end
section
attribute [local go_sem] Oper.semAt_some
abbrev wJ:Type:=(Ty.pair .str (.pair .str .unit)).den
def SB (s:(Ty.list (.pair .str (.pair .str .unit))).den):List wJ:=s
def ld (it:wJ):pW:=[.agg #[.string ⟨it.1.toArray⟩,.string ⟨it.2.1.toArray⟩]]
@[go_sem] def Sa (it:wJ):List qK:=[(.val (.pair .str (.pair .str .unit)) it,none)]
theorem a7b (it:wJ) (g:Gh) (w:q8):vG g w (Sa it) (ld it):=
 ⟨_,_,rfl,⟨.inl ⟨rfl,[_,_],rfl,[_],[_],rfl,rfl,[_],[],rfl,rfl,rfl⟩,trivial⟩,rfl⟩
theorem a7c:Y3 true prog 186 (.list (.pair .str (.pair .str .unit))) (fun d=>List.length d<=4611686018427387904) SB ld:=by
 refine⟨fun _ _=>rfl,?_⟩;intro l b o (d:List wJ) cs g W0 J Jx hpre hR hrd hJd hJxd hJt hY W h0 hra;obtain⟨a,cap,rfl,hcap,hel⟩:=hR;have hpre:d.length<=4611686018427387904:=hpre;have c0:W.cell? ⟨b,o,none⟩=some (.slice a d.length cap):=by simpa using hra 0 _ rfl
 have re: ∀j,j<d.length->∃b' o',a=some ⟨b',o',none⟩/\∀i W,J i W->W.cell? ⟨b',o'+j*2,none⟩=some (.string ⟨(d.getD j ([],[],())).1.toArray⟩)/\W.cell? ⟨b',o'+j*2+1,none⟩=some (.string ⟨(d.getD j ([],[],())).2.1.toArray⟩):=by
  intro j hj;rcases hel with h|⟨b',o',h1,h2⟩
  .rw[h] at hj;cases hj
  refine⟨b',o',h1,fun i W h=>?_⟩;have hg:d[j]? =some (d.getD j ([],[],())):=by rw[aFV,aFG hj];rfl
  obtain⟨cs,k1,k2,k3,k4⟩:=MJ h2 hg;generalize d.getD j ([],[],())=x at k4;obtain⟨c3,c4,rfl,e1,c5,c6,rfl,e2,e3⟩:=k4;rw[show c3=[.string ⟨x.1.toArray⟩] from e1,show c5=[.string ⟨x.2.1.toArray⟩] from e2,show c6=[] from e3] at k2;have k5:=k2 0 _ rfl;have k6:=k2 1 _ rfl;have k7:=k3 0 pQ;have k8:=k3 1 pQ;rw[aGK] at k5 k7;exact⟨((hrd i W h).2 _ _ k7).trans k5,((hrd i W h).2 _ _ k8).trans k6⟩
 have qm: ∀j,j<d.length->(SB d)[j]? =some (d.getD j ([],[],())):=fun j hj=>by
  show d[j]? =_;rw[aFV,aFG hj];rfl
 have qn:(SB d).length=d.length:=rfl;generalize hn:d.length=n at*;refine(callsIn_wide (n:=0)).1 (callsIn_of_wp func186 rfl trivial ?_);simp only[Tryz.ntmps186,aGy,aFF,aFS,Nat.reduceAdd,Nat.reduceSub,Array.replicate_succ,Array.replicate_zero,List.push_toArray,List.append_toArray,List.nil_append,List.cons_append]
 gi_wp2
 gi_loopw [7] (fun p wr=> ∃k:Nat,k<=n/\p= .int .i64 k/\J k wr) (fun p _=>n- (RowKit.intOf p).toNat)
 case atStart=>exact⟨0,aGu _,rfl,h0⟩
 case round=>
  obtain⟨k,hk,rfl,hJs⟩:=hrel;by_cases hlt:k<n
  .obtain⟨b',o',rfl,hce⟩:=re k hlt;obtain⟨hc1,hc2⟩:=hce _ _ hJs;have hq:=qm k hlt;clear re qm hce;generalize d.getD k ([],[],())=x at hc1 hc2 hq;have hb2:Below wr.heap.size wr (wr.alloc (.cells #[.string ⟨x.1.toArray⟩,.string ⟨x.2.1.toArray⟩] 110)):=(Below.refl _ _).alloc (aFW _) _;obtain⟨fn,tmps,assign,body,hy,hQ⟩:=hY _ _ _ _ hq hJs hb2;dsimp only[ld] at hy
   gi_wp2
   refine⟨rfl,hQ.mono ?_⟩;clear hQ hy;rintro e W2 ⟨h12,-⟩;rcases h12 with⟨rfl,hJ2⟩ |⟨rfl,hJx⟩
   .gi_wp2
    go_roundw
    case rel=>exact⟨k+1,pP,by simp,hJ2⟩
    case measure=>
     show n- (k+1)<n-k;omega
   gi_wp2
   refine bodyPost_ret (results_none rfl _ _ _) rfl ?_;exact⟨⟨_,rfl⟩,.inr hJx⟩
  obtain rfl:k=n:=by omega
  gi_wp2
  go_end0
  exact⟨⟨_,rfl⟩,.inl (by rw[qn];exact hJs)⟩
end
end Go.Proofs.YtcpbaddnmpeipaaGreatDoor
namespace Go.Proofs.YtcpbaddnmpeipaaGreatDoor
open Vc Go.RowKit
def GF (g:Gh) (k n:Nat) (v:q9):Gh:={g with cur:=fun i m=>if i=k then(if m=n then some v else none) else g.cur i m}
theorem E5 (g:Gh) (k n:Nat) (v:q9):(GF g k n v).cur k n=some v:=by simp [GF]
theorem lf (g:Gh) (k n:Nat) (v:q9) {m:Nat}(h:n<m):(GF g k n v).cur k m=none:=by
 simp only[GF,aHb];rw[aFA pP]
theorem a7d {g:Gh}{w w':q8}{e:TypeId}{l l':pM}{n m b cap:Nat}{cur':Array q9}{side:List Prop}
  (hH:sK g w (r5 0 [.row e .str l n])) (hcur:g.cur 0 n=some (.slice (some ⟨b,0,none⟩) n cap))
  (hcm:cap<=maxLen) (hmc:m<=cap) (hl':l'.length=m)
  (hnew:w'.heap[b]? =some (.cells cur' e (0,0))) (hcs':cur'.size=cap) (htk:cur'.toList.take m=l'.map Go.Proofs.encStr) (hgr:w.grownBy w' (some b)):
  ∃g',GA g w [.row e .str l n] ⟨side,[(.own 1 m,none)],[.dead,.row e .str l' m]⟩ g' w' (.slice (some ⟨b,0,none⟩) m cap):=by
 have hg0:qO (r5 0 [qJ.row e .str l n]) 0=some (.row e .str l n):=rfl;obtain⟨hl,v,xs,hc2,hown,hF,hnone,hseal⟩:=hH.blk 0 _ hg0;rw[hcur] at hc2;obtain rfl:=aFE hc2;have hb0: ∀o,z6 g (r5 0 [qJ.row e .str l n]) b o:=fun o=>⟨0,_,hg0,_,hcur,rfl⟩;have hNG:NG<=b:=hH.tab.2 0 _ b 0 hg0 ⟨_,hcur,rfl⟩;have hS: ∀b' o,g.S b' o->b'≠b:=fun b' o h e1=>hseal b rfl o (e1▸h);have hcell: ∀b' o,g.S b' o->w'.cell? ⟨b',o,none⟩=w.cell? ⟨b',o,none⟩:=fun b' o h=>aFY (a:=⟨b',o,none⟩) (hgr.block b' (hH.sl b' o h) (fun e1=>hS b' o h (aFE e1)));refine⟨GF g 1 m (.slice (some ⟨b,0,none⟩) m cap),fun b' o h=>⟨h,hcell b' o h⟩,⟨fun i blk h=>?_,fun i j bi bj b' o hij hi hj ho hp=>?_,fun b' o h=>aF9 (hH.sl b' o h) hgr.size,JF hH.tab.1 hgr.size fun b' h=>hgr.block b' (aF9 h hH.tab.1.1) (fun e1=>by have:=aFE e1;omega),fun i blk b' o h ho=>?_⟩,⟨⟨E5 ..,.inr ⟨b,cap,rfl,hmc⟩⟩,trivial⟩,⟨hgr.os,hgr.tape,hgr.output,hgr.size,fun b' hb hn=>hgr.block b' hb fun e1=>hn 0 (by rw[aFE e1];exact hb0 0),fun b' o hb hn=>?_,fun b' o h=> .inl h,fun b' s h=>?_⟩,fun i blk b' o h ho=>?_,fun _ _ _ _ _=>rfl,fun i t x ts u y us h=>?_,fun i p hi h=>h,fun i q u hi h=>?_⟩
 .match i,h with
  |0,h=>cases h;trivial
  |1,h=>
   cases h;refine⟨hl',_,l'.map Go.Proofs.encStr,E5 ..,⟨by simp [hl',Ty.cells],.inr ⟨b,cap,cur',rfl,aGu _,hnew,hmc,hcm,by simpa[Ty.cells] using hcs',by simpa[Ty.cells] using htk⟩⟩,kw _,fun q hq=>lf g 1 m _ hq,fun b' hb o hs=>?_⟩;cases hb;exact hseal b rfl o hs
  |i+2,h=>simp [r5,qO] at h
 .match i,j,hi,hj with
  |0,_,hi,_=>cases hi;exact ho
  |_,0,_,hj=>cases hj;exact hp
  |1,1,_,_=>exact hij rfl
  |i+2,_,hi,_=>simp [r5,qO] at hi
  |1,j+2,_,hj=>simp [r5,qO] at hj
 .match i,h with
  |0,h=>cases h;exact ho.elim
  |1,h=>
   cases h;obtain⟨v,h1,h2⟩:=ho;rw[E5] at h1;obtain rfl:=aFE h1;cases h2;exact hNG
  |i+2,h=>simp [r5,qO] at h
 .have hne:b'≠b:=fun e1=>hn (e1▸hb0 o);have:=hgr.block b' hb (fun e1=>hne (aFE e1));exact⟨aFY (a:=⟨b',o,none⟩) this,aGn (a:=⟨b',o,none⟩) this⟩
 .by_cases e1:b'=b
  .exact .inr fun o=>e1▸hb0 o
  exact .inl ((CC (hgr.block b' (CB h) (fun e2=>e1 (aFE e2)))).trans h)
 .match i,h with
  |0,h=>cases h;exact ho.elim
  |1,h=>
   cases h;obtain⟨v,h1,h2⟩:=ho;rw[E5] at h1;obtain rfl:=aFE h1;cases h2;exact .inr (hb0 o)
  |i+2,h=>simp at h
 .match i,h with
  |0,h=>cases h
  |i+1,h=>simp at h
 match i,hi with
 |0,_=>simpa[GF] using h
theorem a7e {g:Gh}{w:q8}{e:TypeId}{l:pM}{side:List Prop}
  (hH:sK g w (r5 0 [.row e .str l 0])) {v:q9}(hcur:g.cur 0 0=some v):
  ∃g',GA g w [.row e .str l 0] ⟨side,[(.own 1 0,none)],[.dead,.row e .str [] 0]⟩ g' w v:=by
 have hg0:qO (r5 0 [qJ.row e .str l 0]) 0=some (.row e .str l 0):=rfl;obtain⟨hl,v',xs,hc2,hown,hF,hnone,hseal⟩:=hH.blk 0 _ hg0;rw[hcur] at hc2;obtain rfl:=aFE hc2;have hb0: ∀b o,v.ownBlock=some b->z6 g (r5 0 [qJ.row e .str l 0]) b o:=fun b o h=>⟨0,_,hg0,_,hcur,h⟩;have hv:(v= .slice none 0 0/\0=0)\/∃b cap,v= .slice (some ⟨b,0,none⟩) 0 cap/\0<=cap:=by
  rcases hown.2 with⟨h1,h2⟩ |⟨b,cap,cur,h1,_,_,h2,_⟩
  .exact .inl ⟨h1,rfl⟩
  exact .inr ⟨b,cap,h1,h2⟩
 refine⟨GF g 1 0 v,fun b' o h=>⟨h,rfl⟩,⟨fun i blk h=>?_,fun i j bi bj b' o hij hi hj ho hp=>?_,hH.sl,hH.tab.1,fun i blk b' o h ho=>?_⟩,⟨⟨E5 ..,hv⟩,trivial⟩,Fr.refl _ _ _,fun i blk b' o h ho=>?_,fun _ _ _ _ _=>rfl,fun i t x ts u y us h=>?_,fun i p hi h=>h,fun i q u hi h=>?_⟩
 .match i,h with
  |0,h=>cases h;trivial
  |1,h=>
   cases h;have hx:xs=[]:=by
    have:=hown.1;simpa using this
   subst hx;exact⟨rfl,v,[],E5 ..,hown,rfl,fun q hq=>lf g 1 0 _ hq,hseal⟩
  |i+2,h=>simp [r5,qO] at h
 .match i,j,hi,hj with
  |0,_,hi,_=>cases hi;exact ho
  |_,0,_,hj=>cases hj;exact hp
  |1,1,_,_=>exact hij rfl
  |i+2,_,hi,_=>simp [r5,qO] at hi
  |1,j+2,_,hj=>simp [r5,qO] at hj
 .match i,h with
  |0,h=>cases h;exact ho.elim
  |1,h=>
   cases h;obtain⟨v',h1,h2⟩:=ho;rw[E5] at h1;obtain rfl:=aFE h1;exact hH.tab.2 0 _ b' o hg0 ⟨_,hcur,h2⟩
  |i+2,h=>simp [r5,qO] at h
 .match i,h with
  |0,h=>cases h;exact ho.elim
  |1,h=>
   cases h;obtain⟨v',h1,h2⟩:=ho;rw[E5] at h1;obtain rfl:=aFE h1;exact .inr (hb0 b' o h2)
  |i+2,h=>simp at h
 .match i,h with
  |0,h=>cases h
  |i+1,h=>simp at h
 match i,hi with
 |0,_=>simpa[GF] using h
end Go.Proofs.YtcpbaddnmpeipaaGreatDoor
namespace Go.Proofs
open Go.RowKit Go.Lib
open Tryz
def Tryz.lays219_ren:Go.Shelf.Ren:=⟨fun|219=>110|217=>139|225=>140|224=>141|267=>142|266=>174|314=>175|n=>n,fun|9=>9|3=>3|4=>4|5=>5|46=>176|146=>203|51=>202|n=>n,fun|1=>0|n=>n⟩
theorem Tryz.lays219:Go.Proofs.Lays.n219 prog Tryz.lays219_ren:={
 mixed:=by kernel_rfl
 f217:=Tryz.func139.trans (aFZ some qC)
 f219:=Tryz.func110.trans (aFZ some qC)
 f224:=Tryz.func141.trans (aFZ some qC)
 f225:=Tryz.func140.trans (aFZ some qC)
 f266:=Tryz.func174.trans (aFZ some qC)
 f267:=Tryz.func142.trans (aFZ some qC)
 f314:=Tryz.func175.trans (aFZ some qC)
 t3:=Tryz.underlying3
 a3:=Tryz.isAgg3
 z3:=Tryz.sizeOf3
 v3:=Tryz.zeroValue3
 t4:=Tryz.underlying4
 a4:=Tryz.isAgg4
 z4:=Tryz.sizeOf4
 v4:=Tryz.zeroValue4
 t5:=Tryz.underlying5
 a5:=Tryz.isAgg5
 z5:=Tryz.sizeOf5
 v5:=Tryz.zeroValue5
 t9:=Tryz.underlying9
 a9:=Tryz.isAgg9
 z9:=Tryz.sizeOf9
 v9:=Tryz.zeroValue9
 t46:=Tryz.underlying176
 a46:=Tryz.isAgg176
 z46:=Tryz.sizeOf176
 v46:=Tryz.zeroValue176
 t51:=Tryz.underlying202
 a51:=Tryz.isAgg202
 z51:=Tryz.sizeOf202
 v51:=Tryz.zeroValue202
 t146:=Tryz.underlying203
 a146:=Tryz.isAgg203
 z146:=Tryz.sizeOf203
 v146:=Tryz.zeroValue203
 g1:=by kernel_rfl}
def Tryz.lays156_ren:Go.Shelf.Ren:=⟨fun|156=>72|165=>104|166=>52|169=>53|240=>78|241=>135|276=>109|277=>172|n=>n,fun|31=>23|9=>9|3=>3|4=>4|0=>0|20=>20|72=>82|76=>88|70=>79|37=>80|75=>87|127=>115|164=>146|5=>5|80=>90|n=>n,fun|n=>n⟩
theorem Tryz.lays156:Go.Proofs.Lays.n156 prog Tryz.lays156_ren:={
 mixed:=by kernel_rfl
 f156:=Tryz.func72.trans (aFZ some qC)
 f165:=Tryz.func104.trans (aFZ some qC)
 f166:=Tryz.func52.trans (aFZ some qC)
 f169:=Tryz.func53.trans (aFZ some qC)
 f240:=Tryz.func78.trans (aFZ some qC)
 f241:=Tryz.func135.trans (aFZ some qC)
 f276:=Tryz.func109.trans (aFZ some qC)
 f277:=Tryz.func172.trans (aFZ some qC)
 t0:=Tryz.underlying0
 a0:=Tryz.isAgg0
 z0:=Tryz.sizeOf0
 v0:=Tryz.zeroValue0
 t3:=Tryz.underlying3
 a3:=Tryz.isAgg3
 z3:=Tryz.sizeOf3
 v3:=Tryz.zeroValue3
 t4:=Tryz.underlying4
 a4:=Tryz.isAgg4
 z4:=Tryz.sizeOf4
 v4:=Tryz.zeroValue4
 t9:=Tryz.underlying9
 a9:=Tryz.isAgg9
 z9:=Tryz.sizeOf9
 v9:=Tryz.zeroValue9
 t20:=Tryz.underlying20
 a20:=Tryz.isAgg20
 z20:=Tryz.sizeOf20
 v20:=Tryz.zeroValue20
 t31:=Tryz.underlying23
 a31:=Tryz.isAgg23
 z31:=Tryz.sizeOf23
 v31:=Tryz.zeroValue23
 t37:=Tryz.underlying80
 a37:=Tryz.isAgg80
 z37:=Tryz.sizeOf80
 v37:=Tryz.zeroValue80
 t70:=Tryz.underlying79
 a70:=Tryz.isAgg79
 z70:=Tryz.sizeOf79
 v70:=Tryz.zeroValue79
 t72:=Tryz.underlying82
 a72:=Tryz.isAgg82
 z72:=Tryz.sizeOf82
 v72:=Tryz.zeroValue82
 t75:=Tryz.underlying87
 a75:=Tryz.isAgg87
 z75:=Tryz.sizeOf87
 v75:=Tryz.zeroValue87
 t76:=Tryz.underlying88
 a76:=Tryz.isAgg88
 z76:=Tryz.sizeOf88
 v76:=Tryz.zeroValue88
 t127:=Tryz.underlying115
 a127:=Tryz.isAgg115
 z127:=Tryz.sizeOf115
 v127:=Tryz.zeroValue115
 t164:=Tryz.underlying146
 a164:=Tryz.isAgg146
 z164:=Tryz.sizeOf146
 v164:=Tryz.zeroValue146}
def Tryz.lays194_ren:Go.Shelf.Ren:=⟨fun|194=>164|n=>n,fun|31=>23|9=>9|3=>3|4=>4|0=>0|n=>n,fun|n=>n⟩
theorem Tryz.lays194:Go.Proofs.Lays.n194 prog Tryz.lays194_ren:={
 mixed:=by kernel_rfl
 f194:=Tryz.func164.trans (aFZ some qC)
 t0:=Tryz.underlying0
 a0:=Tryz.isAgg0
 z0:=Tryz.sizeOf0
 v0:=Tryz.zeroValue0
 t3:=Tryz.underlying3
 a3:=Tryz.isAgg3
 z3:=Tryz.sizeOf3
 v3:=Tryz.zeroValue3
 t4:=Tryz.underlying4
 a4:=Tryz.isAgg4
 z4:=Tryz.sizeOf4
 v4:=Tryz.zeroValue4
 t9:=Tryz.underlying9
 a9:=Tryz.isAgg9
 z9:=Tryz.sizeOf9
 v9:=Tryz.zeroValue9
 t31:=Tryz.underlying23
 a31:=Tryz.isAgg23
 z31:=Tryz.sizeOf23
 v31:=Tryz.zeroValue23}
def Tryz.lays153_ren:Go.Shelf.Ren:=⟨fun|153=>146|152=>177|226=>178|227=>112|228=>143|137=>133|119=>199|224=>141|225=>140|217=>139|266=>174|n=>n,fun|9=>9|3=>3|4=>4|5=>5|21=>21|117=>152|116=>151|0=>0|46=>176|124=>155|n=>n,fun|n=>n⟩
theorem Tryz.lays153:Go.Proofs.Lays.n153 prog Tryz.lays153_ren:={
 mixed:=by kernel_rfl
 f119:=Tryz.func199.trans (aFZ some qC)
 f137:=Tryz.func133.trans (aFZ some qC)
 f152:=Tryz.func177.trans (aFZ some qC)
 f153:=Tryz.func146.trans (aFZ some qC)
 f217:=Tryz.func139.trans (aFZ some qC)
 f224:=Tryz.func141.trans (aFZ some qC)
 f225:=Tryz.func140.trans (aFZ some qC)
 f226:=Tryz.func178.trans (aFZ some qC)
 f227:=Tryz.func112.trans (aFZ some qC)
 f228:=Tryz.func143.trans (aFZ some qC)
 f266:=Tryz.func174.trans (aFZ some qC)
 t0:=Tryz.underlying0
 a0:=Tryz.isAgg0
 z0:=Tryz.sizeOf0
 v0:=Tryz.zeroValue0
 t3:=Tryz.underlying3
 a3:=Tryz.isAgg3
 z3:=Tryz.sizeOf3
 v3:=Tryz.zeroValue3
 t4:=Tryz.underlying4
 a4:=Tryz.isAgg4
 z4:=Tryz.sizeOf4
 v4:=Tryz.zeroValue4
 t5:=Tryz.underlying5
 a5:=Tryz.isAgg5
 z5:=Tryz.sizeOf5
 v5:=Tryz.zeroValue5
 t9:=Tryz.underlying9
 a9:=Tryz.isAgg9
 z9:=Tryz.sizeOf9
 v9:=Tryz.zeroValue9
 t21:=Tryz.underlying21
 a21:=Tryz.isAgg21
 z21:=Tryz.sizeOf21
 v21:=Tryz.zeroValue21
 t46:=Tryz.underlying176
 a46:=Tryz.isAgg176
 z46:=Tryz.sizeOf176
 v46:=Tryz.zeroValue176
 t116:=Tryz.underlying151
 a116:=Tryz.isAgg151
 z116:=Tryz.sizeOf151
 t117:=Tryz.underlying152
 a117:=Tryz.isAgg152
 z117:=Tryz.sizeOf152
 v117:=Tryz.zeroValue152
 t124:=Tryz.underlying155
 a124:=Tryz.isAgg155
 z124:=Tryz.sizeOf155
 v124:=Tryz.zeroValue155}
theorem Tryz.builderExtraJ:Builder.Extra prog Tryz.lays156_ren:={
 sizeBuilder:=by kernel_rfl
 liesBuilder:=by kernel_rfl
 t5:=Tryz.underlying5
 a5:=Tryz.isAgg5
 z5:=Tryz.sizeOf5
 v5:=Tryz.zeroValue5
 infoByte:=by kernel_rfl
 cellsByte:=by kernel_rfl
 sizeByte:=by kernel_rfl
 neB5:=by decide}
def Tryz.lays106_ren:Go.Shelf.Ren:=⟨fun|106=>153|213=>187|265=>205|n=>n,fun|9=>9|3=>3|n=>n,fun|n=>n⟩
theorem Tryz.lays106:Go.Proofs.Lays.n106 prog Tryz.lays106_ren:={
 mixed:=by kernel_rfl
 f106:=Tryz.func153.trans (aFZ some qC)
 f213:=Tryz.func187.trans (aFZ some qC)
 f265:=Tryz.func205.trans (aFZ some qC)
 t3:=Tryz.underlying3
 a3:=Tryz.isAgg3
 z3:=Tryz.sizeOf3
 v3:=Tryz.zeroValue3
 t9:=Tryz.underlying9
 a9:=Tryz.isAgg9
 z9:=Tryz.sizeOf9
 v9:=Tryz.zeroValue9}
end Go.Proofs
namespace Go.Proofs.YtcpbaddnmpeipaaGreatDoor
open Vc Go.RowKit
open Tryz
theorem a7f {g:Gh}{w:q8}{e:TypeId}{l:pM}{n:Nat}{v:q9}(hH:sK g w (r5 0 [.row e .str l n])) (hv:rS g w (.own 0 n,none) v):
  l.length=n/\g.cur 0 n=some v/\((v= .slice none 0 0/\n=0)\/∃b cap cur,v= .slice (some ⟨b,0,none⟩) n cap/\w.heap[b]? =some (.cells cur e (0,0))/\n<=cap/\cap<=maxLen/\cur.size=cap/\Go.Sort.Holds Go.Proofs.encStr w b 0 l.toArray/\b<w.heap.size):=by
 have hg0:qO (r5 0 [qJ.row e .str l n]) 0=some (.row e .str l n):=rfl;obtain⟨hl,v',xs,hcur,hown,hF,hnone,hseal⟩:=hH.blk 0 _ hg0;have hva:v=v':=by
  have:=hv.1.1;rw[hcur] at this;exact(aFE this).symm
 subst hva;subst hl;refine⟨rfl,hcur,?_⟩;obtain⟨hx,⟨rfl,h0⟩ |⟨b,cap,cur,rfl,hb0,hbk,hnc,hcm,hcs,htk⟩⟩:=hown
 .exact .inl ⟨rfl,h0⟩
 have hxs:=kv hF;subst hxs;have hc1:(Ty.str).cells=1:=rfl;rw[hc1,aHj] at hcs htk;refine .inr ⟨b,cap,cur,rfl,hbk,hnc,hcm,hcs,?_,?_⟩
 .intro j hj;have hj':j<l.length:=by simpa using hj
  refine⟨?_,Lib.frozen_of_heap hbk _⟩;rw[Lib.cell_of_heap hbk,aF6];have h2:(cur.toList.take l.length)[j]? =(l.map Go.Proofs.encStr)[j]? :=by rw[htk]
  rw[aGw hj',aGF] at h2;rw[h2];simp [hj']
 rcases aGN b w.heap.size with h|h
 .exact h
 rw[Array.getElem?_eq_none h] at hbk;cases hbk
theorem a7g {g:Gh}{w:q8}{e:TypeId}{l l':pM}{n q b cap:Nat}{cur:Array q9}{side:List Prop}{pad:pM}
  (hH:sK g w (r5 0 [.row e .str l n])) (hcur:g.cur 0 n=some (.slice (some ⟨b,0,none⟩) n cap)) (hbk:w.heap[b]? =some (.cells cur e (0,0))) (hcs:cur.size=cap)
  (hcm:cap<=maxLen) (hp:l'.length+pad.length<=cap):
  ∃g',GA g w [.row e .str l n] ⟨side,[(.own 1 l'.length,none)],[.dead,.row e .str l' l'.length]⟩ g' (Go.Sort.putRow Go.Proofs.encStr (Go.Sort.ahead w q) b 0 (l'++pad).toArray) (.slice (some ⟨b,0,none⟩) l'.length cap):=by
 refine a7d (cur':=Go.Sort.putCells Go.Proofs.encStr 0 (l'++pad).toArray cur) hH hcur hcm pP rfl ?_ (by simpa[Go.Sort.putCells] using hcs) ?_ ⟨rfl,rfl,rfl,by simp,fun k hk hne=>?_⟩
 .simp [Go.Sort.putRow,Go.Sort.mapBlock,aGG,hbk,Go.Sort.onCells]
 .have h1:=Rl (l'++pad) cur (by rw[aFD];omega);have h2:=aFZ (List.take l'.length) h1;rw[List.take_take,aFD,Nat.min_eq_left (Nat.le_add_right _ _),List.map_append,aHm pR] at h2;exact h2.trans (List.take_of_length_le pR)
 have hkb:b≠k:=fun h=>hne (by rw[h]);simp [Go.Sort.putRow,Go.Sort.mapBlock,aGG,hkb]
@[go_sem] def Y4:List qK->List qJ->Option qT
 |[(.own 0 n,none)],[.row 9 .str l n2]=>some ⟨[n=n2,n2<=9223372036854775807],[(.own 1 (List.length (Lib.compact l)),none)],[.dead,.row 9 .str (Lib.compact l) (List.length (Lib.compact l))]⟩
 |_,_=>none
theorem Sb:xF prog 164 Y4:=by
 refine⟨fun _ _=>rfl,fun g w args vals L r hH ha hC hs=>?_⟩;unfold Y4 at hC;split at hC
 .rename_i n l n2;cases hC;obtain rfl:n=n2:=hs _ pR;have hn:=hs (n<=9223372036854775807) pR;clear hs;obtain⟨va,_,rfl,ra,hv⟩:=ha;cases hv;obtain⟨hl,hcur,⟨rfl,rfl⟩ |⟨b,cap,cur,rfl,hbk,hnc,hcm,hcs,hho,hb⟩⟩:=a7f hH ra
  .obtain rfl:l=[]:=aGD.1 hl;refine(Any.slices_Compact_string_empty Tryz.lays194 none 0 w).mono ?_;rintro en w' ⟨rfl,rfl⟩;obtain⟨g',hg⟩:=a7e (side:=[]) hH hcur;exact⟨_,g',rfl,hg.shut,hg.heap,hg.ret,hg.fr,hg.perm,hg.J,hg.ty,hg.Jt,hg.cur⟩
  subst hl;refine(Any.slices_Compact_string Tryz.lays194 b 0 cap l w hho hn hnc).mono ?_;rintro en w' ⟨rfl,q,rfl⟩;obtain⟨g',hg⟩:=a7g (side:=[]) (q:=q) (l':=Lib.compact l) (pad:=List.replicate (l.length- (Lib.compact l).length) []) hH hcur hbk hcs hcm (by have:=Lib.compact_length_le l;simp;omega);exact⟨_,g',rfl,hg.shut,hg.heap,hg.ret,hg.fr,hg.perm,hg.J,hg.ty,hg.Jt,hg.cur⟩
 cases hC
@[go_sem] def Y5:List qK->List qJ->Option qT
 |[(.val .str O,none),(.val .str Z,none)],[]=>some ⟨[List.length O<4294967281],[(.val (.int .i64) (GE O Z),none)],[]⟩
 |_,_=>none
theorem Sc:xF prog 110 Y5:=by
 refine I6 (fun _ _=>rfl) fun g w args vals L r hT ha hC hs=>?_;unfold Y5 at hC;split at hC
 .rename_i s c;cases hC;have h1:=hs _ aFT;obtain⟨va,_,rfl,ra,vb,_,rfl,rb,hv⟩:=ha;obtain rfl:=wX ra.1;obtain rfl:=wX rb.1;cases hv;obtain⟨m,hm⟩:=hT.2.2.1;exact⟨rfl,rfl,(XV (Any.stringslite_Index Tryz.lays219 ⟨List.toArray s⟩ ⟨List.toArray c⟩ m w h1 hm)).mono fun e w' ⟨he,hb⟩=>⟨_,he,hb,wI _ _ _ _,trivial⟩⟩
 cases hC
def xZ (l:pM) (sep:pL):pL:=Lib.join l sep
@[go_sem] def Y6:List qK->List qJ->Option qT
 |[(.val (.list .str) l,none),(.val .str c,none)],[]=>some ⟨[List.length l<=140737488355328/\List.length (xZ l c)<=140737488355328],[(.val .str (xZ l c),none)],[]⟩
 |_,_=>none
theorem Sd:xF prog 72 Y6:=by
 refine I6 (fun _ _=>rfl) fun g w args vals L r hT ha hC hs=>?_;unfold Y6 at hC;split at hC
 .rename_i l c;cases hC;obtain⟨h1,h2⟩:=hs _ aFT;obtain⟨va,_,rfl,ra,vb,_,rfl,rb,hv⟩:=ha;obtain⟨a,cap,rfl,hcap,hlist⟩:=ER ra.1;obtain rfl:=wX rb.1;cases hv;refine⟨rfl,rfl,?_⟩;unfold xZ at h2;have hxm:(l.map fun x=>(⟨x.toArray⟩:ByteArray)).map (·.data.toList)=l:=by
   rw[List.map_map];exact(List.map_congr_left fun x _=>rfl).trans (List.map_id l)
  rcases l with _|⟨x,_|⟨y,r⟩⟩
  .exact(XV (Any.strings_Join_none Tryz.lays156 Tryz.builderExtraJ a cap ⟨List.toArray c⟩ w)).mono fun e w' ⟨he,hb⟩=>⟨_,he,hb,CZ _ _ _,trivial⟩
  .rcases hlist with h|⟨b,o,rfl,hL⟩
   .cases h
   obtain⟨cs,k1,k2,k3,k4⟩:=MJ hL (i:=0) (x:=x) rfl;rw[show cs=[.string ⟨List.toArray x⟩] from k4] at k2;have k5:=k2 0 _ rfl;rw[Nat.zero_mul,aGK] at k5;exact(XV (Any.strings_Join_one Tryz.lays156 Tryz.builderExtraJ b o cap ⟨List.toArray x⟩ ⟨List.toArray c⟩ w k5)).mono fun e w' ⟨he,hb⟩=>⟨_,he,hb,(by rw[show xZ [x] c=x from Lib.join_one x c];exact CZ _ _ _),trivial⟩
  rcases hlist with h|⟨b,o,rfl,hL⟩
  .cases h
  have hc: ∀(j:Nat) z,((x::y::r).map fun x=>(⟨List.toArray x⟩:ByteArray))[j]? =some z->w.cell? ⟨b,o+j,none⟩=some (.string z):=by
   intro j z hz;rw[List.getElem?_map] at hz;obtain⟨u,hu,rfl⟩:=aFQ.1 hz;obtain⟨cs,k1,k2,k3,k4⟩:=MJ hL hu;rw[show cs=[.string ⟨List.toArray u⟩] from k4] at k2;have k5:=k2 0 _ rfl;rw[aGK,show j*Ty.str.cells=j from aHj j] at k5;exact k5
  have h0:=hc 0 _ rfl;have:=Any.strings_Join_many Tryz.lays156 Tryz.builderExtraJ b o cap ((x::y::r).map fun x=>(⟨List.toArray x⟩:ByteArray)) ⟨List.toArray c⟩ w hc (World.block_lt_of_cell? _ _ h0) pR (by simpa using h1) (by simpa using hcap) (by rw[hxm];exact h2);rw[hxm] at this;rw[aG0] at this;exact this.mono fun e w' ⟨he,hb⟩=>⟨_,he,hb,CZ _ _ _,trivial⟩
 cases hC
end Go.Proofs.YtcpbaddnmpeipaaGreatDoor
namespace Go.Proofs
open Go.RowKit Go.Lib Go.Shelf
def Tryz.sortFld_ren:Go.Shelf.Ren:=⟨fun|6=>185|15=>192|14=>204|28=>217|29=>218|20=>228|21=>229|22=>230|23=>231|24=>232|25=>233|26=>234|27=>235|46=>249|47=>237|48=>238|49=>250|50=>251|57=>256|n=>n,fun|22=>24|24=>110|25=>188|3=>3|39=>176|0=>0|53=>202|55=>241|4=>4|46=>234|45=>233|50=>54|5=>5|9=>9|66=>255|70=>259|76=>268|77=>140|n=>n,fun|n=>n⟩
theorem Tryz.sortFld:Go.Proofs.SlLaysF0.n6 Tryz.prog Tryz.sortFld_ren:={
 mixed:=by kernel_rfl
 f6:=⟨Tryz.f185.name,pQ,Tryz.func185.trans (aFZ some qC)⟩
 f14:=⟨Tryz.f204.name,pQ,Tryz.func204.trans (aFZ some qC)⟩
 f15:=Tryz.func192.trans (aFZ some qC)
 f20:=⟨Tryz.f228.name,pQ,Tryz.func228.trans (aFZ some qC)⟩
 f21:=⟨Tryz.f229.name,pQ,Tryz.func229.trans (aFZ some qC)⟩
 f22:=⟨Tryz.f230.name,pQ,Tryz.func230.trans (aFZ some qC)⟩
 f23:=⟨Tryz.f231.name,pQ,Tryz.func231.trans (aFZ some qC)⟩
 f24:=⟨Tryz.f232.name,pQ,Tryz.func232.trans (aFZ some qC)⟩
 f25:=⟨Tryz.f233.name,pQ,Tryz.func233.trans (aFZ some qC)⟩
 f26:=⟨Tryz.f234.name,pQ,Tryz.func234.trans (aFZ some qC)⟩
 f27:=⟨Tryz.f235.name,pQ,Tryz.func235.trans (aFZ some qC)⟩
 f28:=Tryz.func217.trans (aFZ some qC)
 f29:=Tryz.func218.trans (aFZ some qC)
 f46:=⟨Tryz.f249.name,pQ,Tryz.func249.trans (aFZ some qC)⟩
 f47:=Tryz.func237.trans (aFZ some qC)
 f48:=Tryz.func238.trans (aFZ some qC)
 f49:=⟨Tryz.f250.name,pQ,Tryz.func250.trans (aFZ some qC)⟩
 f50:=⟨Tryz.f251.name,pQ,Tryz.func251.trans (aFZ some qC)⟩
 f57:=⟨Tryz.f256.name,pQ,Tryz.func256.trans (aFZ some qC)⟩
 t0:=Tryz.underlying0
 a0:=Tryz.isAgg0
 z0:=Tryz.sizeOf0
 v0:=Tryz.zeroValue0
 t3:=Tryz.underlying3
 a3:=Tryz.isAgg3
 z3:=Tryz.sizeOf3
 v3:=Tryz.zeroValue3
 t4:=Tryz.underlying4
 a4:=Tryz.isAgg4
 z4:=Tryz.sizeOf4
 v4:=Tryz.zeroValue4
 t5:=Tryz.underlying5
 a5:=Tryz.isAgg5
 z5:=Tryz.sizeOf5
 v5:=Tryz.zeroValue5
 t9:=Tryz.underlying9
 a9:=Tryz.isAgg9
 z9:=Tryz.sizeOf9
 v9:=Tryz.zeroValue9
 t22:=Tryz.underlying24
 a22:=Tryz.isAgg24
 z22:=Tryz.sizeOf24
 v22:=Tryz.zeroValue24
 t25:=Tryz.underlying188
 a25:=Tryz.isAgg188
 z25:=Tryz.sizeOf188
 v25:=Tryz.zeroValue188
 t39:=Tryz.underlying176
 a39:=Tryz.isAgg176
 z39:=Tryz.sizeOf176
 v39:=Tryz.zeroValue176
 t45:=Tryz.underlying233
 a45:=Tryz.isAgg233
 z45:=Tryz.sizeOf233
 v45:=Tryz.zeroValue233
 t46:=Tryz.underlying234
 a46:=Tryz.isAgg234
 z46:=Tryz.sizeOf234
 v46:=Tryz.zeroValue234
 t50:=Tryz.underlying54
 a50:=Tryz.isAgg54
 z50:=Tryz.sizeOf54
 v50:=Tryz.zeroValue54
 t53:=Tryz.underlying202
 a53:=Tryz.isAgg202
 z53:=Tryz.sizeOf202
 v53:=Tryz.zeroValue202
 t55:=Tryz.underlying241
 a55:=Tryz.isAgg241
 z55:=Tryz.sizeOf241
 v55:=Tryz.zeroValue241
 t66:=Tryz.underlying255
 a66:=Tryz.isAgg255
 z66:=Tryz.sizeOf255
 v66:=Tryz.zeroValue255
 t70:=Tryz.underlying259
 a70:=Tryz.isAgg259
 z70:=Tryz.sizeOf259
 v70:=Tryz.zeroValue259
 t76:=Tryz.underlying268
 a76:=Tryz.isAgg268
 z76:=Tryz.sizeOf268
 v76:=Tryz.zeroValue268
 t77:=Tryz.underlying140
 a77:=Tryz.isAgg140
 z77:=Tryz.sizeOf140
 v77:=Tryz.zeroValue140}
end Go.Proofs
namespace Go.Proofs.YtcpbaddnmpeipaaGreatDoor
open Vc Go.RowKit Go.Sort
def E6 (x y:wJ):Int:=Lib.compareBytes x.1 y.1
theorem lg: ∀(a b:pL),Lib.compareBytes a b<0↔a<b
 |[],[]=>by simp [Lib.compareBytes]
 |[],_::_=>by simp [Lib.compareBytes]
 |_::_,[]=>by simp [Lib.compareBytes]
 |a::u,b::bs=>by
  rw[List.cons_lt_cons_iff];unfold Lib.compareBytes;by_cases h1:a<b
  .simp [h1]
  by_cases h2:b<a
  .have: ¬a=b:=fun e=>by subst e;exact h1 h2
   simp [h1,h2,this]
  have:a=b:=UInt8.le_antisymm (by simpa using h2) (by simpa using h1);subst this;simp only[h1,aHG,false_or,true_and];exact lg u bs
theorem lh (x y:wJ):ltOf E6 x y=decide (x.1<y.1):=by
 unfold ltOf E6;rw[aG4];exact lg _ _
theorem Se:SWO (ltOf E6) where
 irrefl x:=by rw[lh];simp [List.lt_irrefl]
 trans x y z h1 h2:=by
  rw[lh,aFI] at*;exact List.lt_trans h1 h2
 ntrans x y z h1 h2:=by
  rw[lh,aGd,List.not_lt] at*;exact List.le_trans h2 h1
def MW (x:wJ):pW:=[.string ⟨x.1.toArray⟩,.string ⟨x.2.1.toArray⟩]
def yM:List wJ->pW
 |[]=>[]
 |x::l=> .string ⟨x.1.toArray⟩:: .string ⟨x.2.1.toArray⟩::yM l
theorem K6: ∀l:List wJ,(yM l).length=l.length*2
 |[]=>rfl
 |x::l=>by simp only[yM,aFF,K6 l];omega
theorem Sf: ∀(l:List wJ) (t:Nat),t<l.length*2->(yM l)[t]? =(MW (l.getD (t/2) default))[t%2]?
 |[],t,h=>by simp at h
 |x::l,0,_=>rfl
 |x::l,1,_=>rfl
 |x::l,t+2,h=>by
  have h':t<l.length*2:=by simp only[aFF] at h;omega
  have e1:(t+2) /2=t/2+1:=by omega
  have e2:(t+2) %2=t%2:=by omega
  rw[e1,e2];simp only[yM,aGk,List.getD_cons_succ];exact Sf l t h'
theorem Sg (l:List wJ):flatK MW 2 l.toArray=(yM l).toArray:=by
 refine ext_get! (by simp [K6]) fun t ht=>?_;have ht':t<l.length*2:=by simpa using ht
 rw[get_flatK _ _ _ t (by simpa using ht')];have hq:t<(yM l).length:=by rw[K6];exact ht'
 have h1:=Sf l t ht';have e1:(yM l).toArray[t]! =(yM l)[t]:=by simp [hq]
 rw[e1];rw[aFG hq] at h1;have e2:l.toArray[t/2]! =l.getD (t/2) default:=by simp [aFV]
 rw[e2];have h2:t%2<(MW (l.getD (t/2) default)).length:=by show _<2;omega
 rw[aFG h2] at h1;rw[getElem!_pos (MW (l.getD (t/2) default)) (t%2) h2];exact(aFE h1).symm
theorem Y7 {g:Gh}{w:q8}: ∀{l:List wJ}{xs:pW},uD (Rd g w (.pair .str (.pair .str .unit))) 2 l xs->xs=yM l
 |[],_,h=>h
 |x::l,_,⟨c1,c2,e,_,h2,h3⟩=>by
  obtain⟨d1,d2,e1,k1,d3,d4,e2,k2,k3⟩:=h2;rw[e,e1,e2,show d1=_ from k1,show d3=_ from k2,show d4=_ from k3,Y7 h3];rfl
theorem Y8 {g:Gh}{w:q8}: ∀(l:List wJ),uD (Rd g w (.pair .str (.pair .str .unit))) 2 l (yM l)
 |[]=>rfl
 |x::l=>⟨[.string ⟨x.1.toArray⟩,.string ⟨x.2.1.toArray⟩],_,rfl,rfl,⟨[_],[_],rfl,rfl,[_],[],rfl,rfl,rfl⟩,Y8 l⟩
theorem a7h (s:pW) (cur:Array q9) (h:s.length<=cur.size):(Go.Sort.putCells id 0 s.toArray cur).toList.take s.length=s:=by
 apply List.ext_getElem
 .simp [Go.Sort.putCells];omega
 intro i h1 h2;simp only[Go.Sort.putCells,List.getElem_take,Array.getElem_toList,Array.getElem_mapIdx];rw[aFz (by simp;exact h2)];simp [h2]
theorem a7i (x y:wJ) (W:q8):Calls Tryz.prog 152 #[.agg #[.string ⟨x.1.toArray⟩,.string ⟨x.2.1.toArray⟩],.agg #[.string ⟨y.1.toArray⟩,.string ⟨y.2.1.toArray⟩]] W fun e w'=>e= .returned (.int .i64 (E6 x y))/\∃q os',w'=grow (W.drewN q) os':=by
 have hcon:=fun W'=>Any.strings_Compare Tryz.lays106 ⟨x.1.toArray⟩ ⟨y.1.toArray⟩ W';change ∀W',Calls Tryz.prog 153 _ _ _ at hcon;have e0:Lib.compareBytes (⟨x.1.toArray⟩:ByteArray).data.toList (⟨y.1.toArray⟩:ByteArray).data.toList=E6 x y:=rfl;rw[e0] at hcon;generalize E6 x y=r at hcon|-
 go_enter Tryz.func152,Tryz.ntmps152
 go_wp2_with (go_at_call 153;refine(hcon _).mono ?_;rintro e w' ⟨rfl,rfl⟩)
 go_ret
 exact⟨rfl,0,_,by rw[alloc_eq_grow,alloc_eq_grow,grow_grow];rfl⟩
def vX (l:List wJ):List wJ:=(pdq (ltOf E6) l.toArray 0 l.length (Lib.bitLen l.length) true true).toList
theorem Sh (l:List wJ):PermIn 0 l.length l.toArray (vX l).toArray/\SortedIn (ltOf E6) 0 l.length (vX l).toArray:=by
 have h:=pdq_sorts (ltOf E6) Se l.toArray 0 l.length (Lib.bitLen l.length) true true (aGu _) pR (Or.inl rfl);unfold vX;exact⟨h.1,h.2⟩
theorem Y9 (l:List wJ):(vX l).length=l.length:=by
 have:=(Sh l).1.1;simpa using this
theorem a7j {g:Gh}{w:q8}{e:TypeId}{l:List wJ}{v:q9}{xs:pW}(hown:w.ownsRow 0 e 2 v l.length xs) (hF:uD (Rd g w (.pair .str (.pair .str .unit))) 2 l xs) (hn:l.length<4611686018427387904):
  Calls Tryz.prog 185 #[v,.func (.func 152) #[] #[]] w (fun en w'=>en= .returned (.tuple #[])/\w'.ownsRow 0 e 2 v l.length (yM (vX l))/\w.grownBy w' v.ownBlock):=by
 have hlen:=Y9 l;have hxs:=Y7 hF;subst hxs;obtain⟨hx,⟨rfl,h0⟩ |⟨b,cap,cur,rfl,hb0,hbk,hnc,hcm,hcs,htk⟩⟩:=hown
 .obtain rfl:l=[]:=aGD.1 h0;have e0:vX []=[]:=aGD.1 hlen;rw[e0];refine(AnyF.slices_SortFunc_none Tryz.sortFld none 0 (.func (.func 152) #[] #[]) w).mono ?_;rintro en w' ⟨rfl,rfl⟩;exact⟨rfl,⟨rfl,.inl ⟨rfl,rfl⟩⟩,rfl,rfl,rfl,aFW _,fun _ _ _=>rfl⟩
 have hbl:b<w.heap.size:=by
  rcases aGN b w.heap.size with h|h
  .exact h
  rw[Array.getElem?_eq_none h] at hbk;cases hbk
 have hfl:=K6 l;have hH:HoldsK MW 2 w b 0 l.toArray:=by
  unfold HoldsK;rw[Sg];intro j hj;have hj':j<(yM l).length:=by simpa using hj
  refine⟨?_,Lib.frozen_of_heap hbk _⟩;rw[Lib.cell_of_heap hbk,aF6];have h2:(cur.toList.take (l.length*2))[j]? =(yM l)[j]? :=by rw[htk]
  rw[aGw pP,aGF] at h2;rw[h2];simp [hj']
 have eg: ∀args w,(callFunc 152 args).run Tryz.prog w= .ok (.enter 152 args) w:=fun _ _=>rfl;refine(AnyQ.slices_SortFunc_eq Tryz.sortFld 2 Tryz.isAgg110 Tryz.sizeOf110 MW (fun _=>rfl) (fun x v hv=>by simp [MW] at hv;rcases hv with rfl|rfl<;>rfl) E6 Se 152 #[] b 0 cap l.toArray w eg (fun _ _ _ _ x y=>a7i x y _) hH hbl (by simpa using hn)).mono ?_
 rintro en w' ⟨rfl,m,os,hw⟩;have hd:pdq (ltOf E6) l.toArray 0 l.toArray.size (Lib.bitLen l.toArray.size) true true=(vX l).toArray:=by
  unfold vX;simp
 rw[hd] at hw;unfold sortWorldK putRowK at hw;rw[Sg] at hw;subst hw;have hsz:(yM (vX l)).length<=cur.size:=by rw[K6,hlen,hcs];exact aGM 2 hnc
 have hnew:(grow (putRow id (Go.Sort.ahead w m) b 0 (yM (vX l)).toArray) os).heap[b]? =some (.cells (putCells id 0 (yM (vX l)).toArray cur) e (0,0)):=by
  rw[heap_grow_old _ _ (by simpa using hbl)];simp [putRow,mapBlock,aGG,hbk,onCells]
 refine⟨rfl,⟨by rw[K6,hlen],.inr ⟨b,cap,_,rfl,hb0,hnew,hnc,hcm,?_,?_⟩⟩,rfl,rfl,rfl,by simp,fun k hk hne=>?_⟩
 .simpa[putCells] using hcs
 .have:=a7h (yM (vX l)) cur hsz;rwa [K6,hlen] at this
 rw[heap_grow_old _ _ (by simpa using hk)];have hkb:b≠k:=fun h=>hne (by rw[h];rfl);simp [putRow,mapBlock,aGG,hkb]
@[go_sem] def li:List qK->List qJ->Option qT
 |[(.own 0 n,none),(.val .clo (some (152,[])),none)],[.row e (.pair .str (.pair .str .unit)) l n2]=>some ⟨[n=n2,List.length l<4611686018427387904],[],[.row e (.pair .str (.pair .str .unit)) (vX l) n2]⟩
 |_,_=>none
theorem a7k {g:Gh}{k n:Nat}{v:q9}(h:g.cur k n=some v):g.tok k n v=g:=by
 have:(fun k' n'=>if k'=k/\n'=n then some v else g.cur k' n')=g.cur:=by
  funext k' n';split
  .rename_i e;rw[e.1,e.2,h]
  rfl
 show ({g with cur:=_}:Gh)=g
 cases g;simp only at this;simp only[this]
theorem a7l:xF Tryz.prog 185 li:=by
 refine⟨fun _ _=>rfl,fun g w args vals L r hH ha hC hs=>?_⟩;unfold li at hC;split at hC
 .rename_i n e l n2;cases hC;obtain rfl:n=n2:=hs _ pR;have hn:=hs (List.length l<4611686018427387904) pR;clear hs;obtain⟨va,_,rfl,ra,vb,_,rfl,rb,hv⟩:=ha;cases hv;obtain rfl:vb= .func (.func 152) #[] #[]:=by
   rcases rb.1 with⟨h1,_⟩ |⟨_,vs,h2,h3⟩
   .cases h1
   rw[show vs=[] from h2] at h3;simpa using h3
  have hg0:qO (r5 0 [qJ.row e (.pair .str (.pair .str .unit)) l n]) 0=some (.row e (.pair .str (.pair .str .unit)) l n):=rfl;obtain⟨hl,v,xs,hcur,hown,hF,hnone,hseal⟩:=hH.blk 0 _ hg0;subst hl;have hva:va=v:=by
   have:=ra.1.1;rw[hcur] at this;exact(aFE this).symm
  subst hva;have hlen:=Y9 l;refine(a7j hown hF hn).mono ?_;rintro en w' ⟨rfl,k1,k3⟩;have hownk: ∀b,va.ownBlock=some b->∀o,sY g (r5 0 [qJ.row e (.pair .str (.pair .str .unit)) l (List.length l)]) [0] b o:=fun b hb o=>⟨0,_,by simp,hg0,va,hcur,hb⟩;have hE:=rR.row (side:=[]) (rds:=[]) (s:=(.tup [],none)) (val:= .tuple #[]) (v:=va) (xs:=yM (vX l)) (l:=vX l) hH hlen k1 (Y8 _) hnone (fun u hu=>by rw[hcur] at hu;exact(aFE hu).symm) (.inr ⟨va.ownBlock,k3,hownk⟩) (fun b o hS=>by
   have hne:va.ownBlock≠some b:=fun e=>hseal b e o hS;exact aFY (a:=⟨b,o,none⟩) (k3.block b (hH.sl b o hS) (fun e=>hne e.symm))) hseal (fun b hb=> .inr (hownk b hb)) ⟨⟨[],rfl,rfl⟩,trivial⟩
  rw[a7k hcur] at hE;refine⟨_,g,rfl,Rn hE ?_ ?_ rfl ?_ ?_ ?_⟩
  .intro i;cases i with
   |zero=>rfl
   |succ i=>rfl
  .intro i hi;simp only[qQ,aFN,aG5,or_false] at hi;subst hi;exact Nat.zero_lt_one
  .intro i blk b o hi ho;cases i with
   |zero=>
    cases hi;obtain⟨u,hu,hub⟩:=ho;exact .inr ⟨0,_,hg0,u,hu,hub⟩
   |succ i=>cases hi
  .intro i t x ts u y us hi hi2;cases i with
   |zero=>cases hi
   |succ i=>cases hi
  exact⟨[],rfl,rfl⟩
 cases hC
end Go.Proofs.YtcpbaddnmpeipaaGreatDoor
namespace Go.Proofs.YtcpbaddnmpeipaaGreatDoor
open Vc
open Tryz
namespace Bs
noncomputable section
@[go_sem] abbrev sR:Ty:=(.pair .str (.pair .str (.pair .str (.pair (.list .str) (.pair (.list .str) (.pair (.int .i64) (.pair (.list (.pair .str (.pair .str .unit))) .unit)))))))
@[go_sem] abbrev wY:Ty:=(.pair .str (.pair (.list .str) (.pair (.list (.pair .str (.pair .str .unit))) (.pair (.list sR) .unit))))
@[go_sem] abbrev GG:Ty:=(.pair .str (.pair (.list .str) (.pair .str .unit)))
@[go_sem] abbrev wZ:Ty:=(.pair .mref (.pair (.list (.int .u8)) .unit))
abbrev r6:Type:=(pL×(pL×Unit))
abbrev sN:Type:=(pL×(pL×(pL×(pM×(pM×(Int×((List r6)×Unit)))))))
abbrev I7:Type:=(pL×(pM×(pL×Unit)))
abbrev sB:Type:=(pL×(pM×((List r6)×((List sN)×Unit))))
@[go_sem] abbrev YA:Nat×TI:=(24,⟨(.list (.pair .str (.pair .str .unit))),110,32,true,[]⟩)
theorem Si:tM prog YA.1 YA.2:=⟨qC,(show _/\_/\_ from⟨qC,qC,qC⟩)⟩
@[go_sem] abbrev BG:Nat×TI:=(110,⟨(.pair .str (.pair .str .unit)),0,1,false,[]⟩)
theorem EY:tM prog BG.1 BG.2:=⟨qC,(show ((_/\∃_,_/\_)\/_)/\_ from⟨.inl ⟨rfl,_,Tryz.underlying110,(show _/\_/\_/\_ from⟨rfl,qC,qC,(show _/\_/\_/\_ from⟨rfl,qC,qC,trivial⟩)⟩)⟩,(fun _=>⟨qC,1,pQ,(.struct rfl Tryz.underlying110 qC (.cons pQ rfl qC qC (.str Tryz.underlying9) (.cons pQ rfl qC qC (.str Tryz.underlying9) .nil)))⟩)⟩)⟩
@[go_sem] abbrev wE:Nat×TI:=(24,⟨(.list (.pair .str (.pair .str .unit))),110,32,false,[]⟩)
theorem xI:tM prog wE.1 wE.2:=⟨qC,(show _/\_/\_ from⟨qC,qC,qC⟩)⟩
theorem rI:Tryz.prog.follows .mixedOrders=true:=by kernel_rfl
@[go_sem] abbrev MX:Nat×rH:=(133,⟨[.v,.v],XW,[],[],none⟩)
theorem SC:rL prog MX:=⟨Ri,fun _ h=>by cases h⟩
@[go_sem] abbrev SD:Nat×rH:=(80,⟨[.v,.v],XX,[],[],none⟩)
theorem lj:rL prog SD:=⟨Rj,fun _ h=>by cases h⟩
@[go_sem] abbrev YB:Nat×rH:=(168,⟨[.v],XY,[],[],none⟩)
theorem Sj:rL prog YB:=⟨Rk,fun _ h=>by cases h⟩
@[go_sem] abbrev YC:Nat×rH:=(110,⟨[.v,.v],Y5,[],[],none⟩)
theorem Sk:rL prog YC:=⟨Sc,fun _ h=>by cases h⟩
@[go_sem] abbrev YD:Nat×rH:=(72,⟨[.v,.v],Y6,[],[],none⟩)
theorem Sl:rL prog YD:=⟨Sd,fun _ h=>by cases h⟩
@[go_sem] abbrev PE:Nat×rH:=(78,⟨[.p wZ [1]],XZ,[],[],none⟩)
theorem YE:rL prog PE:=⟨Ro,fun _ h=>by cases h⟩
@[go_sem] abbrev MY:Nat×rH:=(53,⟨[.p wZ [1]],Y0,[],[],none⟩)
theorem SE:rL prog MY:=⟨Rr,fun _ h=>by cases h⟩
@[go_sem] abbrev Sm:Nat×rH:=(185,⟨[.r,.v],li,[],[],none⟩)
theorem a7m:rL prog Sm:=⟨a7l,fun _ h=>by cases h⟩
@[go_sem] abbrev SF:Nat×rH:=(164,⟨[.r],Y4,[],[],none⟩)
theorem Sn:rL prog SF:=⟨Sb,fun _ h=>by cases h⟩
@[go_sem] abbrev SG:Nat×rH:=(163,⟨[.v],kr,[],[],some ku⟩)
theorem So:rL prog SG:=Rm
end
end Bs
namespace Bs
noncomputable section
def slices_AppendSeq_api_Field_api_Field_F1_step1:wJ→(List r6)→Option ((List r6)⊕(List r6)):=fun O Z=>if ((Z.length)+([O]:List r6).length)*32≤140737488355328 then some (.inl (Z++([O]:List r6))) else none
def slices_AppendSeq_api_Field_api_Field_F1 (O:(List r6)):Option (List r6):=if List.length O≤4611686018427387904 then tN (AX (slices_AppendSeq_api_Field_api_Field_F1_step1) (SB O) ([]:List r6)) fun Z=>some (Z) else none
section
variable (O:(List r6))
abbrev ll:List qK:=[(.nilS,none),(.val .clo (some (186,[(0,0)])),none)]
abbrev lm:List qJ:=[.cells (.list (.pair .str (.pair .str .unit))) O []]
@[go_sem] def ln:qT:=⟨[((slices_AppendSeq_api_Field_api_Field_F1 O)).isSome=true],[(.own 1 ((val (slices_AppendSeq_api_Field_api_Field_F1 O)).length),none)],[.cells (.list (.pair .str (.pair .str .unit))) O [],.row 110 (.pair .str (.pair .str .unit)) (val (slices_AppendSeq_api_Field_api_Field_F1 O)) ((val (slices_AppendSeq_api_Field_api_Field_F1 O)).length)]⟩
def Sp:List qK→List qJ→Option qT:=rX (V:=(List r6)) (fun x=>ll) (lm) fun x=>ln x
@[go_sem] def aDB:Sp (no_index ll) (no_index (lm O))=some (ln O):=rZ (fun a0 b0 h1 h2=>by cases h1;cases h2;rfl) O
end
@[go_sem] abbrev lp:Nat×rH:=(203,⟨[.v,.f [((.list (.pair .str (.pair .str .unit))),[])]],Sp,[],[0],none⟩)
def lq:rF prog [YA] (rG []):=⟨⟨Si,trivial⟩,rU,rI⟩
def YF:rF prog [YA,BG] (rG []):=⟨⟨Si,⟨EY,trivial⟩⟩,lq.Γ,rI⟩
def Sq:rL prog lp:=by
 refine s5 lq func203 (c:=_) rfl (N:=13) qC (ts:=[(4,none)]) rfl (fun _ _=>rfl) ?_;intro O hs hrow;dsimp only[ll,lm,ln,rV,r5,rD,rJ,rW,Nat.reduceAdd] at hs hrow|-;have hz:=hs;obtain⟨z0,d⟩:=aFB.1 hz
 try rw[sC d]
 clear hz hs;unfold slices_AppendSeq_api_Field_api_Field_F1 at d;refine qI lq ?_;refine qV (qI YF ?_);refine sA ?_;obtain⟨hgF2,d⟩:=qP d;obtain⟨y1,hy1,d⟩:=vD d;refine a63 a7c a7b qD qD hgF2 hy1 [(2,.val .ref (some (1,0)),none)] (fun Z=>[(2,.val .ref (some (1,0)),none),(5,.val .ref (some (3,0)),none)]) (fun x=>[.cells (.list (.pair .str (.pair .str .unit))) O [],.cells (.rl 110 (.pair .str (.pair .str .unit))) (some (2,(x.length))) [],.row 110 (.pair .str (.pair .str .unit)) x (x.length)]) (fun Z x=>[.cells (.list (.pair .str (.pair .str .unit))) O [],.cells (.rl 110 (.pair .str (.pair .str .unit))) (some (2,(x.length))) [],.row 110 (.pair .str (.pair .str .unit)) x (x.length),.cells (.pair .str (.pair .str .unit)) Z []]) 2 ⟨[2],[(0,0),(1,1),(2,2)]⟩ qD qD (aGT qD) qD (aGT qD) (fun _=>aGT rfl) (fun _=>by rfl) (fun _ _=>by rfl) (fun _ _=>aGT rfl) (fun _=>rfl) qD ?_ ?_
 .intro Z aA w1 e g;refine⟨?_,?_⟩
  .dsimp only[K5,Sa,uH,r5,rD,Nat.reduceAdd,List.toList_toArray];refine rP YF ?_;exact Rx ⟨[2,5],[(0,0),(1,1),(2,2),(3,3)]⟩ qD
  unfold slices_AppendSeq_api_Field_api_Field_F1_step1 at e;dsimp only[r5,rD,Nat.reduceAdd] at e|-;refine sA ?_;obtain⟨X,e⟩:=qP e;refine rP YF ?_ (hp:=by exact⟨qB,X⟩)
  refine sI ?_;cases e;exact Ry ⟨[],[(0,0),(1,1),(2,2)]⟩ _ rfl qD
 rintro aA rfl;dsimp only[r5,rD,Nat.reduceAdd] at d|-;refine sI (qS (qI YF ?_));refine qU ?_;cases d;exact pN [(0,0),(1,2)]
def slices_Collect_api_Field_api_Field_F1 (O:(List r6)):Option (List r6):=(slices_AppendSeq_api_Field_api_Field_F1 O).bind fun Z=>some (Z)
section
variable (O:(List r6))
abbrev lr:List qK:=[(.val .clo (some (186,[(0,0)])),none)]
abbrev lu:List qJ:=[.cells (.list (.pair .str (.pair .str .unit))) O []]
@[go_sem] def lv:qT:=⟨[((slices_Collect_api_Field_api_Field_F1 O)).isSome=true],[(.own 1 ((val (slices_Collect_api_Field_api_Field_F1 O)).length),none)],[.cells (.list (.pair .str (.pair .str .unit))) O [],.row 110 (.pair .str (.pair .str .unit)) (val (slices_Collect_api_Field_api_Field_F1 O)) ((val (slices_Collect_api_Field_api_Field_F1 O)).length)]⟩
def Sr:List qK→List qJ→Option qT:=rX (V:=(List r6)) (fun x=>lr) (lu) fun x=>lv x
@[go_sem] def aDC:Sr (no_index lr) (no_index (lu O))=some (lv O):=rZ (fun a0 b0 h1 h2=>by cases h1;cases h2;rfl) O
end
@[go_sem] abbrev Ss:Nat×rH:=(184,⟨[.f [((.list (.pair .str (.pair .str .unit))),[])]],Sr,[],[0],none⟩)
def Su:rF prog [wE] (rG [lp]):=⟨⟨xI,trivial⟩,qW Sq rU,rI⟩
def a7n:rF prog [] (rG [lp]):=⟨trivial,qW Sq rU,rI⟩
def a7o:rL prog Ss:=by
 refine s5 Su func184 (c:=_) rfl (N:=5) qC (ts:=[(2,none)]) rfl (fun _ _=>rfl) ?_;intro O hs hrow;dsimp only[lr,lu,lv,rV,r5,rD,rJ,rW,Nat.reduceAdd] at hs hrow|-;have hz:=hs;obtain⟨z0,d⟩:=aFB.1 hz
 try rw[sC d]
 clear hz hs;unfold slices_Collect_api_Field_api_Field_F1 at d;refine qI Su ?_;obtain⟨Z,hv1,hw1,d⟩:=rQ d
 try simp only[go_sem] at hw1
 refine qI a7n ?_ (hp:=by exact⟨qB,(rO hv1)⟩) (h:=by simp only[go_sem,hw1];rfl)
 refine qU ?_;cases d;exact pN [(0,0),(1,66)]
def Sv (O:(List r6)):Unit:=()
section
variable (O:(List r6))
abbrev lw:List qK:=[(.val (.list (.pair .str (.pair .str .unit))) O,none)]
abbrev lx:List qJ:=[]
@[go_sem] def ly:qT:=⟨[],[(.val .clo (some (186,[(0,0)])),none)],[.cells (.list (.pair .str (.pair .str .unit))) O []]⟩
def Sw:List qK→List qJ→Option qT:=rX (V:=(List r6)) (lw) (fun x=>lx) fun x=>ly x
@[go_sem] def aDD:Sw (no_index (lw O)) (no_index lx)=some (ly O):=rZ (fun a0 b0 h1 h2=>by cases h1;cases h2;rfl) O
end
@[go_sem] abbrev Sx:Nat×rH:=(151,⟨[.v],Sw,[],[],none⟩)
def lz:rF prog [wE] (rG []):=⟨⟨xI,trivial⟩,rU,rI⟩
def a7p:rL prog Sx:=by
 refine s5 lz func151 (c:=_) rfl (N:=4) qC (ts:=[(2,none)]) rfl (fun _ _=>rfl) ?_;intro O hs hrow;dsimp only[lw,lx,ly,rV,r5,rD,rJ,rW,Nat.reduceAdd] at hs hrow|-;obtain⟨z0,d⟩: ∃z,(Sv O)=z:=⟨_,rfl⟩
 try rw[d]
 unfold Sv at d;refine qI lz ?_;refine qI lz ?_;refine qU ?_;cases d;exact pN [(0,0)]
def slices_SortedFunc_api_Field_api_Field_F1_blocks_sortedF1 (O:(List r6)):Option ((List r6)×Nat):=(slices_Collect_api_Field_api_Field_F1 O).bind fun Z=>if List.length Z<4611686018427387904 then some (((vX Z),(Z.length))) else none
section
variable (O:(List r6))
abbrev ma:List qK:=[(.val .clo (some (186,[(0,0)])),none),(.val .clo (some (152,[])),none)]
abbrev mb:List qJ:=[.cells (.list (.pair .str (.pair .str .unit))) O []]
@[go_sem] def mc:qT:=⟨[((slices_SortedFunc_api_Field_api_Field_F1_blocks_sortedF1 O)).isSome=true],[(.own 1 ((val (slices_SortedFunc_api_Field_api_Field_F1_blocks_sortedF1 O)).2),none)],[.cells (.list (.pair .str (.pair .str .unit))) O [],.row 110 (.pair .str (.pair .str .unit)) ((val (slices_SortedFunc_api_Field_api_Field_F1_blocks_sortedF1 O)).1) ((val (slices_SortedFunc_api_Field_api_Field_F1_blocks_sortedF1 O)).2)]⟩
def Sy:List qK→List qJ→Option qT:=rX (V:=(List r6)) (fun x=>ma) (mb) fun x=>mc x
@[go_sem] def aDE:Sy (no_index ma) (no_index (mb O))=some (mc O):=rZ (fun a0 b0 h1 h2=>by cases h1;cases h2;rfl) O
end
@[go_sem] abbrev Sz:Nat×rH:=(150,⟨[.f [((.list (.pair .str (.pair .str .unit))),[])],.v],Sy,[],[0],none⟩)
def SH:rF prog [wE] (rG [Ss,Sm]):=⟨⟨xI,trivial⟩,qW a7o (qW a7m rU),rI⟩
def a7q:rL prog Sz:=by
 refine s5 SH func150 (c:=_) rfl (N:=12) qC (ts:=[(4,none)]) rfl (fun _ _=>rfl) ?_;intro O hs hrow;dsimp only[ma,mb,mc,rV,r5,rD,rJ,rW,Nat.reduceAdd] at hs hrow|-;have hz:=hs;obtain⟨z0,d⟩:=aFB.1 hz
 try rw[sC d]
 clear hz hs;unfold slices_SortedFunc_api_Field_api_Field_F1_blocks_sortedF1 at d;refine qI SH ?_;obtain⟨Z,hv1,hw1,d⟩:=rQ d
 try simp only[go_sem] at hw1
 refine qI SH ?_ (hp:=by exact⟨qB,(rO hv1)⟩) (h:=by simp only[go_sem,hw1];rfl)
 obtain⟨X,d⟩:=qP d;refine qI SH ?_ (hp:=by exact⟨qB,X⟩)
 refine qI SH ?_;refine qU ?_;cases d;exact pN [(0,0),(1,66)]
def blocks_sorted (O:(List r6)):Option ((List r6)×Nat):=(slices_SortedFunc_api_Field_api_Field_F1_blocks_sortedF1 O).bind fun Z=>some ((Z.1,Z.2))
section
variable (O:(List r6))
abbrev md:List qK:=[(.val (.list (.pair .str (.pair .str .unit))) O,none)]
abbrev mf:List qJ:=[]
@[go_sem] def mg:qT:=⟨[((blocks_sorted O)).isSome=true],[(.own 0 ((val (blocks_sorted O)).2),none)],[.row 110 (.pair .str (.pair .str .unit)) ((val (blocks_sorted O)).1) ((val (blocks_sorted O)).2)]⟩
def Ta:List qK→List qJ→Option qT:=rX (V:=(List r6)) (md) (fun x=>mf) fun x=>mg x
@[go_sem] def blocks_sortedC_eq:Ta (no_index (md O)) (no_index mf)=some (mg O):=rZ (fun a0 b0 h1 h2=>by cases h1;cases h2;rfl) O
end
@[go_sem] abbrev a7r:Nat×rH:=(116,⟨[.v],Ta,[],[],none⟩)
def mh:rF prog [wE] (rG [Sx,Sz]):=⟨⟨xI,trivial⟩,qW a7p (qW a7q rU),rI⟩
def blocks_sorted_con:rL prog a7r:=by
 refine s5 mh func116 (c:=_) rfl (N:=6) qC (ts:=[(2,none)]) rfl (fun _ _=>rfl) ?_;intro O hs hrow;dsimp only[md,mf,mg,rV,r5,rD,rJ,rW,Nat.reduceAdd] at hs hrow|-;have hz:=hs;obtain⟨z0,d⟩:=aFB.1 hz
 try rw[sC d]
 clear hz hs;unfold blocks_sorted at d;refine qI mh ?_;obtain⟨Z,hv1,hw1,d⟩:=rQ d
 try simp only[go_sem] at hw1
 refine qI mh ?_ (hp:=by exact⟨qB,(rO hv1)⟩) (h:=by simp only[go_sem,hw1];rfl)
 refine qU ?_;cases d;exact pN [(0,97)]
attribute [irreducible] slices_AppendSeq_api_Field_api_Field_F1 slices_Collect_api_Field_api_Field_F1 slices_SortedFunc_api_Field_api_Field_F1_blocks_sortedF1 blocks_sorted
end
end Bs
end Go.Proofs.YtcpbaddnmpeipaaGreatDoor
section
end
namespace Go.Proofs.YtcpbaddnmpeipaaGreatDoor
open Vc Go.RowKit
open Tryz
abbrev I8:Ty:= .pair .str (.pair .str .unit)
@[go_sem] def YG (F:List wJ->Option (List wJ×Nat)):List qK->List qJ->Option qT
 |[(.own 0 n,none)],[.row 110 (.pair .str (.pair .str .unit)) l n2]=>some ⟨[n=n2,(F l).isSome=true],[(.own 1 (val (F l)).2,none)],[.dead,.row 110 (.pair .str (.pair .str .unit)) (val (F l)).1 (val (F l)).2]⟩
 |_,_=>none
theorem a7s {g g1:Gh}{w:q8}{b:Nat}{cur:Array q9}{e:TypeId}(hbk:w.heap[b]? =some (.cells cur e (0,0))) (l:List wJ) (htk:cur.toList.take (l.length*2)=yM l) (hS: ∀o,o<l.length*2->g1.S b o):
  yY (Rd g1 w I8) w g1.S 2 b 0 l:=by
 refine JW (Y8 l) (fun j u hu=>?_) (fun j hj=>?_)
 .rw[aF6,Lib.cell_of_heap hbk];have hj:j<(yM l).length:=(aFP.1 hu).1;rw[K6] at hj;rw[<-htk,aGw hj,aGF] at hu;exact hu
 rw[aF6];exact hS j hj
theorem a7t {f:FuncId}{C:List qK->List qJ->Option qT}{F:List wJ->Option (List wJ×Nat)}(h:xF prog f C)
  (hC: ∀l,C [(.val (.list I8) l,none)] []=some ⟨[(F l).isSome=true],[(.own 0 (val (F l)).2,none)],[.row 110 I8 (val (F l)).1 (val (F l)).2]⟩):xF prog f (YG F):=by
 refine⟨h.1,fun g w args vals L r hH ha hC' hs=>?_⟩;unfold YG at hC';split at hC'
 .rename_i n l n2;cases hC';obtain rfl:n=n2:=hs _ pR;have hsome:=hs ((F l).isSome=true) pR;clear hs;obtain⟨va,_,rfl,ra,hv⟩:=ha;cases hv;have hg0:qO (r5 0 [qJ.row 110 I8 l n]) 0=some (.row 110 I8 l n):=rfl;obtain⟨hl,v,xs,hcur,hown,hF,hnone,hseal⟩:=hH.blk 0 _ hg0;subst hl;have hva:va=v:=by
   have:=ra.1.1;rw[hcur] at this;exact(aFE this).symm
  subst hva;have hxs:=Y7 hF;subst hxs
  let g1:Gh:=⟨fun b o=>va.ownBlock=some b/\o<l.length*2,fun _=>none,fun _ _=>none⟩
  have hH1:sK g1 w (r5 0 []):=⟨fun _ _ h=>(by cases h),fun _ _ _ _ _ _ _ h=>(by cases h),fun b o h=>ME hown h.1,⟨hH.tab.1,fun _ _ _ _ h=>(by cases h)⟩⟩;have hrd:tD g1 w (.list I8) l va:=by
   refine .inr ⟨rfl,?_⟩;obtain⟨hx,⟨rfl,h0⟩ |⟨b,cap,cur,rfl,hb0,hbk,hnc,hcm,hcs,htk⟩⟩:=hown
   .obtain rfl:l=[]:=aGD.1 h0;exact⟨none,0,rfl,aFW _,.inl rfl⟩
   exact⟨some ⟨b,0,none⟩,cap,rfl,hnc,.inr ⟨b,0,rfl,a7s (g:=g) hbk l htk (fun o ho=>⟨rfl,ho⟩)⟩⟩
  have hcall:=h.2 g1 w [(.val (.list I8) l,none)] [va] [] _ hH1 ⟨_,_,rfl,⟨hrd,trivial⟩,rfl⟩ (hC l) (fun p hp=>by simp only[aFR] at hp;rw[hp];exact hsome);refine hcall.mono ?_;rintro en w' ⟨v',g',rfl,ho⟩;have hbel:Below w.heap.size w w':=⟨ho.fr.os,ho.fr.tape,ho.fr.output,ho.fr.size,fun b hb=>ho.fr.blk b hb fun o ⟨i,blk,h1,_⟩=>(by cases h1)⟩;have hret:rS g' w' (.own 0 (val (F l)).2,none) v':=ho.ret;have hg1:qO (r5 0 [qJ.row 110 I8 (val (F l)).1 (val (F l)).2]) 0=some (.row 110 I8 (val (F l)).1 (val (F l)).2):=rfl;obtain⟨kl,v2,xs2,kcur,kown,kF,knone,kseal⟩:=ho.heap.blk 0 _ hg1;have hv2:v2=v':=by
   have:=hret.1.1;rw[kcur] at this;exact aFE this
  subst hv2;have hxs2:=Y7 kF;subst hxs2;generalize hfl:(val (F l)).1=l' at*;generalize hfn:(val (F l)).2=n' at*;have hnewb: ∀b,v2.ownBlock=some b->w.heap.size<=b:=fun b hb=>by
   rcases ho.perm 0 _ b 0 rfl ⟨v2,kcur,hb⟩ with h1|⟨i,blk,h1,_⟩
   .exact h1
   cases h1
  have hlt: ∀b o,g.S b o->v2.ownBlock≠some b:=fun b o h e1=>by have:=hH.sl b o h;have:=hnewb b e1;omega
  have hshape:=hret.1.2;refine⟨_,GF g 1 n' v2,rfl,fun b' o h=>⟨h,aFY (a:=⟨b',o,none⟩) (hbel.block b' (hH.sl b' o h))⟩,⟨fun i blk h=>?_,fun i j bi bj b' o hij hi hj h1 h2=>?_,fun b' o h=>aF9 (hH.sl b' o h) hbel.size,JF hH.tab.1 hbel.size fun b' h=>hbel.block b' (aF9 h hH.tab.1.1),fun i blk b' o h h1=>?_⟩,
   ⟨⟨E5 ..,hshape⟩,trivial⟩,⟨hbel.os,hbel.tape,hbel.output,hbel.size,fun b hb _=>hbel.block b hb,fun b o hb _=>⟨aFY (a:=⟨b,o,none⟩) (hbel.block b hb),aGn (a:=⟨b,o,none⟩) (hbel.block b hb)⟩,fun b o hS=> .inl hS,fun b s h=> .inl ((CC (hbel.block b (CB h))).trans h)⟩,fun i blk b' o h h1=>?_,fun _ _ _ _ _=>rfl,fun i t x ts u y us h=>?_,fun i p hi h=>h,fun i q u hi h=>?_⟩
  .match i,h with
   |0,h=>cases h;trivial
   |1,h=>
    cases h;exact⟨kl,v2,_,E5 ..,kown,Y8 _,fun q hq=>lf g 1 n' _ hq,fun b' hb o hs=>hlt b' o hs hb⟩
   |i+2,h=>simp [r5,qO] at h
  .match i,j,hi,hj with
   |0,_,hi,_=>cases hi;exact h1
   |_,0,_,hj=>cases hj;exact h2
   |1,1,_,_=>exact hij rfl
   |i+2,_,hi,_=>simp [r5,qO] at hi
   |1,j+2,_,hj=>simp [r5,qO] at hj
  .match i,h with
   |0,h=>cases h;exact h1.elim
   |1,h=>
    cases h;obtain⟨v,h3,h4⟩:=h1;rw[E5] at h3;obtain rfl:=aFE h3;exact aGA hH.tab.1.1 (hnewb b' h4)
   |i+2,h=>simp [r5,qO] at h
  .match i,h with
   |0,h=>cases h;exact h1.elim
   |1,h=>
    cases h;obtain⟨v,h3,h4⟩:=h1;rw[E5] at h3;obtain rfl:=aFE h3;exact .inl (hnewb b' h4)
   |i+2,h=>simp at h
  .match i,h with
   |0,h=>cases h
   |i+1,h=>simp at h
  match i,hi with
  |0,_=>simpa[GF] using h
 cases hC'
theorem a7u:xF prog 116 (YG Bs.blocks_sorted):=
 a7t Bs.blocks_sorted_con.1 (fun l=>Bs.blocks_sortedC_eq l)
end Go.Proofs.YtcpbaddnmpeipaaGreatDoor
namespace Go.Proofs.YtcpbaddnmpeipaaGreatDoor.Vc
open Go.RowKit
section
variable {P:Program}{R:Bool}
theorem a7v {c:Code}{s:St}{Q:Ex->St->Prop}(env':List (Nat×qK)) (h0: ∀(g:Gh) (w:q8) (i:Nat) (v:q9),rS g w (lk s.env i) v->rS g w (lk env' i) v)
  (h:Ev R P c ⟨env',s.H,s.nb,s.N,s.np⟩ Q):Ev R P c s Q:=by
 intro ro hro A L g0 w0 g a w B hB hr hg hn;exact h ro hro A L g0 w0 g a w B hB ⟨fun i=>h0 _ _ _ _ (hr.env i),hr.heap,hr.size,hr.nb,hr.def_,hr.np⟩ hg hn
@[go_sem] def YH:qK->qK
 |(.val .clo (some (f,[])),_)=>(.val .fn (some f),none)
 |(.val .clo none,_)=>(.val .fn none,none)
 |s=>s
@[go_sem] def SI (i:Nat):List (Nat×qK)->List (Nat×qK)
 |[]=>[]
 |(j,s)::r=>(j,if j=i then YH s else s)::SI i r
theorem Tb {i:Nat}: ∀{env:List (Nat×qK)}{j:Nat},lk (SI i env) j=if j=i then YH (lk env j) else lk env j
 |[],j=>by simp only[SI,lk];split<;>rfl
 |(k,s)::r,j=>by
  simp only[SI,lk];split
  .rename_i h;subst h;rfl
  exact Tb
theorem a7w {g:Gh}{w:q8}{s:qK}{v:q9}(h:rS g w s v):rS g w (YH s) v:=by
 unfold YH;split
 .rename_i f k;refine⟨?_,trivial⟩;rcases h.1 with⟨h1,_⟩ |⟨_,vs,h2,h3⟩
  .cases h1
  rw[show vs=[] from h2] at h3;exact .inr ⟨rfl,h3⟩
 .rename_i k;refine⟨?_,trivial⟩;rcases h.1 with⟨h1,_⟩ |⟨_,h2⟩
  .cases h1
  exact .inr ⟨rfl,h2⟩
 exact h
theorem Tc {c:Code}{s:St}{Q:Ex->St->Prop}(i:Nat) (h:Ev R P c ⟨SI i s.env,s.H,s.nb,s.N,s.np⟩ Q):Ev R P c s Q:=by
 refine a7v _ (fun g w j v hv=>?_) h;rw[Tb];split
 .exact a7w hv
 exact hv
@[go_sem] def Td (q:Nat×(Nat×Nat)×(Nat×Nat)):Nat×Nat×(Nat×Nat)×(Nat×Nat)->Nat×Nat×(Nat×Nat)×(Nat×Nat)
 |(0,_)=>(0,q)
 |(n+1,x)=>(n+1,x)
@[go_sem] def D2 (q:Nat×(Nat×Nat)×(Nat×Nat)):(t:Ty)->t.den->t.den
 | .ap,x=>Td q x
 | .pair a b,x=>(D2 q a x.1,D2 q b x.2)
 | .bool,x=>x
 | .int _,x=>x
 | .str,x=>x
 | .list _,x=>x
 | .unit,x=>x
 | .ref,x=>x
 | .clo,x=>x
 | .mp,x=>x
 | .mref,x=>x
 | .fn,x=>x
 | .rl _ _,x=>x
theorem a7x {g:Gh}{w:q8}{q:Nat×(Nat×Nat)×(Nat×Nat)}: ∀{x:Nat×Nat×(Nat×Nat)×(Nat×Nat)}{cs:pW},G8 g w x cs->G8 g w (Td q x) cs
 |(0,i,(k3,n3),(k4,n4)),cs,h=>by
  obtain⟨a,⟨b1,b2⟩,d1,d2⟩:=q;rcases h with⟨_,h⟩ |⟨h,_⟩
  .exact .inl ⟨rfl,h⟩
  .exact absurd rfl h
 |(n+1,x),cs,h=>h
theorem mi {g:Gh}{w:q8}{q:Nat×(Nat×Nat)×(Nat×Nat)}: ∀{t:Ty}{x:t.den}{cs:pW},Rd g w t x cs->Rd g w t (D2 q t x) cs
 | .ap,_,_,h=>a7x h
 | .pair a b,x,cs,⟨c1,c2,e,h1,h2⟩=>⟨c1,c2,e,mi h1,mi h2⟩
 | .bool,_,_,h=>h
 | .int _,_,_,h=>h
 | .str,_,_,h=>h
 | .list _,_,_,h=>h
 | .unit,_,_,h=>h
 | .ref,_,_,h=>h
 | .clo,_,_,h=>h
 | .mp,_,_,h=>h
 | .mref,_,_,h=>h
 | .fn,_,_,h=>h
 | .rl _ _,_,_,h=>h
theorem SJ (q:Nat×(Nat×Nat)×(Nat×Nat)) (u:Ty): ∀(t:Ty) (x:t.den) (o:Nat),rE (.list u) t (D2 q t x) o=rE (.list u) t x o
 | .pair a b,x,0=>by
  have h: ¬(Ty.pair a b= .list u):=fun h=>by cases h
  unfold rE;rw[aG3 h,aG3 h];show (if 0<a.cells then rE (.list u) a (D2 q a x.1) 0 else rE (.list u) b (D2 q b x.2) 0)=_;rw[SJ q u a x.1 0,SJ q u b x.2 0]
 | .pair a b,x,o+1=>by
  show (if o+1<a.cells then rE (.list u) a (D2 q a x.1) (o+1) else rE (.list u) b (D2 q b x.2) (o+1-a.cells))=_;rw[SJ q u a x.1 (o+1),SJ q u b x.2 (o+1-a.cells)];rfl
 | .ap,x,0=>by
  have h: ¬(Ty.ap= .list u):=fun h=>by cases h
  unfold rE;rw[aG3 h,aG3 h]
 | .ap,x,o+1=>rfl
 | .bool,_,_=>rfl
 | .int _,_,_=>rfl
 | .str,_,_=>rfl
 | .list _,_,_=>rfl
 | .unit,_,_=>rfl
 | .ref,_,_=>rfl
 | .clo,_,_=>rfl
 | .mp,_,_=>rfl
 | .mref,_,_=>rfl
 | .fn,_,_=>rfl
 | .rl _ _,_,_=>rfl
@[go_sem] def Te (q:Nat×(Nat×Nat)×(Nat×Nat)) (i:Nat):Option qJ->List (Nat×qJ)->List (Nat×qJ)
 |some (.cells t x ts),H=>(i,.cells t (D2 q t x) ts)::H
 |_,H=>H
@[go_sem] def PF (i:Nat) (q:Nat×(Nat×Nat)×(Nat×Nat)) (s:St):St:=⟨s.env,Te q i (qO s.H i) s.H,s.nb,s.N,s.np⟩
theorem Tf {B:Nat}{A:Nat->Nat->Prop}{L:List qJ}{g0 g:Gh}{w0 w:q8}{s:St}{a:Act}(hr:vB B g w s a) (hg:tJ A L g0 w0 g w s.H) (i:Nat) (q:Nat×(Nat×Nat)×(Nat×Nat)):
  vB B g w (PF i q s) a/\tJ A L g0 w0 g w (PF i q s).H:=by
 unfold PF;cases hb:qO s.H i with
 |none=>exact⟨hr,hg⟩
 |some blk=>
  cases blk with
  |cells t x ts=>
   simp only[Te];have hget: ∀j b,qO ((i,qJ.cells t (D2 q t x) ts)::s.H) j=some b->(j=i/\b= .cells t (D2 q t x) ts)\/(j≠i/\qO s.H j=some b):=by
    intro j b hjb;simp only[qO] at hjb;split at hjb
    .rename_i e1;exact .inl ⟨e1.symm,(aFE hjb).symm⟩
    rename_i e1;exact .inr ⟨Ne.symm e1,hjb⟩
   have howns: ∀j b bb o,qO ((i,qJ.cells t (D2 q t x) ts)::s.H) j=some b->sH g j b bb o->∃b0,qO s.H j=some b0/\sH g j b0 bb o:=by
    intro j b bb o hj ho;rcases hget j b hj with⟨rfl,rfl⟩ |⟨_,h1⟩
    .exact⟨_,hb,ho⟩
    exact⟨b,h1,ho⟩
   refine⟨⟨hr.env,⟨fun j b hj=>?_,fun j k bj bk b o hjk h1 h2 o1 o2=>?_,hr.heap.sl,hr.heap.tab.1,fun j blk b o hj ho=>?_⟩,hr.size,hr.nb,hr.def_,hr.np⟩,⟨hg.shut,hg.fr,fun j b bb o hj ho=>?_,hg.J,hg.live,fun j u y us hj hb'=>?_,hg.cur⟩⟩
   .rcases hget j b hj with⟨rfl,rfl⟩ |⟨_,h1⟩
    .obtain⟨p,cs,h1,h2,h3,h4,h5,h6⟩:=hr.heap.blk j _ hb;refine⟨p,cs,h1,mi h2,h3,h4,h5,fun o k hk=>?_⟩;obtain⟨u,l,v,k1,k2,k3⟩:=h6 o k hk;exact⟨u,l,v,(SJ q u t x o).trans k1,k2,k3⟩
    exact hr.heap.blk j b h1
   .obtain⟨c1,k1,k2⟩:=howns j bj b o h1 o1;obtain⟨c2,k3,k4⟩:=howns k bk b o h2 o2;exact hr.heap.dis j k c1 c2 b o hjk k1 k3 k2 k4
   .obtain⟨c1,k1,k2⟩:=howns j blk b o hj ho;exact hr.heap.tab.2 j c1 b o k1 k2
   .obtain⟨c1,k1,k2⟩:=howns j b bb o hj ho;exact hg.perm j c1 bb o k1 k2
   .rcases hget j _ hb' with⟨rfl,h1⟩ |⟨_,h1⟩
    .cases h1;exact hg.ty j t x ts hj hb
    .exact hg.ty j u y us hj h1
  |_=>exact⟨hr,hg⟩
theorem a7y {c:Code}{s:St}{Q:Ex->St->Prop}(i:Nat) (q:Nat×(Nat×Nat)×(Nat×Nat)) (h:Ev R P c (PF i q s) Q):Ev R P c s Q:=by
 intro ro hro A L g0 w0 g a w B hB hr hg hn;obtain⟨h1,h2⟩:=Tf hr hg i q;exact h ro hro A L g0 w0 g a w B hB h1 h2 hn
theorem Tg {c:Code}{s:St}{Q:Ex->St->Prop}(i:Nat) (q:Nat×(Nat×Nat)×(Nat×Nat)) (h:Ev R P c s (fun e s=>Q e (PF i q s))):Ev R P c s Q:=by
 intro ro hro A L g0 w0 g a w B hB hr hg hn;refine aHl (h ro hro A L g0 w0 g a w B hB hr hg hn) fun x a' w' hp=>?_;obtain⟨e,g',s',h1,h2,h3,h4,h5⟩:=hp;obtain⟨k1,k2⟩:=Tf h3 h4 i q;exact⟨e,g',_,h1,h2,k1,k2,h5⟩
theorem zV {c:Code}{s:St}{Q:Ex->St->Prop}(i:Nat) (q:Nat×(Nat×Nat)×(Nat×Nat)) {t:Ty}{x x2:t.den}{ts:pU}(hb:qO s.H i=some (.cells t x ts)) (hx:D2 q t x=x2)
  (h:Ev R P c ⟨s.env,(i,.cells t x2 ts)::s.H,s.nb,s.N,s.np⟩ Q):Ev R P c s Q:=by
 refine a7y i q ?_;unfold PF;rw[hb];subst hx;exact h
end
def sG (e:TypeId) (t:Ty) (o:Option (List t.den)) (n:Nat):qJ:=match o with
 |some l=> .row e t l n
 |none=> .grow e t.cells n
@[go_sem high] theorem aDF (e:TypeId) (t:Ty) (l:List t.den) (n:Nat):sG e t (some l) n= .row e t l n:=rfl
@[go_sem high] theorem aDG (e:TypeId) (t:Ty) (n:Nat):sG e t none n= .grow e t.cells n:=rfl
theorem AY {e:TypeId}{t:Ty}{o o2:Option (List t.den)}{n n2:Nat}(h:sG e t o n=sG e t o2 n2):o=o2/\n=n2:=by
 cases o<;>cases o2<;>simp only[sG] at h<;>cases h<;>exact⟨rfl,rfl⟩
@[go_sem high] theorem a7z {e:TypeId}{t:Ty}(ht:t.pure=true) (k n:Nat) (a:t8) (o:Option (List t.den)) (m:Nat):
  yB k n a (some (sG e t o m))=if (!AP k (sM a.ws))=true then some ⟨(.own a.n n,none)::a.args,sG e t o m::a.H,.tok k::a.ws,a.n+1⟩ else none:=by
 cases o<;>simp [sG,yB,ht]
@[go_sem high] theorem aDH (W:List rT) (e:TypeId) (t:Ty) (o:Option (List t.den)) (n:Nat):LQ W (sG e t o n)=some (sG e t o n):=by
 cases o<;>rfl
@[go_sem high] theorem a7A (base m c:Nat) (W:List rT) {e:TypeId}{t:Ty}(ht:t.pure=true) (o:Option (List t.den)) (n:Nat):yW base m c W (sG e t o n)=some (base+c,sG e t o n):=by
 cases o<;>simp [sG,yW,ht]
@[go_sem high] theorem a7B (k:Nat) {e:TypeId}{t:Ty}(ht:t.pure=true) (o:Option (List t.den)) (n:Nat):wR k (sG e t o n)=some (k,sG e t o n):=by
 cases o<;>simp [sG,wR,ht]
@[go_sem high] theorem a7C (m:pU) {e:TypeId}{t:Ty}(ht:t.pure=true) (o:Option (List t.den)) (n:Nat):zT m (some (sG e t o n))=sG e t o n:=by
 cases o<;>simp [sG,zT,ht]
theorem AZ {α β:Type}{o:Option α}{f:α->Option β}{y:β}(h:o.bind f=some y): ∃x,o=some x/\f x=some y:=by
 cases o with
 |none=>cases h
 |some x=>exact⟨x,rfl,h⟩
theorem B0 {P:Program}{R:Bool}{c:Code}{s:St}{Q:Ex->St->Prop}(k:Nat) {e:TypeId}{t:Ty}{l:List t.den}{n:Nat}(hk:qO s.H k=some (.row e t l n)) (h:l.length=n->Ev R P c s Q):Ev R P c s Q:=by
 intro ro hro A L g0 w0 g a w B hB hr hg hn;exact h (hr.heap.blk k _ hk).1 ro hro A L g0 w0 g a w B hB hr hg hn
@[go_sem high] theorem aDI (m:pU) (e:TypeId) (o:Option (List (Ty.str.den))) (n:Nat):zT m (some (sG e .str o n))=sG e .str o n:=a7C m rfl o n
@[go_sem high] theorem aDJ (e:TypeId) (k n:Nat) (a:t8) (o:Option (List (Ty.str.den))) (m:Nat):
  yB k n a (some (sG e .str o m))=if (!AP k (sM a.ws))=true then some ⟨(.own a.n n,none)::a.args,sG e .str o m::a.H,.tok k::a.ws,a.n+1⟩ else none:=a7z rfl k n a o m
@[go_sem high] theorem aDK (base m c:Nat) (W:List rT) (e:TypeId) (o:Option (List (Ty.str.den))) (n:Nat):yW base m c W (sG e .str o n)=some (base+c,sG e .str o n):=a7A base m c W rfl o n
@[go_sem high] theorem aDL (k:Nat) (e:TypeId) (o:Option (List (Ty.str.den))) (n:Nat):wR k (sG e .str o n)=some (k,sG e .str o n):=a7B k rfl o n
theorem K7 {m:pU}{e:TypeId}{t:Ty}{o:Option (List t.den)}{n:Nat}{r:List qJ}(ht:t.pure=true) (h:MS m r):MS m (sG e t o n::r):=by
 cases o with
 |none=>exact⟨rfl,h⟩
 |some l=>exact⟨by simp [sG,zT,ht],h⟩
attribute [go_sem] bu
end Go.Proofs.YtcpbaddnmpeipaaGreatDoor.Vc
namespace Go.Proofs.YtcpbaddnmpeipaaGreatDoor
open Vc Go.RowKit
open Tryz
theorem a7D (w:q8) (p:Option Addr):Calls prog JE #[.pointer p] w fun e w'=> ∃b,e= .returned (.func (.func JD) #[] #[.pointer (some ⟨b,0,none⟩)])/\w.heap.size<=b/\b<w'.heap.size/\w'.cell? ⟨b,0,none⟩=some (.pointer p)/\Below w.heap.size w w':=by
 show Calls prog 155 #[.pointer p] w _
 go_enter func155,Tryz.ntmps155
 go_wp2
 go_ret
 refine⟨w.heap.size,rfl,aFW _,by simp,?_,(Below.refl _ _).alloc (aFW _) _⟩;exact Lib.cell_of_heap (World.alloc_heap_new w _) 0
theorem a7E (w:q8) (b:Nat) (α:Addr) (y s:pL) (ok:Bool) (hb:w.cell? ⟨b,0,none⟩=some (.pointer (some α))) (hy:w.cell? α=some (.string ⟨y.toArray⟩)) (hf:w.frozen? α=false) (hsp:α.spot=none)
  (hl:((y++s).length:Int)<=9223372036854775807) (hV: ∀w1,Below w.heap.size w w1->Calls prog HE #[.string ⟨(y++s).toArray⟩] w1 fun e w'=>e= .returned (.bool ok)/\Below w1.heap.size w1 w'):
  Calls prog JD #[.string ⟨s.toArray⟩,.pointer (some ⟨b,0,none⟩)] w fun e w'=>e= .returned (.bool ok)/\∃w1,Below w.heap.size w w1/\w'=if ok=true then w1.setCells α.block α.off [.string ⟨(y++s).toArray⟩] else w1:=by
 show Calls prog 188 #[.string ⟨s.toArray⟩,.pointer (some ⟨b,0,none⟩)] w _;obtain⟨ab,ao,asp⟩:=α;obtain rfl:asp=none:=hsp;have hext:((⟨y.toArray⟩:ByteArray)++⟨s.toArray⟩)=⟨(y++s).toArray⟩:=by
  apply ByteArray.ext;simp
 have hVw:=hV w (Below.refl _ _);have hbb:b<w.heap.size:=World.block_lt_of_cell? _ _ hb;have hab:ab<w.heap.size:=World.block_lt_of_cell? _ _ hy;clear hV;cases ok
 .go_enter func188,Tryz.ntmps188
  go_wp2_with (go_at_call 98;refine hVw.mono ?_;rintro e w' ⟨rfl,hbl⟩)
  all_goals first
   |(exfalso;simp at hl;omega)
   |(go_ret;exact⟨rfl,hbl⟩)
 go_enter func188,Tryz.ntmps188
 go_wp2_with (go_at_call 98;refine hVw.mono ?_;rintro e w' ⟨rfl,hbl⟩;have hb':=(aFY (a:=⟨b,0,none⟩) (hbl.block b hbb)).trans hb;have hy':=(aFY (a:=⟨ab,ao,none⟩) (hbl.block ab hab)).trans hy;have hf':=(hbl.frozen (p:=⟨ab,ao,none⟩) hab).trans hf)
 all_goals first
  |(exfalso;simp at hl;omega)
  |(go_ret;exact⟨rfl,_,hbl,rfl⟩)
theorem a7F:Lm prog:=⟨a7D,fun _ _=>rfl,fun _ _=>rfl,a7E⟩
end Go.Proofs.YtcpbaddnmpeipaaGreatDoor
namespace Go.Proofs.YtcpbaddnmpeipaaGreatDoor
open Tryz
section
open Go.Shelf Go.RowKit Go.Lib
variable {P:Program}{ρ:Ren}
def yN:ByteArray:=⟨#[32,9,34]⟩
theorem a7G {r:Int}(h0:128<=r) (h1:r<=1114111) (hv:r<55296\/57343<r): ∃n,1<=n/\n<=3/\(Utf8.encode r).size=n+1/\∃b:UInt8,(Utf8.encode r).data.toList[n]? =some b/\128<=b.toNat:=by
 have hval:Utf8.valid r=true:=by
  unfold Utf8.valid;simp;omega
 have hb: ∀k:Nat,k<64->128<=(UInt8.ofNat (0x80+k)).toNat:=fun k hk=>by
  rw[UInt8.toNat_ofNat'];omega
 unfold Utf8.encode;simp only[hval,aHb];have ha: ¬r.toNat<0x80:=by omega
 rw[aFA ha];by_cases h2:r.toNat<0x800
 .rw[aFz h2];exact⟨1,pP,pP,rfl,_,rfl,hb _ pP⟩
 rw[aFA h2];by_cases h3:r.toNat<0x10000
 .rw[aFz h3];exact⟨2,pP,pP,rfl,_,rfl,hb _ pP⟩
 rw[aFA h3];exact⟨3,pP,pP,rfl,_,rfl,hb _ pP⟩
set_option maxRecDepth 1000000 in
theorem AnyL.IndexRune_err (L:Lays.n152 P ρ) (w:q8):
  Calls P (ρ.f 152) #[.string yN,.int .i32 65533] w fun e w'=>e= .returned (.int .i64 (-1))/\Below w.heap.size w w':=by
 have t3:=L.t3;have a3:=L.a3;have z3:=L.z3;have v3:=L.v3;have t4:=L.t4;have a4:=L.a4;have z4:=L.z4;have v4:=L.v4;have t5:=L.t5;have a5:=L.a5;have z5:=L.z5;have v5:=L.v5;have t9:=L.t9;have a9:=L.a9;have z9:=L.z9;have v9:=L.v9;have t21:=L.t21;have a21:=L.a21;have z21:=L.z21;have v21:=L.v21
 go_enter L.f152,Body.n152_ntmps ρ
 go_wp2
 go_loopg [5,6] 3 (fun g _ _ wx=> ∃i:Nat,i+g=3/\wx=w.iter yN i)
 case atStart=>exact⟨0,pP,rfl⟩
 case round=>
  obtain⟨i,hig,rfl⟩:=hrel;cases gk with
  |zero=>
   obtain rfl:i=3:=by omega
   have hnx:=fun ty=>run_next_end (P:=P) w yN 3 ty pQ
   go_wp2
   go_ret
   exact⟨rfl,(Below.refl _ _).alloc (aFW _) _⟩
  |succ g=>
   have hi:i<yN.size:=by show i<3;omega
   obtain⟨x,hx⟩: ∃x:UInt8,yN[i]'hi=x:=⟨_,rfl⟩;have hx128:x.toNat<128:=by
    have:i=0\/i=1\/i=2:=by omega
    rcases this with rfl|rfl|rfl<;>rw[<-hx]
    .exact(by decide:(32:UInt8).toNat<128)
    .exact(by decide:(9:UInt8).toNat<128)
    exact(by decide:(34:UInt8).toNat<128)
   have hxe:(((x.toNat:Nat):Int)==65533)=false:=beq_eq_false_iff_ne.2 pP;have hnx:=fun ty=>run_next_ascii (P:=P) w yN i ty hi (by rw[hx];exact hx128);rw[hx] at hnx;clear hx
   go_wp2
   go_roundg g
   case measure=>omega
   case rel=>exact⟨i+1,pP,rfl⟩
set_option maxRecDepth 1000000 in
theorem AnyL.IndexRune_big (L:Lays.n152 P ρ) (w:q8) (r:Int) (h0:128<=r) (h1:r<=1114111) (hv:r<55296\/57343<r) (hne:r≠65533):
  Calls P (ρ.f 152) #[.string yN,.int .i32 r] w fun e w'=>e= .returned (.int .i64 (-1))/\Below w.heap.size w w':=by
 have t3:=L.t3;have a3:=L.a3;have z3:=L.z3;have v3:=L.v3;have t4:=L.t4;have a4:=L.a4;have z4:=L.z4;have v4:=L.v4;have t5:=L.t5;have a5:=L.a5;have z5:=L.z5;have v5:=L.v5;have t9:=L.t9;have a9:=L.a9;have z9:=L.z9;have v9:=L.v9;have t21:=L.t21;have a21:=L.a21;have z21:=L.z21;have v21:=L.v21;have e137: ∀args w,(callFunc (ρ.f 137) args).run P w= .ok (.enter (ρ.f 137) args) w:=enters_of L.f137 qC rfl;have e119: ∀args w,(callFunc (ρ.f 119) args).run P w= .ok (.enter (ρ.f 119) args) w:=enters_of L.f119 qC rfl;have hval:Lib.validRune r=true:=by unfold Lib.validRune;simp;omega
 obtain⟨n,hn1,hn3,hsz,b,hb,hb128⟩:=a7G h0 h1 hv;have hcv: ∀w,(convert (ρ.t 21) (ρ.t 9) (.int .i32 r)).run P w= .ok (.string (Utf8.encode r)) w:=fun w=>run_convert_int_string w _ _ .i32 r (by rw[t21];rfl) t9;generalize Utf8.encode r=rs at hsz hb hcv;have hsz':(rs.size:Int)=n+1:=by omega
 have hbn: ∀h,rs[n]'h=b:=fun h=>by
  have:=Lib.data_getElem? rs n h;rw[hb] at this;exact(aFE this).symm
 have hne9:((9:Int)==(b.toNat:Int))=false:=beq_eq_false_iff_ne.2 pP;have hne34:((34:Int)==(b.toNat:Int))=false:=beq_eq_false_iff_ne.2 pP;have hix: ∀w,(Instr.index (ρ.t 9) (.string rs) (.int .i64 (n:Int))).run P w= .ok (.int .u8 (b.toNat:Int)) w:=fun w=>by
  rw[run_index_string _ _ _ _ _ t9];rw[aHB pP];simp [hbn]
 have hl1: ∀w,(Instr.index (ρ.t 9) (.string yN) (.int .i64 1)).run P w= .ok (.int .u8 9) w:=fun w=>by
  rw[run_index_string _ _ _ _ _ t9];rfl
 have hl2: ∀w,(Instr.index (ρ.t 9) (.string yN) (.int .i64 2)).run P w= .ok (.int .u8 34) w:=fun w=>by
  rw[run_index_string _ _ _ _ _ t9];rfl
 have hls:(yN.size:Int)=3:=rfl;clear hb
 go_enter L.f152,Body.n152_ntmps ρ
 go_wp2_with (go_at_fn (ρ.f 119);refine(Any.utf8_ValidRune {L with} _ _).mono ?_;rintro e w' ⟨rfl,hw⟩;rw[hw,hval])
 have mixed:=L.mixed;obtain rfl|rfl|rfl:n=1\/n=2\/n=3:=by omega
 .have hq:((9:Int) != ((rs[1]'pP).toNat:Int))=true:=by rw[hbn];exact bne_iff_ne.2 pP
  have hneg:Lib.indexByte (List.take (yN.size-2) (List.drop 2 yN.data.toList)) b= -1:=by
   have hz: ∀x:UInt8,x.toNat<128->(x==b)=false:=fun x hx=>beq_eq_false_iff_ne.2 fun e=>by rw[e] at hx;omega
   first|rfl|(show Lib.indexByte [34] b= -1;simp [Lib.indexByte,hz 34 pQ])
  go_step3
  go_wp2
  refine wp_loop_rounds 1 ?_;rw[rounds_succ]
  go_wp2
  go_step3
  go_wp2
  go_region_o
  all_goals
   go_wp2
   go_region_with_o (go_at_fn (ρ.f 137);refine(Any.strings_IndexByte {L with} _ _ _).mono ?_;rintro e w' ⟨rfl,hw⟩;rw[hw])
   all_goals
    go_wp2
    simp only[Exit.noGoto_ret,go_sem]
    go_ret
    exact⟨rfl,by go_grown⟩
 .have hq:((34:Int) != ((rs[2]'pP).toNat:Int))=true:=by rw[hbn];exact bne_iff_ne.2 pP
  have hneg:Lib.indexByte (List.take (yN.size-3) (List.drop 3 yN.data.toList)) b= -1:=by
   have hz: ∀x:UInt8,x.toNat<128->(x==b)=false:=fun x hx=>beq_eq_false_iff_ne.2 fun e=>by rw[e] at hx;omega
   first|rfl|(show Lib.indexByte [34] b= -1;simp [Lib.indexByte,hz 34 pQ])
  go_step3
  go_wp2
  refine wp_loop_rounds 1 ?_;rw[rounds_succ]
  go_wp2
  go_step3
  go_wp2
  go_region_o
  all_goals
   go_wp2
   go_region_with_o (go_at_fn (ρ.f 137);refine(Any.strings_IndexByte {L with} _ _ _).mono ?_;rintro e w' ⟨rfl,hw⟩;rw[hw])
   all_goals
    go_wp2
    simp only[Exit.noGoto_ret,go_sem]
    go_ret
    exact⟨rfl,by go_grown⟩
 go_step3
 go_wp2
 refine wp_loop_rounds 1 ?_;rw[rounds_succ]
 go_wp2
 simp only[Exit.noGoto_ret]
 go_ret
 exact⟨rfl,Below.refl _ _⟩
theorem Th {s:ByteArray}{j:Nat}{b:UInt8}(h:s.data.toList[j]? =some b):s.get! j=b:=by
 rw[aGF] at h;show s.data[j]! =b;rw[getElem!_def,h]
theorem a7H (s:ByteArray) (i:Nat) (hi:i<s.size) (hb:128<=(s.get! i).toNat): ∃c k:Nat,Utf8.decode s i=(c,k)/\1<=k/\i+k<=s.size/\128<=c/\c<=1114111/\(c<55296\/57343<c)/\
  ∀j,i<=j->j<i+k->128<=(s.get! j).toNat:=by
 have one: ∀j,i<=j->j<i+1->128<=(s.get! j).toNat:=fun j h1 h2=>by
  obtain rfl:j=i:=by omega
  exact hb
 have e65: ∀r,r=(Utf8.runeError,1)->∃c k:Nat,r=(c,k)/\1<=k/\i+k<=s.size/\128<=c/\c<=1114111/\(c<55296\/57343<c)/\∀j,i<=j->j<i+k->128<=(s.get! j).toNat:=
  fun r hr=>⟨65533,1,hr,pP,pP,pP,pP,pP,one⟩
 have hval: ∀c:Nat,Utf8.valid (c:Int)=true->c<=1114111/\(c<55296\/57343<c):=fun c h=>by
  unfold Utf8.valid at h;simp only[aGU,aFL,aFI] at h;omega
 unfold Utf8.decode;simp only[aGK,aFL,aFI,aHc];rw[aFA pP];by_cases h2:(s.get! i).toNat/32=6/\i+1<s.size/\(s.get! (i+1)).toNat/64=2
 .rw[aFz h2];obtain⟨h2,h3,h4⟩:=h2;split
  .refine⟨_,2,rfl,pP,pP,pP,pP,pP,fun j h5 h6=>?_⟩;obtain rfl|rfl:j=i\/j=i+1:=by omega
   .exact hb
   omega
  exact e65 _ rfl
 rw[aFA h2];by_cases h3:((s.get! i).toNat/16=14/\i+1<s.size/\(s.get! (i+1)).toNat/64=2)/\i+2<s.size/\(s.get! (i+2)).toNat/64=2
 .rw[aFz h3];obtain⟨⟨h3,h4,h5⟩,h6,h7⟩:=h3;split
  .rename_i hc;have hv:=hval _ hc.2;refine⟨_,3,rfl,pP,pP,pP,hv.1,hv.2,fun j h8 h9=>?_⟩;obtain rfl|rfl|rfl:j=i\/j=i+1\/j=i+2:=by omega
   .exact hb
   .omega
   omega
  exact e65 _ rfl
 rw[aFA h3];by_cases h4:(((s.get! i).toNat/8=30/\i+1<s.size/\(s.get! (i+1)).toNat/64=2)/\i+2<s.size/\(s.get! (i+2)).toNat/64=2)/\i+3<s.size/\(s.get! (i+3)).toNat/64=2
 .rw[aFz h4];obtain⟨⟨⟨h4,h5,h6⟩,h7,h8⟩,h9,h10⟩:=h4;split
  .rename_i hc;have hv:=hval _ hc.2;refine⟨_,4,rfl,pP,pP,pP,hv.1,hv.2,fun j h11 h12=>?_⟩;obtain rfl|rfl|rfl|rfl:j=i\/j=i+1\/j=i+2\/j=i+3:=by omega
   .exact hb
   .omega
   .omega
   omega
  exact e65 _ rfl
 rw[aFA h4];exact e65 _ rfl
theorem a7I {P:Program}(w:q8) (r:Nat) (s:ByteArray) (i:Nat) (ty:TypeId) (hh:w.heap[r]? =some (.stringIter s i)) (hi:i<s.size) {c k:Nat}(hd:Utf8.decode s i=(c,k)):
  (Instr.next (.pointer (some ⟨r,0,none⟩)) true ty).run P w= .ok (.tuple #[.bool true,.int .i64 i,.int .i32 c]) {w with heap:=w.heap.setIfInBounds r (.stringIter s (i+k))}:=by
 simp [Instr.next,getObj,setObj,Sem.run,hh,hi,hd,goInt]
theorem a7J {P:Program}(w:q8) (r:Nat) (s:ByteArray) (i:Nat) (ty:TypeId) (hh:w.heap[r]? =some (.stringIter s i)) (hi: ¬i<s.size):
  (Instr.next (.pointer (some ⟨r,0,none⟩)) true ty).run P w= .ok (.tuple #[.bool false]) w:=by
 simp [Instr.next,getObj,Sem.run,hh,hi]
theorem a7K {l:pL}{i k:Nat}(h:Lib.NoAny l [32,9,34] i) (hb: ∀j,i<=j->j<i+k->∀b,l[j]? =some b->128<=b.toNat):Lib.NoAny l [32,9,34] (i+k):=fun j b hj hs=>by
 by_cases hji:j<i
 .exact h j b hji hs
 have hx:=hb j pP hj b hs;cases hc:([32,9,34]:pL).contains b with
 |false=>rfl
 |true=>
  simp only[List.contains_cons,List.contains_nil,Bool.or_false,aGU,aHc] at hc;rcases hc with rfl|rfl|rfl<;>exact absurd hx pQ
theorem a7L {B r:Nat}{a w:q8}{o:Obj}(h:Below B a w) (hr:B<=r):Below B a {w with heap:=w.heap.setIfInBounds r o}:=
 ⟨h.os,h.tape,h.output,by simpa using h.size,fun k hk=>by
  show (w.heap.setIfInBounds r o)[k]? =_;rw[aGR pP];exact h.block k hk⟩
theorem AnyL.IndexRune_lit (L:Lays.n152 P ρ) (w:q8) (r:Int) (h0:128<=r) (h1:r<=1114111) (hv:r<55296\/57343<r):
  Calls P (ρ.f 152) #[.string yN,.int .i32 r] w fun e w'=>e= .returned (.int .i64 (-1))/\Below w.heap.size w w':=by
 by_cases he:r=65533
 .rw[he];exact AnyL.IndexRune_err L w
 exact AnyL.IndexRune_big L w r h0 h1 hv he
set_option maxRecDepth 1000000 in
theorem AnyL.IndexAny_lit8 (L:Lays.n153 P ρ) (s:ByteArray) (w:q8) (h8:s.size<=8):
  Calls P (ρ.f 153) #[.string s,.string yN] w fun e w'=>e= .returned (.int .i64 (Lib.indexAny s.data.toList [32,9,34]))/\Below w.heap.size w w':=by
 have hemp:yN.toList.isEmpty=false:=by rw[Lib.toList_data];rfl
 have hn1:((yN.size:Int)==1)=false:=rfl;have h8z:decide ((8:Int)<(s.size:Int))=false:=decide_eq_false pP;have t3:=L.t3;have a3:=L.a3;have z3:=L.z3;have v3:=L.v3;have t4:=L.t4;have a4:=L.a4;have z4:=L.z4;have v4:=L.v4;have t5:=L.t5;have a5:=L.a5;have z5:=L.z5;have v5:=L.v5;have t9:=L.t9;have a9:=L.a9;have z9:=L.z9;have v9:=L.v9;have t21:=L.t21;have a21:=L.a21;have z21:=L.z21;have v21:=L.v21;have e152: ∀args w,(callFunc (ρ.f 152) args).run P w= .ok (.enter (ρ.f 152) args) w:=enters_of L.f152 qC rfl;have e226: ∀args w,(callFunc (ρ.f 226) args).run P w= .ok (.enter (ρ.f 226) args) w:=enters_of L.f226 qC rfl
 go_enter L.f153,Body.n153_ntmps ρ
 go_wp2_with (go_at_fn (ρ.f 226);refine(Any.strings_shouldUseASCIISet {L with} _ _).mono ?_;rintro e w' ⟨rfl,hw⟩;rw[hw,h8z])
 go_loopg [9,10] s.size (fun g _ _ wx=> ∃i:Nat,i+g=s.size/\Below w.heap.size w wx/\wx.heap[w.heap.size]? =some (.stringIter s i)/\Lib.NoAny s.data.toList [32,9,34] i)
 case atStart=>exact⟨0,pP,(Below.refl _ _).alloc (aFW _) _,World.iter_heap w s 0,Lib.NoAny.zero _ _⟩
 case round=>
  obtain⟨i,hig,hbel,hheap,hno⟩:=hrel;have HN:Aside (Lib.NoAny s.data.toList [32,9,34] i):=hno;have HB:Aside (Below w.heap.size w _):=hbel;clear hno;have hlt:w.heap.size<wr.heap.size:=by
   rcases aGN w.heap.size wr.heap.size with h|h
   .exact h
   rw[Array.getElem?_eq_none h] at hheap;cases hheap
  by_cases hi:i<s.size
  .obtain⟨x,hx⟩: ∃x:UInt8,s[i]'hi=x:=⟨_,rfl⟩;have hxl:s.data.toList[i]? =some x:=by rw[<-hx];exact Lib.data_getElem? s i hi
   have hgx:s.get! i=x:=Th hxl;have key: ∀k c,Utf8.decode s i=(c,k)->∃w1:q8,(∀ty,(Instr.next (.pointer (some ⟨w.heap.size,0,none⟩)) true ty).run P wr= .ok (.tuple #[.bool true,.int .i64 i,.int .i32 c]) w1)/\
     Below w.heap.size w w1/\w1.heap[w.heap.size]? =some (.stringIter s (i+k))/\w.heap.size<w1.heap.size:=fun k c hd=>
    ⟨{wr with heap:=wr.heap.setIfInBounds w.heap.size (.stringIter s (i+k))},fun ty=>a7I wr _ s i ty hheap hi hd,a7L hbel (aFW _),by simp [hlt],by simpa using hlt⟩
   clear hbel hheap hlt;by_cases h128:x.toNat<128
   .obtain⟨w1,hnx,hb1,hh1,hl1⟩:=key 1 x.toNat (by have:=decode_ascii s i hi (by rw[hx];exact h128);rw[this,hx]);clear key;have HX:Aside (s.data.toList[i]? =some x):=hxl;have H1:Aside (Below w.heap.size w w1/\w1.heap[w.heap.size]? =some (.stringIter s (i+1))):=⟨hb1,hh1⟩;have hcon:=Lib.contains_iff_indexByte [32,9,34] x;have hback:((x.toNat:Int)).toNat.toUInt8=x:=by simp
    have hll:yN.data.toList=[32,9,34]:=rfl;clear hxl hgx hx hb1 hh1 hl1;cases hin:([32,9,34]:pL).contains x
    .rw[hin] at hcon;have hlt: ¬((0:Int)<=Lib.indexByte [32,9,34] x):=of_decide_eq_false hcon.symm;clear hcon
     go_wp2_with (go_at_fn (ρ.f 152);refine(Any.strings_IndexRune_ascii {L with} _ _ _ pP pP).mono ?_;rintro e w' ⟨rfl,hw⟩;rw[hw,hback,hll])
     go_roundg (gk-1)
     case measure=>omega
     case rel=>exact⟨i+1,pP,H1.out.1,H1.out.2,HN.out.succ HX.out hin⟩
    rw[hin] at hcon;have hge:(0:Int)<=Lib.indexByte [32,9,34] x:=aGc hcon.symm;clear hcon
    go_wp2_with (go_at_fn (ρ.f 152);refine(Any.strings_IndexRune_ascii {L with} _ _ _ pP pP).mono ?_;rintro e w' ⟨rfl,hw⟩;rw[hw,hback,hll])
    go_ret
    exact⟨by rw[Lib.indexAny_hit HN.out HX.out hin];rfl,H1.out.1⟩
   obtain⟨c,k,hd,hk1,hk2,hc1,hc2,hc3,hall⟩:=a7H s i hi (by rw[hgx];omega);obtain⟨w1,hnx,hb1,hh1,hl1⟩:=key k c hd;clear key;have H1:Aside (Below w.heap.size w w1/\w1.heap[w.heap.size]? =some (.stringIter s (i+k))/\w.heap.size<w1.heap.size):=⟨hb1,hh1,hl1⟩;have HA:Aside (∀j,i<=j->j<i+k->128<=(s.get! j).toNat):=hall;clear hall hxl hgx hx hb1 hh1 hl1 hd
   go_wp2_with (go_at_fn (ρ.f 152);refine(AnyL.IndexRune_lit {L with} _ _ pP pP pP).mono ?_;rintro e w' ⟨rfl,hw⟩)
   go_roundg (gk-k)
   case measure=>omega
   case rel=>exact⟨i+k,pP,H1.out.1.trans (hw.mono (by have:=H1.out.2.2;omega)),by rw[hw.block _ H1.out.2.2];exact H1.out.2.1,a7K HN.out fun j h1 h2 b hb=>by rw[<-Th hb];exact HA.out j h1 h2⟩
  have hnx:=fun ty=>a7J (P:=P) wr w.heap.size s i ty hheap hi;clear hbel hheap
  go_wp2
  go_ret
  obtain rfl:i=s.size:=by omega
  exact⟨by rw[Lib.indexAny_none (by rw[<-Lib.size_eq];exact HN.out)];rfl,HB.out⟩
theorem AnyL.IndexAny_lit (L:Lays.n153 P ρ) (h116:(P.info? (ρ.t 116)).map (fun i=>(i.zero,i.size))=some (some (.agg (Array.replicate 256 (.bool false))),256)) (s:ByteArray) (w:q8) (hs:s.size<4294967281):
  Calls P (ρ.f 153) #[.string s,.string yN] w fun e w'=>e= .returned (.int .i64 (Lib.indexAny s.data.toList [32,9,34]))/\Below w.heap.size w w':=by
 by_cases h8:s.size<=8
 .exact AnyL.IndexAny_lit8 L s w h8
 refine(Any.strings_IndexAny_long L (zero_of_info h116).1 (zero_of_info h116).2 s yN w pQ pP hs pQ (fun j b h=>?_)).mono fun e w' ⟨h1,h2⟩=>⟨h1,?_⟩
 .have hb:b∈([32,9,34]:pL):=List.mem_of_getElem? (show ([32,9,34]:pL)[j]? =some b from h);simp only[aFN,aG5,or_false] at hb;rcases hb with rfl|rfl|rfl<;>decide
 rw[h2];exact((Below.refl _ _).alloc (aFW _) _).alloc pR _
end
open Vc Go.RowKit
def PG (s c:pL):Int:=Lib.indexAny s c
@[go_sem] def mj:List qK->List qJ->Option qT
 |[(.val .str O,none),(.val .str Z,none)],[]=>if Z=[32,9,34] then some ⟨[List.length O<4294967281],[(.val (.int .i64) (PG O Z),none)],[]⟩ else none
 |_,_=>none
theorem a7M:xF prog 146 mj:=by
 refine I6 (fun _ _=>rfl) fun g w args vals L r hT ha hC hs=>?_;unfold mj at hC;split at hC
 .rename_i s c;split at hC
  .rename_i hc;subst hc;cases hC;have h1:=hs _ aFT;obtain⟨va,_,rfl,ra,vb,_,rfl,rb,hv⟩:=ha;obtain rfl:=wX ra.1;obtain rfl:=wX rb.1;cases hv;exact⟨rfl,rfl,(AnyL.IndexAny_lit Tryz.lays153 qC ⟨List.toArray s⟩ w h1).mono fun e w' ⟨he,hb⟩=>⟨_,he,hb,wI _ _ _ _,trivial⟩⟩
  cases hC
 cases hC
end Go.Proofs.YtcpbaddnmpeipaaGreatDoor
namespace Go.Proofs.YtcpbaddnmpeipaaGreatDoor
open Go.RowKit Go.Shelf Go.Lib
theorem a7N {w:q8}(hc:w.cell? ⟨5,15,none⟩=some (.int .u8 4)):
  Calls Tryz.prog 254 #[.int .u64 16] w fun e w'=>e= .returned (.int .i64 4)/\w'=w:=by
 go_enter Tryz.func254,Tryz.ntmps254
 have k0:bits BinOp.and IntKind.u64 16 (IntKind.u64.wrap (-16))=16:=by decide+kernel
 have k1:IntKind.u64.wrap (16*285870213051353865) /288230376151711744=15:=by decide+kernel
 go_wp2
 go_ret
 exact⟨rfl,rfl⟩
theorem Ti {w:q8}(hc:w.cell? ⟨5,15,none⟩=some (.int .u8 4)):
  Calls Tryz.prog 246 #[.int .u64 16] w fun e w'=>e= .returned (.int .i64 4)/\w'=w:=by
 go_enter Tryz.func246,Tryz.ntmps246
 go_wp2_with fail
 refine(a7N hc).mono ?_;rintro e w' ⟨rfl,rfl⟩
 go_wp2
 go_ret
 exact⟨rfl,rfl⟩
theorem Tj {w:q8}:
  Calls Tryz.prog 245 #[.int .i64 16] w fun e w'=>e= .returned (.bool true)/\w'=w:=by
 have k0:bits BinOp.and IntKind.i64 16 15=0:=by decide+kernel
 go_enter Tryz.func245,Tryz.ntmps245
 go_wp2
 go_ret
 exact⟨rfl,rfl⟩
theorem Tk {w:q8}{a:Addr}{v:q9}(h:w.cell? a=some v):a.block<w.heap.size:=by
 unfold World.cell? at h;split at h
 .rename_i hb;exact(aF1.1 hb).1
 cases h
def MZ (n:Nat):UInt8:=if n<10 then(48+n).toUInt8 else(87+n).toUInt8
theorem a7O (w:q8) (d:UInt8):(convert 80 9 (.slice (some ⟨w.heap.size,64,none⟩) 1 1)).run Tryz.prog (w.alloc (.cells (Tryz.zeroCells264.setIfInBounds 64 (.int .u8 (d.toNat:Int))) 264))= .ok (.string ⟨#[d]⟩) (w.alloc (.cells (Tryz.zeroCells264.setIfInBounds 64 (.int .u8 (d.toNat:Int))) 264)):=by
 refine run_convert_bytes_back _ _ _ 5 ⟨w.heap.size,64,none⟩ 1 [d] Tryz.underlying80 Tryz.underlying5 Tryz.underlying9 fun j hj=>?_;have:j=0:=by simpa using hj
 subst this;simp [Addr.add,aGY]
theorem ml: ∀u:Fin 16,(⟨#[48,49,50,51,52,53,54,55,56,57,97,98,99,100,101,102,103,104,105,106,107,108,109,110,111,112,113,114,115,116,117,118,119,120,121,122]⟩:ByteArray).data[u.val]? =some (MZ u.val):=by decide+kernel
theorem a7P {w:q8}(hc:w.cell? ⟨5,15,none⟩=some (.int .u8 4)) (u:Nat) (hu:u<16):
  Calls Tryz.prog 223 #[.slice none 0 0,.int .u64 u,.int .i64 16,.bool false,.bool false] w fun e w'=>e= .returned (.tuple #[.slice none 0 0,.string ⟨#[MZ u]⟩])/\Below w.heap.size w w':=by
 have hc2:(w.alloc (.cells Tryz.zeroCells264 264)).cell? ⟨5,15,none⟩=some (.int .u8 4):=by
  rw[aFY (a:=⟨5,15,none⟩) (aF5 _ _ _ (Tk hc))];exact hc
 go_enter Tryz.func223,Tryz.ntmps223
 go_wp2_with fail
 refine Tj.mono ?_;rintro e w' ⟨rfl,rfl⟩
 go_wp2_with fail
 refine(Ti hc2).mono ?_;rintro e w' ⟨rfl,rfl⟩
 go_wp2_with fail
 go_rounds 1
 rw[a7O];simp only[Result.andThen];rw[Oper.upon_value]
 go_wp2
 go_ret2
 refine⟨?_,(Below.refl _ _).alloc (aFW _) _⟩;have h:=ml ⟨u,hu⟩;obtain⟨h1,h2⟩:=aF1.1 h;rw[<-h2];rfl
theorem a7Q (w:q8) (d e:UInt8):(convert 80 9 (.slice (some ⟨w.heap.size,63,none⟩) 2 2)).run Tryz.prog (w.alloc (.cells ((Tryz.zeroCells264.setIfInBounds 64 (.int .u8 (e.toNat:Int))).setIfInBounds 63 (.int .u8 (d.toNat:Int))) 264))= .ok (.string ⟨#[d,e]⟩) (w.alloc (.cells ((Tryz.zeroCells264.setIfInBounds 64 (.int .u8 (e.toNat:Int))).setIfInBounds 63 (.int .u8 (d.toNat:Int))) 264)):=by
 refine run_convert_bytes_back _ _ _ 5 ⟨w.heap.size,63,none⟩ 2 [d,e] Tryz.underlying80 Tryz.underlying5 Tryz.underlying9 fun j hj=>?_
 match j,hj with
 |0,_=>simp [Addr.add,aGY]
 |1,_=>simp [Addr.add,aGY]
theorem a7R: ∀u:Fin 256,bits BinOp.and IntKind.u64 (u.val:Int) 15=((u.val%16:Nat):Int):=by decide+kernel
theorem a7S {w:q8}(hc:w.cell? ⟨5,15,none⟩=some (.int .u8 4)) (u:Nat) (hu:16<=u) (hu2:u<256):
  Calls Tryz.prog 223 #[.slice none 0 0,.int .u64 u,.int .i64 16,.bool false,.bool false] w fun e w'=>e= .returned (.tuple #[.slice none 0 0,.string ⟨#[MZ (u/16),MZ (u%16)]⟩])/\Below w.heap.size w w':=by
 have hc2:(w.alloc (.cells Tryz.zeroCells264 264)).cell? ⟨5,15,none⟩=some (.int .u8 4):=by
  rw[aFY (a:=⟨5,15,none⟩) (aF5 _ _ _ (Tk hc))];exact hc
 have h15:=a7R ⟨u,hu2⟩;have hm:u%16<16:=Nat.mod_lt _ pQ;have hq:u/16<16:=by omega
 have hq2:((u:Int)) /16=((u/16:Nat):Int):=rfl;dsimp only at h15;have H15:=Lib.hid h15;clear h15;obtain⟨m,hmm⟩: ∃m,u%16=m:=⟨_,rfl⟩;obtain⟨q,hqq⟩: ∃q,u/16=q:=⟨_,rfl⟩;rw[hmm] at hm;rw[hqq] at hq hq2;have h15:=H15.out;rw[hmm] at h15;have HM:=Lib.hid hmm;have HQ:=Lib.hid hqq;clear hmm hqq H15
 go_enter Tryz.func223,Tryz.ntmps223
 go_wp2_with fail
 refine Tj.mono ?_;rintro e w' ⟨rfl,rfl⟩
 go_wp2_with fail
 refine(Ti hc2).mono ?_;rintro e w' ⟨rfl,rfl⟩
 go_wp2_with fail
 go_rounds 2
 rw[a7Q];simp only[Result.andThen];rw[Oper.upon_value]
 go_wp2
 go_ret2
 refine⟨?_,(Below.refl _ _).alloc (aFW _) _⟩;have h:=ml ⟨m,hm⟩;obtain⟨h1,h2⟩:=aF1.1 h;have k:=ml ⟨q,hq⟩;obtain⟨k1,k2⟩:=aF1.1 k;rw[HM.out,HQ.out,<-h2,<-k2];rfl
def xJ (c _b:Int):pL:=if c<16 then[MZ c.toNat] else[MZ (c.toNat/16),MZ (c.toNat%16)]
theorem fb {w:q8}(hc:w.cell? ⟨5,15,none⟩=some (.int .u8 4)) (u:Nat) (hu2:u<256):
  Calls Tryz.prog 223 #[.slice none 0 0,.int .u64 u,.int .i64 16,.bool false,.bool false] w fun e w'=>e= .returned (.tuple #[.slice none 0 0,.string ⟨(xJ u 16).toArray⟩])/\Below w.heap.size w w':=by
 unfold xJ;by_cases h:(u:Int)<16
 .rw[aFz h];exact a7P hc u pP
 rw[aFA h];exact a7S hc u pP hu2
theorem a7T {w:q8}(hc:w.cell? ⟨5,15,none⟩=some (.int .u8 4)) (u:Nat) (hu2:u<256):
  Calls Tryz.prog 196 #[.int .i64 u,.int .i64 16] w fun e w'=>e= .returned (.string ⟨(xJ u 16).toArray⟩)/\Below w.heap.size w w':=by
 obtain⟨s,hs⟩: ∃s,xJ u 16=s:=⟨_,rfl⟩;have hfb:=fb hc u hu2;rw[hs] at hfb|-;clear hs;have hk:IntKind.u64.wrap (u:Int)=u:=by rw[IntKind.wrap_u64];omega
 have hn: ¬(u:Int)<0:=by omega
 go_enter Tryz.func196,Tryz.ntmps196
 go_wp2_with fail
 refine hfb.mono ?_;rintro e w' ⟨rfl,hb⟩
 go_wp2
 go_ret
 exact⟨rfl,hb⟩
theorem Tl {w:q8}(hc:w.cell? ⟨5,15,none⟩=some (.int .u8 4)) (u:Nat) (hu2:u<256):
  Calls Tryz.prog 170 #[.int .i64 u,.int .i64 16] w fun e w'=>e= .returned (.string ⟨(xJ u 16).toArray⟩)/\Below w.heap.size w w':=by
 obtain⟨s,hs⟩: ∃s,xJ u 16=s:=⟨_,rfl⟩;have hfb:=a7T hc u hu2;rw[hs] at hfb|-;clear hs
 go_enter Tryz.func170,Tryz.ntmps170
 go_wp2_with fail
 refine hfb.mono ?_;rintro e w' ⟨rfl,hb⟩
 go_wp2
 go_ret
 exact⟨rfl,hb⟩
#print axioms Tl
end Go.Proofs.YtcpbaddnmpeipaaGreatDoor
namespace Go.Proofs
open Go.RowKit Go.Lib
def Tryz.lays105_ren:Go.Shelf.Ren:=⟨fun|105=>171|212=>197|99=>147|165=>104|166=>52|170=>198|169=>53|263=>224|264=>225|206=>179|240=>78|241=>135|276=>109|277=>172|n=>n,fun|9=>9|3=>3|4=>4|20=>20|0=>0|46=>176|109=>222|5=>5|72=>82|76=>88|51=>202|146=>203|53=>241|148=>248|70=>79|37=>80|75=>87|127=>115|164=>146|80=>90|n=>n,fun|n=>n⟩
theorem Tryz.lays105:Go.Proofs.Lays.n105 Tryz.prog Tryz.lays105_ren:={
 mixed:=by kernel_rfl
 f99:=Tryz.func147.trans (aFZ some qC)
 f105:=Tryz.func171.trans (aFZ some qC)
 f165:=Tryz.func104.trans (aFZ some qC)
 f166:=Tryz.func52.trans (aFZ some qC)
 f169:=Tryz.func53.trans (aFZ some qC)
 f170:=Tryz.func198.trans (aFZ some qC)
 f206:=Tryz.func179.trans (aFZ some qC)
 f212:=Tryz.func197.trans (aFZ some qC)
 f240:=Tryz.func78.trans (aFZ some qC)
 f241:=Tryz.func135.trans (aFZ some qC)
 f263:=Tryz.func224.trans (aFZ some qC)
 f264:=Tryz.func225.trans (aFZ some qC)
 f276:=Tryz.func109.trans (aFZ some qC)
 f277:=Tryz.func172.trans (aFZ some qC)
 t0:=Tryz.underlying0
 a0:=Tryz.isAgg0
 z0:=Tryz.sizeOf0
 v0:=Tryz.zeroValue0
 t3:=Tryz.underlying3
 a3:=Tryz.isAgg3
 z3:=Tryz.sizeOf3
 v3:=Tryz.zeroValue3
 t4:=Tryz.underlying4
 a4:=Tryz.isAgg4
 z4:=Tryz.sizeOf4
 v4:=Tryz.zeroValue4
 t5:=Tryz.underlying5
 a5:=Tryz.isAgg5
 z5:=Tryz.sizeOf5
 v5:=Tryz.zeroValue5
 t9:=Tryz.underlying9
 a9:=Tryz.isAgg9
 z9:=Tryz.sizeOf9
 v9:=Tryz.zeroValue9
 t20:=Tryz.underlying20
 a20:=Tryz.isAgg20
 z20:=Tryz.sizeOf20
 v20:=Tryz.zeroValue20
 t37:=Tryz.underlying80
 a37:=Tryz.isAgg80
 z37:=Tryz.sizeOf80
 v37:=Tryz.zeroValue80
 t46:=Tryz.underlying176
 a46:=Tryz.isAgg176
 z46:=Tryz.sizeOf176
 v46:=Tryz.zeroValue176
 t51:=Tryz.underlying202
 a51:=Tryz.isAgg202
 z51:=Tryz.sizeOf202
 v51:=Tryz.zeroValue202
 t53:=Tryz.underlying241
 a53:=Tryz.isAgg241
 z53:=Tryz.sizeOf241
 v53:=Tryz.zeroValue241
 t70:=Tryz.underlying79
 a70:=Tryz.isAgg79
 z70:=Tryz.sizeOf79
 v70:=Tryz.zeroValue79
 t72:=Tryz.underlying82
 a72:=Tryz.isAgg82
 z72:=Tryz.sizeOf82
 v72:=Tryz.zeroValue82
 t75:=Tryz.underlying87
 a75:=Tryz.isAgg87
 z75:=Tryz.sizeOf87
 v75:=Tryz.zeroValue87
 t76:=Tryz.underlying88
 a76:=Tryz.isAgg88
 z76:=Tryz.sizeOf88
 v76:=Tryz.zeroValue88
 t109:=Tryz.underlying222
 a109:=Tryz.isAgg222
 z109:=Tryz.sizeOf222
 v109:=Tryz.zeroValue222
 t127:=Tryz.underlying115
 a127:=Tryz.isAgg115
 z127:=Tryz.sizeOf115
 v127:=Tryz.zeroValue115
 t146:=Tryz.underlying203
 a146:=Tryz.isAgg203
 z146:=Tryz.sizeOf203
 v146:=Tryz.zeroValue203
 t148:=Tryz.underlying248
 a148:=Tryz.isAgg248
 z148:=Tryz.sizeOf248
 v148:=Tryz.zeroValue248
 t164:=Tryz.underlying146
 a164:=Tryz.isAgg146
 z164:=Tryz.sizeOf146
 v164:=Tryz.zeroValue146}
theorem Tryz.Builder_Extra_105:Builder.Extra Tryz.prog Tryz.lays105_ren:={
 sizeBuilder:=by kernel_rfl
 liesBuilder:=by kernel_rfl
 t5:=Tryz.underlying5
 a5:=Tryz.isAgg5
 z5:=Tryz.sizeOf5
 v5:=Tryz.zeroValue5
 infoByte:=by kernel_rfl
 cellsByte:=by kernel_rfl
 sizeByte:=by kernel_rfl
 neB5:=by decide}
end Go.Proofs
namespace Go.Proofs.YtcpbaddnmpeipaaGreatDoor
open Vc Go.RowKit
def mm (n:Int):Prop:=n=16
instance (n:Int):Decidable (mm n):=inferInstanceAs (Decidable (n=16))
@[go_sem] def mn:List qK->List qJ->Option qT
 |[(.val (.int .i64) O,none),(.val (.int .i64) Z,none)],[]=>some ⟨[0<=O/\O<256/\mm Z],[(.val .str (xJ O Z),none)],[]⟩
 |_,_=>none
theorem a7U:xF Tryz.prog 170 mn:=by
 refine I6 (fun _ _=>rfl) fun g w args vals L r hT ha hC hs=>?_;unfold mn at hC;split at hC
 .rename_i c d;cases hC;obtain⟨h1,h2,h3⟩:=hs _ aFT;obtain⟨va,_,rfl,ra,vb,_,rfl,rb,hv⟩:=ha;obtain rfl:=wD ra.1;obtain rfl:=wD rb.1;cases hv;obtain⟨u,rfl⟩: ∃u:Nat,c=((u:Nat):Int):=⟨Int.toNat c,(Int.toNat_of_nonneg h1).symm⟩;have h2:(u:Int)<256:=h2;obtain rfl:d=(16:Int):=h3;have hcell:w.cell? ⟨5,15,none⟩=some (.int .u8 4):=(hT.2.2.2 _ aFT).2;exact⟨rfl,rfl,(Tl hcell u pP).mono fun e w' ⟨he,hb⟩=>⟨_,he,hb,CZ _ _ _,trivial⟩⟩
 cases hC
def N0 (s:pL) (c:Int):pL:=Lib.repeatL s c.toNat
@[go_sem] def mo:List qK->List qJ->Option qT
 |[(.val .str O,none),(.val (.int .i64) Z,none)],[]=>some ⟨[0<=Z/\Z<=140737488355328/\(List.length O:Int)*Z<=140737488355328],[(.val .str (N0 O Z),none)],[]⟩
 |_,_=>none
theorem a7V:xF Tryz.prog 171 mo:=by
 refine I6 (fun _ _=>rfl) fun g w args vals L r hT ha hC hs=>?_;unfold mo at hC;split at hC
 .rename_i s c;cases hC;obtain⟨h1,h2,h3⟩:=hs _ aFT;obtain⟨va,_,rfl,ra,vb,_,rfl,rb,hv⟩:=ha;obtain rfl:=wX ra.1;obtain rfl:=wD rb.1;cases hv;obtain⟨u,rfl⟩: ∃u:Nat,c=((u:Nat):Int):=⟨Int.toNat c,(Int.toNat_of_nonneg h1).symm⟩;have h2:(u:Int)<=140737488355328:=h2;have h3:((List.length s:Nat):Int)*(u:Int)<=140737488355328:=h3;have h4:List.length s*u<=140737488355328:=by rw[<-Int.natCast_mul] at h3;exact Int.ofNat_le.1 h3
  have h:=Any.strings_Repeat Tryz.lays105 Tryz.Builder_Extra_105 ⟨List.toArray s⟩ u w pP (by show (List.toArray s).size*u<=_;rw[aGy];exact h4);exact⟨rfl,rfl,h.mono fun e w' ⟨he,hb⟩=>⟨_,he,hb,CZ _ _ _,trivial⟩⟩
 cases hC
def YI (_c:Int):pL:=[]
@[go_sem] def mq:List qK->List qJ->Option qT
 |[(.val (.int .u8) O,none)],[]=>some ⟨[False],[(.val .str (YI O),none)],[]⟩
 |_,_=>none
theorem a7W:xF Tryz.prog 102 mq:=by
 refine I6 (fun _ _=>rfl) fun g w args vals L r hT ha hC hs=>?_;unfold mq at hC;split at hC
 .cases hC;exact(hs _ aFT).elim
 cases hC
end Go.Proofs.YtcpbaddnmpeipaaGreatDoor
