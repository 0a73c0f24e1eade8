/- Packed by a program of mine (wip/tools/pack.py): the same texts with short names and few blanks. -/
import Derived.BigCall
import Derived.BigGuard
import Derived.Handy
import Derived.KernelRfl
import Derived.Laws.Runes
import Derived.Lib.ItoaMem
import Derived.Lib.RowBridge
import Derived.LoopIn
import Derived.LoopN
import Derived.LoopNIn
import Derived.OrdersIn
import Derived.OwnWalkIn
import Derived.RangeFuncBox
import Derived.RangeFuncLeaves
import Derived.Scope
import Derived.Shelf.Abstract
import Derived.Shelf.SlSortCmp.NoneTotal
import Derived.Shelf.Slices.Clone
import Derived.Shelf.Slices.CompactS
import Derived.Shelf.Slices.In.SortNone
import Derived.Shelf.Small.Strs
import Derived.Shelf.Small.Utf8
import Derived.Shelf.Sort.Plain
import Derived.Shelf.Strings.Builder1
import Derived.Shelf.Strings.IndexAny
import Derived.Shelf.Strings.IndexAnyAll
import Derived.Shelf.Strings.OnBuilder
import Derived.Shelf.Strings.Repeat
import Derived.Shelf.Strings.Runes
import Derived.Shelf.Strings.Search1
import Derived.Shelf.Strings.Search2
import Derived.Shelf.Strings.Search3
import Derived.Shelf.Strings.SlTrimAscii
import Derived.Shelf.Strings.Trim
import Derived.Shelf.Unicode.DecodeAny
import Derived.Shelf.Unicode.ValidAny
import Derived.TacticsInMore
import Derived.Test.YtcpbaddnmpeipaaGreatDoorChecked
import Derived.Test.YtcpbaddnmpeipaaGreatDoorProg
import Derived.WalkKit
import Derived.WalkMore
import Derived.Test.YtcpbaddnmpeipaaGreatDoorX01
set_option linter.defProp false
set_option linter.unusedVariables false
set_option linter.unusedSimpArgs false
set_option linter.unusedSectionVars false
set_option maxRecDepth 100000
set_option maxHeartbeats 4000000
namespace Go.Proofs.YtcpbaddnmpeipaaGreatDoor.Vc
open Go.RowKit
theorem ke {g g':Gh}{w w':qD}{env:List (Nat×qQ)}{a:Act}{o:Oper}{sl:qQ}{v:qE}(h:BN g w env a.tmps) (le:Le g w g' w') (hs:rX g' w' sl v) {N:Nat}(E:a.tmps.size=N) (z:JX N o.dst=true):BN g' w' (uN o.dst sl env) (a.put o.dst v).tmps:=by
  intro t;cases ho:o.dst with
  |none=>exact EC le (h t)
  | some d=>
    rw[ho] at z;simp only[JX,aFY] at z;simp only[uN,lk,Act.put];by_cases j:d=t
    · subst j
      rw[aFP rfl];have D:d<a.tmps.size:=by rw[E];exact z
      have:(a.tmps.setIfInBounds d v).getD d undef=v:=by
        rw[aGn,Array.getElem?_setIfInBounds_self_of_lt D];rfl
      rw[this];exact hs
    rw[aFQ j]
    have:(a.tmps.setIfInBounds d v).getD t undef=a.tmps.getD t undef:=by
      rw[aGn,aG9 j,<-aGn]
    rw[this];exact EC le (h t)
theorem SG {n:Nat}: ∀{u:List (Nat×qP)},JY n u=true->∀{i:Nat},i∈qU u->i<n
  | (k,b)::u,h,i,hi=>by
    simp only[JY,aF0,aFY] at h;simp only[qU,aF1] at hi;rcases hi with rfl|hi
    .exact h.1
    exact SG h.2 hi
theorem Pc (a:Act) (d:Option Tmp) (v:qE):(a.put d v).tmps.size=a.tmps.size:=by
  cases d<;>simp [Act.put]
theorem Pd (a:Act) (d:Option Tmp) (v:qE):(a.put d v).defers=a.defers:=by
  cases d<;>simp [Act.put]
theorem vE.step {B:Nat}{g g':Gh}{w w':qD}{s:St}{a:Act}{o:Oper}{e:r6}{v:qE}(h:vE B g w s a) (k:AI g w s.H e g' w' v) (D:JX s.N o.dst=true) (hi:JY (s.nb+32) e.upd=true):
    vE B g' w' ⟨uN o.dst e.slot s.env,rD e.upd s.H,s.nb+32,s.N,s.np⟩ (a.put o.dst v):=by
  refine⟨ke h.env k.le k.slot h.size D,k.heap,(Pc _ _ _).trans h.size,fun i j=>?_,by rw[Pd];exact h.def_.eff h.heap k,aGL h.np (Nat.le_add_right _ _)⟩;have:i∉qU e.upd:=fun hm=>by have:=SG hi hm;simp only at j;omega
  have z:=k.gho i this;have hb:=h.nb i (by simp only at j;omega);exact⟨z.1.trans hb.1,fun n=>by rw[z.2];exact hb.2 n⟩
theorem Pe {T:sZ}{Γ:tP}{ops:List Oper}: ∀(l:List Oper),vD T Γ ops l none=none
  |[]=>rfl
  |_::_=>rfl
theorem kf {T:sZ}{Γ:tP}{ops:List Oper}{o:Oper}{l:List Oper}{x y:wF}(h:vD T Γ ops (o::l) (some x)=some y):
    ∃ e,AH T Γ ops o x.s=some e/\JX x.s.N o.dst=true/\JY (x.s.nb+32) e.upd=true/\
      vD T Γ ops l (some ⟨⟨uN o.dst e.slot x.s.env,rD e.upd x.s.H,x.s.nb+32,x.s.N,x.s.np⟩,rD x.side (rD (MH x.s.H e.upd e.rds e.upd) e.side),e::x.es⟩)=some y:=by
  simp only[vD] at h;cases z:AH T Γ ops o x.s with
  |none=>rw[z] at h;simp only[WR] at h;rw[Pe] at h;cases h
  | some e=>
    rw[z] at h;simp only[WR] at h;by_cases j:(JX x.s.N o.dst&&JY (x.s.nb+32) e.upd)=true
    · rw[aFP j] at h
      simp only[aF0] at j;exact⟨e,rfl,j.1,j.2,h⟩
    rw[aFQ j,Pe] at h;cases h
theorem IF {T:sZ}{Γ:tP}{ops:List Oper}: ∀{l:List Oper}{x y:wF},vD T Γ ops l (some x)=some y->(∀p∈x.side,p∈y.side)/\y.s.N=x.s.N/\y.s.np=x.s.np
  | [],x,y,h=>by
    simp only[vD,aFO] at h;subst h;exact⟨fun _ h=>h,rfl,rfl⟩
  | o::l,x,y,h=>by
    obtain⟨e,_,_,_,h4⟩:=kf h;obtain⟨D,z,j⟩:=IF h4;exact⟨fun p hp=>D p (xK.2 (.inl hp)),z,j⟩
def GL (ro:qB):Fence:={Fence.wide with round:=ro}
theorem Pf {ro:qB}{n:Nat}{P:Program}{f:FuncId}{args:Array qE}{w:qD}{R:Ending->qD->Prop}(h:Calls P f args w R):CallsIn (GL ro) n P f args w R:=callsIn_wide.2 h
section
variable {B:Nat}{P:Program}{T:sZ}{Γ:tP}(hT:xZ P T) (hΓ:F6 P Γ) {A:Nat->Nat->Prop}{L:List qP}{g0:Gh}{w0:qD}{Q:Exit->Act->qD->Prop}
include hT hΓ
theorem a6j {g:Gh}{w:qD}{s:St}{a:Act}(h:vE B g w s a) (e:r6):yS g s.nb e:=fun i _ hb=>h.nb i hb
omit hT hΓ in
theorem Ph {ops:List Oper}{o:Oper}{s:St}{e:r6}(h:AH T Γ ops o s=some e): ∀c,o.op≠.defer c:=by
  intro c D;replace h:=(SE h).1;unfold P4 at h;cases z:o.guard with
  |none=>rw[z,D] at h;simp [P3,uX,P1] at h
  | some jb=>
    rw[z,D] at h;simp only at h;cases j:Γ (WQ jb.1 jb.2) with
    |some _=>rw[j] at h;cases h
    | none=>
      rw[j] at h;simp only[RQ] at h;cases E:I5 s.env jb.2 (AU ops jb.1)<;>rw[E] at h<;>simp [P2,uX,JV] at h
omit hT hΓ in
theorem Pi {ro:qB}{o:Oper}{a:Act}{w:qD}{K:Act->qD->Prop}(j: ∀c,o.op≠.defer c) (h:o.wp P a w K Q):o.wpIn (GL ro) 0 P a w K Q:=by
  refine⟨fun _ _=>trivial,?_⟩;rw[Oper.semAt_eq _ _ _ j];unfold Oper.wp at h;generalize (execOp a.eval o).run P w=r at h|-;unfold Oper.upon at h;unfold Oper.uponIn;split at h
  .exact h
  .exact h
  .exact h
  .exact⟨fun h0=>(by cases h0),Pf h⟩
  .exact⟨fun h0=>(by cases h0),fun c cs _=>let ⟨v,w',r,s⟩:=h c cs;⟨v,w',r,stepsIn_wide.2 s⟩⟩
  .exact h
  exact h.elim
theorem Pj {ro:qB}{ops:Array Oper}: ∀{l:List Oper}{x y:wF}{a:Act}{w:qD}{g:Gh},vD T Γ ops.toList l (some x)=some y->(∀p∈y.side,p)->vE B g w x.s a->tR A L g0 w0 g w x.s.H->L.length=x.s.np->
    (∀g' a' w',vE B g' w' y.s a'->tR A L g0 w0 g' w' y.s.H->Q .normal a' w')->wpListIn (GL ro) 0 P ops Q l a w
  | [],x,y,a,w,g,h,hs,hr,D,z,E=>by
    simp only[vD,aFO] at h;subst h;exact E g a w hr D
  | o::l,x,y,a,w,g,h,hs,hr,D,z,E=>by
    obtain⟨e,F,G,h3,h4⟩:=kf h;have j: ∀p∈e.side,p:=fun p hp=>hs p ((IF h4).1 p (xK.2 (.inr (xK.2 (.inr hp)))));have key:=Oy hT hΓ (ops:=ops.toList) (o:=o) (a:=a) (K:=wpListIn (GL ro) 0 P ops Q l) (Q:=Q) hr.env hr.heap F j (a6j hT hΓ hr e) (fun g' w' v k=>Pj h4 hs (hr.step k G h3) (D.eff k (z▸(SE F).2)) z E);simp only[aHk] at key;unfold wpListIn;split at key
    .rename_i hw;rw[aFP hw];exact Pi (Ph F) key
    rename_i hw;rw[aFQ hw];exact⟨fun _ _=>trivial,key⟩
theorem a6k {ro:qB}{id:Nat}{ops:Array Oper}{s:St}{y:wF}{a:Act}{w:qD}{g:Gh}(h:vD T Γ ops.toList ops.toList (some ⟨s,[],[]⟩)=some y) (hs: ∀p∈y.side,p) (hr:vE B g w s a) (z:tR A L g0 w0 g w s.H) (j:L.length=s.np)
    (D: ∀g' a' w',vE B g' w' y.s a'->tR A L g0 w0 g' w' y.s.H->Q .normal a' w'):(Code.region id ops false).wpIn (GL ro) 0 P Q a w:=
  wpIn_region_list (Pj hT hΓ h hs hr z j D)
end
theorem a6l {H H':List (Nat×qP)}{t:Ty}{i off:Nat}{e:r6}(h:JS H t i off (qS H i)=some e) (hl: ∀id∈e.rds,qS H' id=qS H id):i∈e.rds/\JS H' t i off (qS H' i)=some e:=by
  have key: ∃k n v x ts,qS H i=some (.cells v x ts)/\CK v x=some (k,n)/\VQ t i off k n v x (qS H k)=some e/\e.rds=[1000000000,i,k]:=by
    unfold JS at h;split at h
    case h_2=>cases h
    rename_i v x ts hb;cases hf:CK v x with
    |none=>rw[hf] at h;cases h
    | some q=>
      obtain⟨k,n⟩:=q;rw[hf] at h;refine⟨k,n,v,x,ts,hb,hf,h,?_⟩;simp only[VR] at h;unfold VQ at h;split at h
      case h_2=>cases h
      generalize AF _ _ _ _=z at h;cases z with
      |none=>cases h
      | some z=>
        obtain⟨v',x'⟩:=z;simp only[eh] at h;unfold ef at h;split at h
        .simp only[aFO] at h;rw[<-h]
        cases h
  obtain⟨k,n,v,x,ts,D,j,h3,h4⟩:=key;refine⟨by rw[h4];simp,?_⟩;rw[hl i (by rw[h4];simp),D];simp only[JS,j,VR];rw[hl k (by rw[h4];simp)];exact h3
theorem kg {ρ ρ':Operand->qQ}: ∀{xs:List Operand},(∀x∈xs,ρ' x=ρ x)->w6 ρ' xs=w6 ρ xs
  |[],_=>rfl
  |x::xs,h=>by simp only[w6,h x pV,kg (fun y j=>h y (aF2 _ j))]
theorem kh {ρ ρ':Operand->qQ}: ∀{xs:List (Nat×Operand)},(∀x∈xs,ρ' x.2=ρ x.2)->uW ρ' xs=uW ρ xs
  |[],_=>rfl
  |(i,x)::xs,h=>by simp only[uW,h (i,x) pV,kh (fun y j=>h y (aF2 _ j))]
theorem Pk {T:sZ}{ρ ρ':Operand->qQ}: ∀{xs:List Operand}{ts:List TypeId},(∀x∈xs,ρ' x=ρ x)->CM T ρ' xs ts=CM T ρ xs ts
  |[],_,_=>by simp [CM]
  |_::_,[],_=>by simp [CM]
  |x::xs,t::ts,h=>by simp only[CM,h x pV,Pk (fun y j=>h y (aF2 _ j))]
theorem a6m {T:sZ}{Γ:tP}{ty:TypeId}{ρ ρ':Operand->qQ}{base:Nat}{H:List (Nat×qP)}(op:Op) (h: ∀x∈op.operands,ρ' x=ρ x):uX T Γ ty ρ' base H op=uX T Γ ty ρ base H op:=by
  cases op
  case slice t x lo hi mx=>
    cases mx with
    |some m=>rfl
    | none=>
      have F:=h x (by simp [Op.operands])
      have E:AG ρ' lo=AG ρ lo:=by
        cases lo with
        |none=>rfl
        |some l=>simp only[AG,h l (by simp [Op.operands])]
      have h3:AG ρ' hi=AG ρ hi:=by
        cases hi with
        |none=>rfl
        |some l=>simp only[AG,h l (by simp [Op.operands])]
      simp only[uX,F,E,h3]
  case call c=>
    obtain⟨callee,args,tys⟩:=c
    have z: ∀x∈args.toList,ρ' x=ρ x:=fun x j=>h x (by
      have:x∈args:=by simpa using j
      simp only[Op.operands,Call.operands];split<;>simp [this])
    cases callee with
    |builtin b=>cases b<;>simp only[uX,MF,kg z]
    | value f=>
      have hf:=h f (by simp [Op.operands,Call.operands]);simp only[uX,MF,hf];cases MB args.toList tys.toList with
      |false=>rfl
      |true=>simp only[gd,Pk z]
    |_=>rfl
  case build t ps=>simp only[uX,kh (fun x j=>h x.2 (by simp only[Op.operands,aHN];exact List.mem_map_of_mem j))]
  case buildSlice t n ps=>simp only[uX,kh (fun x j=>h x.2 (by simp only[Op.operands,aHN];exact List.mem_map_of_mem j))]
  case makeFunc f first caps=>
    cases f with
    | func f=>
      have D: ∀x∈caps.toList,ρ' x=ρ x:=fun x j=>h x (by
        have:x∈caps:=by simpa using j
        simp [Op.operands,this])
      simp only[uX,kg D]
    |_=>rfl
  all_goals first
    |rfl
    |(simp only[Op.operands,aHN,aF1,aHj,or_false,forall_eq,forall_eq_or_imp] at h;simp only[uX,h])
    |(simp [Op.operands] at h;simp only[uX,h])
theorem ki: ∀{l acc:List rY}{i:Nat},i∈sP (zT l acc)↔i∈sP l\/i∈sP acc
  |[],_,_=>by simp [zT,sP]
  | w::l,acc,i=>by
    simp only[zT,ki,sP,aF1];constructor
    · rintro(h|h|h)
      .exact .inl (.inr h)
      .exact .inl (.inl h)
      exact .inr h
    rintro((h|h) |h)
    .exact .inr (.inl h)
    .exact .inl h
    exact .inr (.inr h)
section
variable {H H':List (Nat×qP)}
theorem a6n {k:qB}{a b:tC}(h:AC H k (some a)=some b):(∀i,i∈sP a.ws->i∈sP b.ws)/\((∀i,i∈sP b.ws->qS H' i=qS H i)->AC H' k (some a)=some b):=by
  cases k with
  | none=>
    have h:none=some b:=h;cases h
  | some k=>
    simp only[AC] at h|-
    have:(∃e c m,qS H k=some (.grow e c m)):=by
      cases j:qS H k with
      |none=>rw[j] at h;cases h
      | some bl=>cases bl with
        |grow e c m=>exact⟨_,_,_,rfl⟩
        |_=>rw[j] at h;cases h
    obtain⟨e,c,m,j⟩:=this;rw[j] at h;simp only[D0] at h;split at h
    .cases h
    rename_i hm
    simp only[aFO] at h;subst h;refine⟨fun i hi=>by simp only[sP,aF1];exact .inr hi,fun hl=>?_⟩;rw[hl k (by simp [sP,rY.id]),j];simp only[D0];rw[aFQ hm]
theorem a6o (H:List (Nat×qP)) (k:qB):AC H k none=none:=by
  cases k with
  |none=>rfl
  | some k=>
    simp only[AC];cases qS H k with
    |none=>rfl
    |some bl=>cases bl<;>rfl
theorem Pm (H:List (Nat×qP)) (toks:pY) (o:Nat): ∀(qs:qC),zL H toks o qs none=none
  |[]=>rfl
  |q::qs=>by simp only[zL,a6o,Pm H toks o qs]
theorem Pn {H H':List (Nat×qP)}{toks:pY}{o:Nat}: ∀{qs:qC}{a b:tC},zL H toks o qs (some a)=some b->(∀i,i∈sP a.ws->i∈sP b.ws)/\((∀i,i∈sP b.ws->qS H' i=qS H i)->zL H' toks o qs (some a)=some b)
  |[],a,b,h=>by simp only[zL,aFO] at h;subst h;exact⟨fun _ h=>h,fun _=>rfl⟩
  | q::qs,a,b,h=>by
    simp only[zL] at h|-;cases hm:AC H (xV toks (o+q)) (some a) with
    |none=>rw[hm,Pm] at h;cases h
    | some m=>
      rw[hm] at h;obtain⟨z,j⟩:=a6n (H':=H') hm;obtain⟨h3,h4⟩:=Pn (H':=H') h;exact⟨fun i hi=>h3 i (z i hi),fun hl=>by rw[j (fun i hi=>hl i (h3 i hi))];exact h4 hl⟩
theorem a6p (H H':List (Nat×qP)) (a:tC) (s:qQ):yM H' a .v s=yM H a .v s:=by
  obtain⟨d,k⟩:=s;cases d with
  | val t x=>
    cases t with
    | clo=>
      cases x with
      |none=>rfl
      |some q=>obtain⟨f,l⟩:=q;cases l<;>rfl
    |_=>rfl
  |_=>rfl
theorem Po {H H':List (Nat×qP)}{t:Ty}{os:qC}{i o:Nat}{a b:tC}(h:wD H t os i o a (qS H i)=some b):(∀i,i∈sP a.ws->i∈sP b.ws)/\((∀i,i∈sP b.ws->qS H' i=qS H i)->wD H' t os i o a (qS H' i)=some b):=by
  cases D:qS H i with
  |none=>rw[D] at h;simp [wD] at h
  | some bl=>
    rw[D] at h;cases bl with
    | cells u x toks=>
      simp only[wD] at h;cases z:rH t u x o with
      |none=>rw[z] at h;simp [G9] at h
      | some y=>
        rw[z] at h;simp only[G9] at h;split at h
        · rename_i F
          obtain⟨h3,h4⟩:=Pn (H':=H') h;refine⟨fun j E=>h3 j (by simp only[sP,aF1];exact .inr E),fun hl=>?_⟩;rw[hl i (h3 i (by simp [sP,rY.id])),D];simp only[wD,z,G9];rw[aFP F];exact h4 hl
        .cases h
    |_=>simp [wD] at h
theorem a6q (H:List (Nat×qP)) (f:FuncId) (args:List qQ) (ks:List (Ty×qC)) (cs ids:pY):yK H f args ks cs ids none=none:=by cases ks<;>cases cs<;>rfl
theorem Pp {H H':List (Nat×qP)}{f:FuncId}{args:List qQ}: ∀{ks:List (Ty×qC)}{cs ids:pY}{a b:tC},yK H f args ks cs ids (some a)=some b->(∀i,i∈sP a.ws->i∈sP b.ws)/\((∀i,i∈sP b.ws->qS H' i=qS H i)->yK H' f args ks cs ids (some a)=some b)
  | [],[],ids,a,b,h=>by
    simp only[yK,aFO] at h|-;subst h;exact⟨fun _ h=>h,fun _=>rfl⟩
  |[],_::_,_,_,_,h=>by simp [yK] at h
  |_::_,[],_,_,_,h=>by simp [yK] at h
  | (t,os)::ks,(i,o)::cs,ids,a,b,h=>by
    simp only[yK] at h|-;cases hb:wD H t os i o a (qS H i) with
    |none=>rw[hb,a6q] at h;cases h
    | some m=>
      rw[hb] at h;obtain⟨z,j⟩:=Po (H':=H') hb;obtain⟨h3,h4⟩:=Pp (H':=H') h;exact⟨fun i hi=>h3 i (z i hi),fun hl=>by rw[j (fun i hi=>hl i (h3 i hi))];exact h4 hl⟩
theorem Pq {p:PK}{s:qQ}{a b:tC}(h:yM H a p s=some b):(∀i,i∈sP a.ws->i∈sP b.ws)/\((∀i,i∈sP b.ws->qS H' i=qS H i)->yM H' a p s=some b):=by
  by_cases F:p= .v
  · subst F
    refine⟨?_,fun _=>by rw[a6p H H'];exact h⟩;unfold yM at h;split at h
    .simp only[VA,aFO] at h;subst h;exact fun _ h=>h
    · simp only[V9] at h
      split at h
      .simp only[aFO] at h;subst h;exact fun _ h=>h
      cases h
    .simp only[VB,aFO] at h;subst h;exact fun _ h=>h
    .rename_i D;cases D
    .rename_i D;cases D
    .rename_i D;cases D
    .rename_i D;cases D
    .rename_i D;cases D
    .rename_i D;cases D
    cases h
  unfold yM at h;split at h
  .exact absurd rfl F
  .exact absurd rfl F
  .exact absurd rfl F
  · rename_i t x k
    simp only[yM];cases z:qS H k with
    |none=>rw[z] at h;simp [D1] at h
    | some bl=>
      rw[z] at h;cases bl with
      | grow e c m=>
        simp only[D1] at h;split at h
        · rename_i E
          simp only[aFO] at h;subst h;refine⟨fun i hi=>by simp only[sP,aF1];exact .inr hi,fun hl=>?_⟩;rw[hl k (by simp [sP,rY.id]),z];simp only[D1];rw[aFP E]
        .cases h
      |_=>simp [D1] at h
  · rename_i t os i o k
    simp only[yM];exact Po h
  · rename_i i k
    simp only[yM];cases z:qS H i with
    |none=>rw[z] at h;simp [D2] at h
    | some bl=>
      rw[z] at h;cases bl with
      | map s t l=>
        simp only[D2] at h;split at h
        · rename_i E
          simp only[aFO] at h;subst h;refine⟨fun j G=>by simp only[sP,aF1];exact .inr G,fun hl=>?_⟩;rw[hl i (by simp [sP,rY.id]),z];simp only[D2];rw[aFP E]
        .cases h
      |_=>simp [D2] at h
  · rename_i k n k'
    simp only[yM];cases z:qS H k with
    |none=>rw[z] at h;simp [yJ] at h
    | some bl=>
      rw[z] at h;cases bl with
      | row e t l m=>
        simp only[yJ] at h;split at h
        · rename_i E
          simp only[aFO] at h;subst h;refine⟨fun j G=>by simp only[sP,aF1];exact .inr G,fun hl=>?_⟩;rw[hl k (by simp [sP,rY.id]),z];simp only[yJ];rw[aFP E]
        .cases h
      | grow e c m=>
        simp only[yJ] at h;split at h
        · rename_i E
          simp only[aFO] at h;subst h;refine⟨fun j G=>by simp only[sP,aF1];exact .inr G,fun hl=>?_⟩;rw[hl k (by simp [sP,rY.id]),z];simp only[yJ];rw[aFP E]
        .cases h
      |_=>simp [yJ] at h
  · simp only[yM]
    exact Pp h
  · have hb:=h
    unfold R6 at hb;split at hb
    · rename_i E
      simp only[aFO] at hb;subst hb;exact⟨fun _ h=>h,fun _=>by simp only[yM,E,R6]⟩
    cases hb
  cases h
theorem Pr (H:List (Nat×qP)) (gs:List (Nat×Nat×PK)):CG H gs none=none:=by cases gs<;>rfl
theorem Ps {H H':List (Nat×qP)}: ∀{gs:List (Nat×Nat×PK)}{a b:tC},CG H gs (some a)=some b->(∀i,i∈sP a.ws->i∈sP b.ws)/\((∀i,i∈sP b.ws->qS H' i=qS H i)->CG H' gs (some a)=some b)
  |[],a,b,h=>by simp only[CG,aFO] at h;subst h;exact⟨fun _ h=>h,fun _=>rfl⟩
  | (c,q,pk)::gs,a,b,h=>by
    simp only[CG] at h|-;cases hm:yM H a pk (LZ q pk (JP a.H (a.n-1-c))) with
    |none=>rw[hm] at h;simp only[OP,Pr] at h;cases h
    | some m=>
      rw[hm] at h;simp only[OP] at h;obtain⟨z,j⟩:=Pq (H':=H') hm;obtain⟨h3,h4⟩:=Ps (H':=H') h;exact⟨fun i hi=>h3 i (z i hi),fun hl=>by rw[j (fun i hi=>hl i (h3 i hi))];simp only[OP];exact h4 hl⟩
theorem a6r (H:List (Nat×qP)): ∀(ps:List PK) (ss:List qQ),yN H ps ss none=none
  |[],[]=>rfl
  |[],_::_=>rfl
  |_::_,[]=>rfl
  |_::_,_::_=>rfl
theorem Pt {H H':List (Nat×qP)}: ∀{ps:List PK}{ss:List qQ}{a b:tC},yN H ps ss (some a)=some b->(∀i,i∈sP a.ws->i∈sP b.ws)/\((∀i,i∈sP b.ws->qS H' i=qS H i)->yN H' ps ss (some a)=some b)
  |[],[],a,b,h=>by simp only[yN,aFO] at h;subst h;exact⟨fun _ h=>h,fun _=>rfl⟩
  |[],_::_,a,b,h=>by simp [yN] at h
  |_::_,[],a,b,h=>by simp [yN] at h
  | p::ps,s::ss,a,b,h=>by
    simp only[yN] at h|-;cases hm:yM H a p s with
    |none=>rw[hm,a6r] at h;cases h
    | some m=>
      rw[hm] at h;obtain⟨z,j⟩:=Pq (H':=H') hm;obtain⟨h3,h4⟩:=Pt (H':=H') h;exact⟨fun i hi=>h3 i (z i hi),fun hl=>by rw[j (fun i hi=>hl i (h3 i hi))];exact h4 hl⟩
theorem Pu {H H':List (Nat×qP)}{base:Nat}{args:List qQ}{s:rM}{e:r6}(h:HY H base args (some s)=some e) (hl: ∀i∈e.rds,qS H' i=qS H i):HY H' base args (some s)=some e:=by
  simp only[HY] at h|-;cases j:yN H s.ps args (some ⟨[],[],[],0⟩) with
  |none=>rw[j,Pr] at h;cases h
  |some a0=>
   rw[j] at h;cases hp:CG H s.gs (some a0) with
   |none=>rw[hp] at h;cases h
   |some a=>
    rw[hp] at h
    have z: ∀i,i∈sP (zT a.ws [])->i∈e.rds:=by
      simp only[RC] at h;cases D:JQ (zT a.ws []) (zT a.H []) with
      |none=>rw[D] at h;cases h
      |some L=>
      rw[D] at h;simp only[VH] at h;cases E:s.C (zT a.args []) L with
      |none=>rw[E] at h;cases h
      | some r=>
        rw[E] at h;simp only[VG] at h;unfold RA at h;split at h
        · simp only[aFO] at h
          rw[<-h];exact fun i hi=>xK.2 (.inl hi)
        cases h
    obtain⟨g1,g2⟩:=Ps (H':=H') hp;rw[(Pt (H':=H') j).2 (fun i hi=>hl i (z i (ki.2 (.inl (g1 i hi))))),g2 (fun i hi=>hl i (z i (ki.2 (.inl hi))))];exact h
theorem Pv {H H':List (Nat×qP)}{base:Nat}{args:List qQ}{s:Option rM}{e:r6}(h:M9 H base args s=some e) (hl: ∀i∈e.rds,qS H' i=qS H i):M9 H' base args s=some e:=by
  cases s with
  |none=>cases h
  | some s=>
    simp only[M9] at h|-;cases hr:s.row with
    | some F=>
      rw[hr] at h;simp only[WG] at h|-;unfold VK at h|-;split at h
      · rename_i k n x
        cases j:qS H k with
        |none=>rw[j] at h;cases h
        | some b=>
          have z:k∈e.rds:=by
            rw[j] at h;cases b with
            | row e0 t l m=>
              simp only[dj] at h;unfold Ka at h;split at h
              .simp only[aFO] at h;rw[<-h];simp
              .cases h
            |_=>cases h
          rw[hl k z];exact h
      .cases h
    | none=>
      rw[hr] at h;simp only[WG] at h|-;cases E:RD s.ps args with
      |none=>rw[E] at h;exact Pu h hl
      | some k=>
        rw[E] at h;simp only[Jz] at h|-;cases j:qS H k with
        |none=>rw[j] at h;cases h
        | some b=>
          rw[j] at h;cases b with
          | row e0 t l m=>
            simp only[RF] at h;cases hi:HY ((k,.dead)::H) base (RE k t l args) (some s) with
            |none=>rw[hi] at h;cases h
            | some e1=>
              rw[hi] at h
              have z:k∈e.rds/\∀i∈e1.rds,i∈e.rds:=by
                unfold di at h;split at h
                · rename_i heq
                  simp only[aFO] at heq;subst heq;unfold dh at h;split at h
                  · split at h
                    · simp only[aFO] at h
                      rw[<-h];exact⟨by simp,fun i hi=>aF2 _ hi⟩
                    cases h
                  cases h
                cases h
              rw[hl k z.1,j];simp only[RF]
              rw[Pu hi (fun i D=>by
                simp only[qS];split
                .rfl
                exact hl i (z.2 i D))]
              exact h
          |_=>cases h
theorem Pw {Γ:tP}{base:Nat}{args:List qQ}{f:qQ}{e:r6}(h:MA Γ H base args f=some e) (hl: ∀i∈e.rds,qS H' i=qS H i):MA Γ H' base args f=some e:=by
  unfold MA at h|-;split at h
  .exact Pv h hl
  .exact Pv h hl
  cases h
theorem Px {H H':List (Nat×qP)}: ∀{ks:pY}{ps:List Prop}{bs:List (Nat×qP)},CL H ks=some (ps,bs)->(∀p∈ks,p.1∈qU bs)/\((∀p∈ks,qS H' p.1=qS H p.1)->CL H' ks=some (ps,bs))
  |[],ps,bs,h=>⟨fun p hp=>(by cases hp),fun _=>h⟩
  | (k,n)::r,ps,bs,h=>by
    simp only[CL] at h;split at h
    .cases h
    rename_i E
    cases j:VS k n (qS H k) with
    |none=>rw[j] at h;simp [M6] at h
    | some q=>
      obtain⟨pp,b⟩:=q;cases z:CL H r with
      |none=>rw[j,z] at h;simp [M6] at h
      | some q2=>
        obtain⟨ps2,bs2⟩:=q2;rw[j,z] at h;simp only[M6,aFO,aGi] at h;obtain⟨rfl,rfl⟩:=h;obtain⟨k1,k2⟩:=Px (H':=H') z;refine⟨fun p hp=>?_,fun D=>?_⟩
        · rcases aF1.1 hp with rfl|hp
          .simp [qU]
          simp only[qU,aF1];exact .inr (k1 p hp)
        simp only[CL]
        rw[aFQ E,D _ aGa,j,k2 (fun p hp=>D p (aF2 _ hp))];rfl
theorem a6s {H H':List (Nat×qP)}: ∀{t:Ty}{x:t.den},(∀p∈BL t x,qS H' p.1=qS H p.1)->BK H' t x=BK H t x:=by
  intro t
  induction t with
  | rl e u=>
    intro x h;cases x with
    |none=>rfl
    | some p=>
      simp only[BK,ej];rw[h p (by simp [BL,ek])]
  | pair a b iha ihb=>
    intro x h;simp only[BK];rw[iha (fun p hp=>h p (by simp only[BL];exact I8.2 (.inl hp))),ihb (fun p hp=>h p (by simp only[BL];exact I8.2 (.inr hp)))]
  |_=>intro x h;rfl
theorem a6t {H H':List (Nat×qP)}{t:Ty}{i off:Nat}{e:r6}(h:M7 H t i off (qS H i)=some e) (hl: ∀id∈e.rds,qS H' id=qS H id):M7 H' t i off (qS H' i)=some e:=by
  have key: ∃v x ts z ps bs,qS H i=some (.cells v x ts)/\BK H v x=some z/\CL H (BL v x)=some (ps,bs)/\VT t i (some (ps,bs)) (rH t (I1 v) z off)=some e/\e.rds=i::qU bs:=by
    unfold M7 at h;split at h
    case h_2=>cases h
    rename_i v x ts hb;cases D:BK H v x with
    |none=>rw[D] at h;cases h
    | some z=>
      rw[D] at h;simp only[VU] at h;cases j:CL H (BL v x) with
      |none=>rw[j] at h;cases h
      | some q=>
        obtain⟨ps,bs⟩:=q;rw[j] at h;refine⟨v,x,ts,z,ps,bs,hb,D,j,h,?_⟩;unfold VT at h;split at h
        · rename_i e1 e2
          cases e1;simp only[aFO] at h;rw[<-h]
        cases h
  obtain⟨v,x,ts,z,ps,bs,I,G,h3,h4,F⟩:=key;obtain⟨k1,k2⟩:=Px (H':=H') h3;have E: ∀p∈BL v x,qS H' p.1=qS H p.1:=fun p hp=>hl _ (by rw[F];exact aF2 _ (k1 p hp));rw[hl i (by rw[F];exact aGa),I];simp only[M7];rw[a6s E,G];simp only[VU];rw[k2 E];exact h4
theorem a6u {H H':List (Nat×qP)}{i off k n:Nat}{ti:TI}{e:r6}(h:OW H i off k n ti (qS H i)=some e) (hl: ∀id∈e.rds,qS H' id=qS H id):OW H' i off k n ti (qS H' i)=some e:=by
  obtain⟨ty,el,by',ar,ls⟩:=ti;cases ty with
  | list u=>
    cases hb:qS H i with
    |none=>rw[hb] at h;cases h
    | some b=>
      cases b with
      | cells v x ts=>
        rw[hb] at h;simp only[OW] at h
        have hi:i∈e.rds:=by
          rcases Mw h with h|h|h
          · unfold OU at h;split at h
            .simp only[aFO] at h;rw[<-h];simp
            cases h
          · unfold ez at h;split at h
            .simp only[aFO] at h;rw[<-h];simp
            cases h
          unfold RN at h;split at h
          · split at h
            · unfold W3 at h;split at h
              .simp only[aFO] at h;rw[<-h];simp
              cases h
            cases h
          cases h
        rw[hl i hi,hb];simp only[OW];unfold fe at h|-;cases j:OU v i (tT ts off 1) (sT (.rl el u) (some (k,n)) v x off) with
        |some r=>rw[j] at h;exact h
        | none=>
          rw[j] at h;cases ls with
          |nil=>exact h
          | cons q r=>
            simp only[Kn] at h|-
            have z:k∈e.rds:=by
              unfold RN at h;split at h
              · split at h
                · unfold W3 at h;split at h
                  .simp only[aFO] at h;rw[<-h];simp
                  cases h
                cases h
              cases h
            rw[hl k z];exact h
      |_=>rw[hb] at h;cases h
  |_=>cases h
theorem a6v {Γ:tP}{H H':List (Nat×qP)}{x:Nat×Nat×(Nat×Nat)×(Nat×Nat)}{args:List qQ}{ti:Option TI}{e:r6}(h:ME Γ H x args ti=some e) (hl: ∀id∈e.rds,qS H' id=qS H id):ME Γ H' x args ti=some e:=by
  unfold ME at h;split at h
  case h_2=>cases h
  rename_i c i k3 n3 k4 n4 s kk el by' ar ls;simp only[ME]
  have key:e.rds=[i,k3,k4]:=by
    unfold WK at h;split at h
    case h_2=>cases h
    unfold fz at h;split at h
    case h_2=>cases h
    unfold fy at h;split at h
    case h_2=>cases h
    unfold fw at h;split at h
    case h_2=>cases h
    unfold fv at h;split at h
    .simp only[aFO] at h;rw[<-h]
    cases h
  rw[hl i (by rw[key];simp)];unfold WK at h|-;split at h
  case h_2=>cases h
  rw[hl k3 (by rw[key];simp),hl k4 (by rw[key];simp)];exact h
theorem a6w {T:sZ}{Γ:tP}{H H':List (Nat×qP)}{base:Nat}{args:List qQ}{f:qQ}{e:r6}(h:OY T Γ base H args f=some e) (hl: ∀i∈e.rds,qS H' i=qS H i):OY T Γ base H' args f=some e:=by
  unfold OY at h|-;split at h
  .exact a6v h hl
  · unfold gc at h|-
    split at h
    · rename_i hf
      rw[aFP hf];exact h
    rename_i hf
    rw[aFQ hf];exact Pw h hl
  exact Pw h hl
theorem a6x {T:sZ}{Γ:tP}{ty:TypeId}{ρ:Operand->qQ}{base:Nat}{op:Op}{e:r6}(h:uX T Γ ty ρ base H op=some e) (hl: ∀i∈e.rds,qS H' i=qS H i):uX T Γ ty ρ base H' op=some e:=by
  cases op
  case load t x=>
    simp only[uX] at h|-;unfold VV at h|-;split at h
    · rename_i ti k n c i o' _ e1 e2
      unfold RK at h;split at h
      · rename_i e' t' l m j
        split at h
        · rename_i E
          have:e.rds=[k]:=by
            unfold Kg at h;split at h
            .simp only[aFO] at h;rw[<-h]
            cases h
          rw[hl k (by rw[this];simp),j];simp only[RK];rw[aFP E];exact h
        cases h
      cases h
    .exact h
    · rename_i ti i off k e1 e2
      split at h
      · rename_i hq
        rw[aFP hq];exact a6t h hl
      rename_i hq;rw[aFQ hq];rcases Mj h with K|⟨h0,K⟩
      · have hi:i∈e.rds:=by
          rcases Mi K with h|h
          · unfold RJ at h
            split at h
            · unfold Kf at h;split at h
              .simp only[aFO] at h;rw[<-h];simp
              cases h
            cases h
          unfold VP at h
          split at h
          · unfold dz at h;split at h
            .simp only[aFO] at h;rw[<-h];simp
            cases h
          cases h
        rw[hl i hi,K];rfl
      obtain⟨hi,V⟩:=a6l K hl
      rw[hl i hi,h0];rw[hl i hi] at V;exact V
    cases h
  case store t x y=>
    simp only[uX] at h|-;unfold W7 at h|-;split at h
    · rename_i ti i off k kk n k' e1 e2 e3
      exact a6u h hl
    · rename_i ti i off _ d _ e1 e2 e3
      have hi:i∈e.rds:=by
        unfold et at h;split at h
        · unfold eq at h
          split at h
          · unfold ep at h
            split at h
            .simp only[aFO] at h;rw[<-h];simp
            cases h
          cases h
        cases h
      rw[hl i hi];exact h
    · rename_i ti k n c i o' _ t y k' e1 e2 e3
      split at h
      · rename_i O
        rw[aFP O];unfold W6 at h;split at h
        · rename_i e' t' l m j
          split at h
          · rename_i E
            have:e.rds=[k]:=by
              unfold Km at h;split at h
              .simp only[aFO] at h;rw[<-h]
              cases h
            rw[hl k (by rw[this];simp),j];simp only[W6];rw[aFP E];exact h
          cases h
        cases h
      cases h
    · rename_i ti i off k t y k' e1 e2 e3
      split at h
      · rename_i O
        have hi:e.rds=[i]:=by
          have main: ∀e0,I2 base i off (qS H i) ti.ls t y k'=some e0->e0.rds=[i]/\∃b r,e0.upd=(i,b)::r:=by
            intro e0 h;unfold I2 at h;split at h
            · unfold VX at h
              split at h
              · unfold Kj at h;split at h
                .simp only[aFO] at h;rw[<-h];exact⟨rfl,_,_,rfl⟩
                cases h
              cases h
            unfold VW at h
            split at h
            · unfold OU at h;split at h
              .simp only[aFO] at h;rw[<-h];exact⟨rfl,_,_,rfl⟩
              cases h
            cases h
          cases I:M8 t with
          |false=>rw[I] at h;exact(main e h).1
          | true=>
            rw[I] at h;simp only[eo] at h;cases h0:I2 base i off (qS H i) ti.ls t y k' with
            |none=>rw[h0] at h;cases h
            | some e0=>
              rw[h0] at h;obtain⟨m1,b,r,m2⟩:=main e0 h0;obtain⟨sd,s,up,rd⟩:=e0;simp only at m1 m2;subst m1 m2;unfold RM at h;split at h
              · rename_i heq
                cases heq;split at h
                · unfold VY at h
                  split at h
                  .simp only[aFO] at h;rw[<-h]
                  cases h
                cases h
              cases h
        rw[hl i (by rw[hi];simp)];simp only[aFP O];exact h
      cases h
    cases h
  case call c=>
    obtain⟨callee,args,tys⟩:=c;cases callee with
    | builtin b=>
      cases b
      case append=>
        simp only[uX,MF] at h|-;unfold WJ at h|-;split at h
        · split at h
          · rename_i M
            rw[aFP M];unfold WE at h|-;split at h
            · split at h
              · rename_i Q
                rw[aFP Q];unfold WD at h;split at h
                · rename_i j
                  split at h
                  · rename_i R
                    split at h
                    · rename_i E
                      simp only[aFO] at h;subst h;rw[hl _ (aGa),j];simp only[WD];rw[aHQ R,aFP E]
                    cases h
                  cases h
                cases h
              cases h
            · split at h
              · rename_i U
                rw[aHQ U];unfold WC at h;split at h
                · rename_i j
                  split at h
                  · rename_i E
                    simp only[aFO] at h;subst h;rw[hl _ (aGa),j];simp only[WC];rw[aFP E]
                  cases h
                cases h
              cases h
            cases h
          rename_i M
          rw[aFQ M];unfold ft at h|-;split at h
          · unfold WI at h
            split at h
            · rename_i j
              split at h
              · rename_i E
                simp only[aFO] at h;subst h;rw[hl _ (aGa),j];simp only[WI];rw[aFP E]
              cases h
            cases h
          cases h
        cases h
      case len=>
        simp only[uX,MF] at h|-;unfold WH at h|-;split at h
        · unfold fp at h|-
          split at h
          · unfold WB at h
            split at h
            · rename_i j
              simp only[aFO] at h;subst h;rw[hl _ (aGa),j];simp only[WB]
            cases h
          all_goals exact h
        cases h
      all_goals exact h
    | value f=>
      simp only[uX,MF] at h|-;cases G:MB args.toList tys.toList with
      |false=>rw[G] at h;cases h
      |true=>rw[G] at h;exact a6w h hl
    |_=>exact h
  case makeFunc f first caps=>
    cases f with
    |func f=>exact h
    |_=>exact h
  case slice t x lo hi mx=>
    cases mx with
    |none=>exact h
    |some m=>exact h
  case next x b=>
    simp only[uX] at h|-;unfold WP at h|-;split at h
    · rename_i i k e1
      unfold gj at h;split at h
      · rename_i j
        have:e.rds=[i]:=by
          simp only[aFO] at h;rw[<-h]
        rw[hl i (by rw[this];simp),j];exact h
      cases h
    cases h
  case lookup xt x ix ok=>
    simp only[uX] at h|-;unfold WM at h|-;split at h
    · rename_i el fl ar ls_ i kk e1 e2
      unfold gg at h|-;split at h
      · rename_i kt vt k a _
        split at h
        · rename_i F
          rw[aFP F];unfold WL at h;split at h
          · rename_i j
            split at h
            · rename_i D
              split at h
              · rename_i z
                have:e.rds=[i]:=by
                  cases ok<;>(simp only[aFO] at h;rw[<-h])
                rw[hl i (by rw[this];simp),j];simp only[WL];rw[aHQ D,aFP z];exact h
              cases h
            cases h
          cases h
        cases h
      cases h
    .exact h
    cases h
  case mapUpdate mt m x y=>
    simp only[uX] at h|-;unfold P0 at h|-;split at h
    · rename_i el fl ar ls_ i kk e1 e2
      unfold WN at h|-;split at h
      · rename_i kt k a _ u b _
        split at h
        · rename_i F
          rw[aFP F];unfold OZ at h;split at h
          · rename_i j
            split at h
            · rename_i D
              split at h
              · rename_i z
                have:e.rds=[i]:=by
                  simp only[aFO] at h;rw[<-h]
                rw[hl i (by rw[this];simp),j];simp only[OZ];rw[aHQ D,aFP z];exact h
              cases h
            cases h
          cases h
        cases h
      cases h
    cases h
  case insert mt m x y=>
    simp only[uX] at h|-;unfold P0 at h|-;split at h
    · rename_i el fl ar ls_ i kk e1 e2
      unfold WN at h|-;split at h
      · rename_i kt k a _ u b _
        split at h
        · rename_i F
          rw[aFP F];unfold OZ at h;split at h
          · rename_i j
            split at h
            · rename_i D
              split at h
              · rename_i z
                have:e.rds=[i]:=by
                  simp only[aFO] at h;rw[<-h]
                rw[hl i (by rw[this];simp),j];simp only[OZ];rw[aHQ D,aFP z];exact h
              cases h
            cases h
          cases h
        cases h
      cases h
    cases h
  all_goals exact h
end
def a6y {T:sZ}{Γ:tP}{ops:Array Oper}{o:Oper}{s s':St}{e:r6}(h:P4 T Γ ops.toList o s=some e) (R: ∀t∈o.looksAt ops,lk s'.env t=lk s.env t) (hH: ∀i∈e.rds,qS s'.H i=qS s.H i) (hn:s'.nb=s.nb):P4 T Γ ops.toList o s'=some e:=by
 have z: ∀x∈o.op.operands,uC s'.env x=uC s.env x:=fun x D=>by
  cases x with
  |tmp t=>exact R t (by simp only[Oper.looksAt,aGE,List.mem_filterMap];exact .inl ⟨.tmp t,by simpa using D,rfl⟩)
  |_=>rfl
 have I:D7 s'.env (sY o.op)=D7 s.env (sY o.op):=by
  have O: ∀x∈sY o.op,x∈o.op.operands:=by
   have hp: ∀(l:List (Nat×Operand)) x,x∈sY.parts l->x∈l.map (·.2):=by
    intro l
    induction l with
    |nil=>intro x h;exact h
    |cons q l ih=>
     intro x h;obtain⟨i,y⟩:=q;simp only[sY.parts,aF1] at h;rcases h with rfl|h
     .simp
     simp only[aGU,aF1];exact .inr (ih x h)
   have ho: ∀(y:Option Operand) x,x∈sY.opt y->y=some x:=by
    intro y x h;cases y with
    |none=>cases h
    |some y=>simp only[sY.opt,aF7] at h;rw[h]
   intro x D;cases z:o.op
   case call c=>
    rw[z] at D;obtain⟨callee,args,tys⟩:=c;cases callee<;>simp_all [sY,Op.operands,Call.operands]
   case slice t y lo hi mx=>
    rw[z] at D;simp only[sY,aF1,xK] at D;simp only[Op.operands,Array.mem_append];rcases D with rfl|D|D
    .simp
    .have:=ho _ _ D;subst this;simp
    have:=ho _ _ D;subst this;simp
   case build t ps=>rw[z] at D;simp only[Op.operands,aHN];exact hp _ _ D
   case buildSlice t n ps=>rw[z] at D;simp only[Op.operands,aHN];exact hp _ _ D
   all_goals (rw[z] at D;simp_all [sY,Op.operands])
  have: ∀(l:List Operand),(∀x∈l,x∈o.op.operands)->D7 s'.env l=D7 s.env l:=by
   intro l
   induction l with
   |nil=>intro _;rfl
   |cons x l ih=>intro h;simp only[D7,z x (h x pV),ih (fun y hy=>h y (aF2 _ hy))]
  exact this _ O
 have M: ∀{e0:r6},uX T Γ o.type (fun x=>tV (uC s.env x)) s.nb s.H o.op=some e0->e0.rds=e.rds->uX T Γ o.type (fun x=>tV (uC s'.env x)) s'.nb s'.H o.op=some e0:=by
  intro e0 h1 h2;rw[a6m (ρ:=fun x=>tV (uC s.env x)) (ρ':=fun x=>tV (uC s'.env x)) o.op (fun x D=>by simp only[z x D]),hn];exact a6x h1 (by rw[h2];exact hH)
 unfold P4 at h|-;cases Q:o.guard with
 |none=>
  rw[Q] at h;simp only at h|-;by_cases F: ∃c x y,o.op= .pick c x y
  .obtain⟨c,x,y,hp⟩:=F;rw[hp] at h|-;simp only[P3] at h|-;rw[z c (by rw[hp];simp [Op.operands]),z x (by rw[hp];simp [Op.operands]),z y (by rw[hp];simp [Op.operands])];exact h
  .have e1: ∀s,P3 T Γ o s o.op=P1 (zV true (D7 s.env (sY o.op))) (uX T Γ o.type (fun x=>tV (uC s.env x)) s.nb s.H o.op):=by
    intro s;cases ho:o.op<;>first|rfl|(exact absurd ⟨_,_,_,ho⟩ F)
   rw[e1] at h|-;rw[I];cases E:uX T Γ o.type (fun x=>tV (uC s.env x)) s.nb s.H o.op with
   |none=>rw[E] at h;cases h
   |some e0=>
    rw[E] at h;simp only[P1,aFO] at h;rw[M E (by rw[<-h])];simp only[P1,h]
 |some jb=>
  obtain⟨j,b⟩:=jb;rw[Q] at h;simp only at h|-;have Y:I5 s'.env b (AU ops.toList j)=I5 s.env b (AU ops.toList j):=by
   rw[SC];cases U:(ops.toList[j]?).bind (·.dst) with
   |none=>rfl
   |some t=>
    simp only[I5];rw[R t (by
     simp only[Oper.looksAt,Q,aGE];right;have:(ops[j]?).bind (·.dst)=some t:=by simpa using U
     rw[this];simp)]
  have V:MG s'.env b (AU ops.toList j)=MG s.env b (AU ops.toList j):=by
   rw[SC];cases U:(ops.toList[j]?).bind (·.dst) with
   |none=>rfl
   |some t=>
    simp only[MG];rw[R t (by
     simp only[Oper.looksAt,Q,aGE];right;have:(ops[j]?).bind (·.dst)=some t:=by simpa using U
     rw[this];simp)]
  rw[Y,V];cases K:Γ (WQ j b) with
  |some sg=>rw[K] at h;exact h
  |none=>
  rw[K] at h;simp only[RQ] at h|-;cases Z:I5 s.env b (AU ops.toList j) with
  |none=>rw[Z] at h;cases h
  |some G=>
   rw[Z] at h;by_cases F: ∃c x y,o.op= .pick c x y
   .obtain⟨c,x,y,hp⟩:=F;rw[hp] at h|-;simp only[P2] at h|-;rw[z c (by rw[hp];simp [Op.operands]),z x (by rw[hp];simp [Op.operands]),z y (by rw[hp];simp [Op.operands])];exact h
   have e1: ∀s,P2 T Γ o s (some G) o.op=JV G (zV G (D7 s.env (sY o.op))) (uX T Γ o.type (fun x=>tV (uC s.env x)) s.nb s.H o.op):=by
    intro s;cases ho:o.op<;>first|rfl|(exact absurd ⟨_,_,_,ho⟩ F)
   rw[e1] at h|-;rw[I];cases E:uX T Γ o.type (fun x=>tV (uC s.env x)) s.nb s.H o.op with
   |none=>rw[E] at h;cases h
   |some e0=>
    rw[E] at h;have X:e0.rds=e.rds:=by
     unfold JV at h;split at h
     .rename_i heq;simp only[aFO] at h heq;subst heq;rw[<-h]
     .rename_i heq;simp only[aFO] at h heq;subst heq;rw[<-h]
     cases h
    rw[M E X];exact h
def kj {T:sZ}{Γ:tP}{ops:Array Oper}{o:Oper}{s s':St}{e:r6}(h:AH T Γ ops.toList o s=some e) (z: ∀t∈o.looksAt ops,lk s'.env t=lk s.env t) (hH: ∀i∈e.rds,qS s'.H i=qS s.H i) (D:s'.nb=s.nb) (hp:s'.np=s.np):AH T Γ ops.toList o s'=some e:=by
 obtain⟨j,E⟩:=SE h;unfold AH at h|-;rw[j] at h;rw[a6y j z hH D,hp];exact h
def vA {α:Type}(p:Nat->Bool) (wr:Nat->Option α) (b:α):Nat->α
 |0=>b
 |k+1=>if p k=true then(wr k).getD (vA p wr b k) else vA p wr b k
def N1 {α:Type}{p q:Nat->Bool}{wr:Nat->Option α}{b:α}: ∀{n:Nat},(∀j,j<n->wr j≠none->p j=q j)->vA p wr b n=vA q wr b n
 |0,_=>rfl
 |n+1,h=>by
  simp only[vA];have ih:=N1 (p:=p) (q:=q) (wr:=wr) (b:=b) (n:=n) (fun j z=>h j pT);cases hw:wr n with
  |none=>simp [ih]
  |some v=>rw[h n pT (by rw[hw];simp),ih]
def km {α:Type}{wr:Nat->Option α}{b:α}{i:Nat}: ∀{n:Nat},i<=n->vA (fun j=>decide (j<i)) wr b n=vA (fun _=>true) wr b i
 |0,h=>by
  have:i=0:=by omega
  subst this;rfl
 |n+1,h=>by
  by_cases hi:i=n+1
  .subst hi;exact N1 (fun j z _=>by simp [z])
  have: ¬n<i:=by omega
  simp only[vA];rw[aFQ (by simp [this])];exact km pT
def XV {α:Type}{p q:Nat->Bool}{wr:Nat->Option α}{b:α}{i:Nat}(hi:p i=false) (hq: ∀j,q j=if j=i then true else p j): ∀{n:Nat},i<n->(∀j,i<j->j<n->p j=true->wr j=none\/wr i=none)->vA q wr b n=(wr i).getD (vA p wr b n)
 |0,h,_=>by omega
 |n+1,h,E=>by
  simp only[vA];by_cases D:n=i
  .subst D;rw[aFP (by rw[hq];simp),aFQ (by simp [hi])];rw[N1 (p:=q) (q:=p) (fun j F _=>by rw[hq,aFQ pT])]
  have ih:=XV (b:=b) hi hq (n:=n) pT (fun j z G=>E j z pT);rw[hq,aFQ D,ih];by_cases hp:p n=true
  .rw[aFP hp,aFP hp];rcases E n pT pT hp with z|z
   .rw[z];rfl
   rw[z];rfl
  rw[aFQ hp,aFQ hp]
def kp {α:Type}{p:Nat->Bool}{wr:Nat->Option α}{b:α}: ∀(k:Nat),vA p wr b (k+1)=vA (fun j=>p (j+1)) (fun j=>wr (j+1)) (if p 0=true then(wr 0).getD b else b) k
 |0=>rfl
 |k+1=>by
  rw[vA,kp k];rfl
def kq {rds:qC}{i:Nat}: ∀{u:List (Nat×qP)},i∈qU (JZ rds u)↔i∈qU u/\D8 i rds=false
 |[]=>by simp [JZ,qU]
 |(j,b)::u=>by
  simp only[JZ];cases h:D8 j rds with
  |true=>
   rw[aFP rfl,kq (u:=u)];simp only[qU,aF1];constructor
   .rintro⟨D,z⟩;exact⟨.inr D,z⟩
   .rintro⟨rfl|D,z⟩
    .rw[h] at z;cases z
    .exact⟨D,z⟩
  |false=>
   rw[aFQ pV];simp only[qU,aF1,kq (u:=u)];constructor
   .rintro(rfl|⟨D,z⟩)
    .exact⟨.inl rfl,h⟩
    exact⟨.inr D,z⟩
   rintro⟨rfl|D,z⟩
   .exact .inl rfl
   exact .inr ⟨D,z⟩
def PC {e:r6}{i:Nat}:i∈qU (yP e)↔i∈qU e.upd/\D8 i e.rds=false:=kq
def Py {i:Nat}: ∀{l:qC},D8 i l=true->i∈l
 |[],h=>by cases h
 |j::l,h=>by
  simp only[D8] at h;split at h
  .rename_i e;subst e;exact aGa
  exact aF2 _ (Py h)
def Pz {H U:List (Nat×qP)}{rds:qC}{i:Nat}(h:D8 i rds=true): ∀{u:List (Nat×qP)},i∈qU u->(qS U i=qS H i)∈MH H U rds u
 |[],hi=>by cases hi
 |(j,b)::u,hi=>by
  simp only[MH];simp only[qU,aF1] at hi;rcases hi with rfl|hi
  .rw[aFP h];exact aGa
  have:=Pz (H:=H) (U:=U) h hi;split
  .exact aF2 _ this
  exact this
def a6z {H:List (Nat×qP)}{e:r6}(hs: ∀p∈MH H e.upd e.rds e.upd,p) {i:Nat}(j:i∈qU e.upd) (z:i∉qU (yP e)):qS e.upd i=qS H i/\i∈e.rds:=by
 have h:D8 i e.rds=true:=by
  cases h3:D8 i e.rds with
  |true=>rfl
  |false=>exact absurd (PC.2 ⟨j,h3⟩) z
 exact⟨hs _ (Pz h j),Py h⟩
def BP (os:List Oper) (es:List r6) (t j:Nat):Option qQ:=
 match os[j]?,es[j]? with
 |some o,some e=>if o.dst=some t then some e.slot else none
 |_,_=>none
def yT (es:List r6) (id j:Nat):Option (Option qP):=
 match es[j]? with
 |some e=>if id∈qU (yP e) then some (qS e.upd id) else none
 |none=>none
def PD {id:Nat}{H:sJ}: ∀{u:List (Nat×qP)},qS (rD u H) id=if id∈qU u then qS u id else qS H id
 |[]=>by simp [rD,qU]
 |(k,b)::u=>by
  simp only[rD,qS,qU,aF1];by_cases h:k=id
  .subst h;simp
  rw[aFQ h,aFQ h,PD (u:=u)];have:(id=k\/id∈qU u)↔id∈qU u:=⟨fun j=>j.resolve_left (Ne.symm h),.inr⟩;simp only[this]
def Qa {d:Option Tmp}{s:qQ}{env:List (Nat×qQ)}{t:Nat}:lk (uN d s env) t=if d=some t then s else lk env t:=by
 cases d with
 |none=>simp [uN]
 |some d=>simp only[uN,lk,aFO]
structure kr (T:sZ) (Γ:tP) (ops:List Oper) (os:List Oper) (es:List r6) (s:St) (y:wF) (k:Nat) (o:Oper) (e:r6) (sk:St):Prop where
 ev:AH T Γ ops o sk=some e
 nb:sk.nb=s.nb+32*k
 dst:JX s.N o.dst=true
 ids:JY (s.nb+32*k+32) e.upd=true
 np:sk.np=s.np
 side: ∀p∈e.side,p∈y.side
 env: ∀t,lk sk.env t=vA (fun _=>true) (BP os es t) (lk s.env t) k
 heap: ∀id,qS sk.H id=vA (fun _=>true) (yT es id) (qS s.H id) k
 same: ∀id,id∈qU e.upd->id∉qU (yP e)->qS e.upd id=qS sk.H id/\id∈e.rds
structure ku (T:sZ) (Γ:tP) (ops:List Oper) (os:List Oper) (es:List r6) (s:St) (y:wF):Prop where
 len:es.length=os.length
 nb:y.s.nb=s.nb+32*os.length
 step: ∀k o e,os[k]? =some o->es[k]? =some e->∃sk,kr T Γ ops os es s y k o e sk
 env: ∀t,lk y.s.env t=vA (fun _=>true) (BP os es t) (lk s.env t) os.length
 heap: ∀id,qS y.s.H id=vA (fun _=>true) (yT es id) (qS s.H id) os.length
def XW {T:sZ}{Γ:tP}{ops:List Oper}: ∀{l:List Oper}{x y:wF},vD T Γ ops l (some x)=some y->(∀p∈y.side,p)->∃es:List r6,y.es=es.reverse++x.es/\ku T Γ ops l es x.s y
 |[],x,y,h,_=>by
  simp only[vD,aFO] at h;subst h;exact⟨[],rfl,rfl,rfl,fun k o e h=>by simp at h,fun _=>rfl,fun _=>rfl⟩
 |o::l,x,y,h,E=>by
  obtain⟨e,M,K,h3,h4⟩:=kf h;obtain⟨es,O,D⟩:=XW h4 E;have j: ∀{i:Nat},i∈qU e.upd->i∉qU (yP e)->qS e.upd i=qS x.s.H i/\i∈e.rds:=fun M K=>a6z (fun p hp=>E p ((IF h4).1 p (xK.2 (.inr (xK.2 (.inl hp)))))) M K;have envs: ∀t k,vA (fun _=>true) (BP (o::l) (e::es) t) (lk x.s.env t) (k+1)=vA (fun _=>true) (BP l es t) (lk (uN o.dst e.slot x.s.env) t) k:=fun t k=>by
   rw[kp,aFP rfl,Qa];have:(BP (o::l) (e::es) t 0).getD (lk x.s.env t)=if o.dst=some t then e.slot else lk x.s.env t:=by
    simp only[BP,aGo];split<;>rfl
   rw[this];rfl
  have z: ∀id k,vA (fun _=>true) (yT (e::es) id) (qS x.s.H id) (k+1)=vA (fun _=>true) (yT es id) (qS (rD e.upd x.s.H) id) k:=fun id k=>by
   rw[kp,aFP rfl,PD];have:(yT (e::es) id 0).getD (qS x.s.H id)=if id∈qU e.upd then qS e.upd id else qS x.s.H id:=by
    simp only[yT,aGo];by_cases G:id∈qU (yP e)
    .rw[aFP G,aFP (PC.1 G).1];rfl
    rw[aFQ G];by_cases I:id∈qU e.upd
    .rw[aFP I,(j I G).1];rfl
    rw[aFQ I];rfl
   rw[this];rfl
  refine⟨e::es,by rw[O];simp,by simp [D.len],?_,?_,fun t=>?_,fun id=>?_⟩
  .have:=D.nb;simp only at this;rw[this];simp only[aFV];omega
  .intro k o' e' ho F;cases k with
   |zero=>
    simp only[aGo,aFO] at ho F;subst ho;subst F;exact⟨x.s,M,rfl,K,h3,rfl,fun p hp=>(IF h4).1 p (xK.2 (.inr (xK.2 (.inr hp)))),fun _=>rfl,fun _=>rfl,fun id=>j⟩
   |succ k=>
    simp only[aGC] at ho F;obtain⟨sk,q⟩:=D.step k o' e' ho F;refine⟨sk,q.ev,by rw[q.nb];simp only;omega,q.dst,?_,q.np,q.side,fun t=>by rw[q.env t,envs],fun id=>by rw[q.heap id,z],q.same⟩;have:=q.ids;simp only at this;rw[show x.s.nb+32*(k+1)+32=x.s.nb+32+32*k+32 by omega];exact this
  .rw[aFV,envs];exact D.env t
  rw[aFV,z];exact D.heap id
def Qb {i0 j0:Nat}{ops:Array Oper}{bs:qC}{nb i:Nat}{o:Oper}{e:r6}: ∀{ps:List Oper}{fs:List r6}{j:Nat},WS i0 j0 ops bs nb i o e ps fs j=true->∀k p f,ps[k]? =some p->fs[k]? =some f->
  (bs.getD (j+k) 0).testBit i=true\/(o.apart ops p=true/\(I6 e f=true\/(i=i0/\j+k=j0))/\MI (nb+32*i) f.upd=true)
 |p::ps,f::fs,j,h,k,p',f',hp,hf=>by
  simp only[WS,aF0,aHo,aFY] at h;cases k with
  |zero=>
   simp only[aGo,aFO] at hp hf;subst hp;subst hf;exact h.1.imp id (fun h=>⟨h.1.1,h.1.2,h.2⟩)
  |succ k=>
   simp only[aGC] at hp hf;have:=Qb h.2 k p' f' hp hf;rw[show j+(k+1)=j+1+k by omega];exact this
 |[],_,_,_,_,_,_,hp,_=>by simp at hp
 |_::_,[],_,_,_,_,_,_,hf=>by simp at hf
def kv {i0 j0:Nat}{ops:Array Oper}{bs:qC}{nb:Nat}: ∀{os:List Oper}{es:List r6}{m:Nat},WT i0 j0 ops bs nb os es m=true->∀i j o e p f,i<j->os[i]? =some o->es[i]? =some e->os[j]? =some p->es[j]? =some f->
  (bs.getD (m+j) 0).testBit (m+i)=true\/(o.apart ops p=true/\(I6 e f=true\/(m+i=i0/\m+j=j0))/\MI (nb+32*(m+i)) f.upd=true)
 |o'::os,e'::es,m,h,i,j,o,e,p,f,D,ho,z,hp,hf=>by
  simp only[WT,aF0] at h;obtain⟨j,rfl⟩: ∃k,j=k+1:=⟨j-1,pT⟩;simp only[aGC] at hp hf;cases i with
  |zero=>
   simp only[aGo,aFO] at ho z;subst ho;subst z;have:=Qb h.1 j p f hp hf;rw[show m+(j+1)=m+1+j by omega];exact this
  |succ i=>
   simp only[aGC] at ho z;have:=kv h.2 i j o e p f pT ho z hp hf;rw[show m+(j+1)=m+1+j by omega,show m+(i+1)=m+1+i by omega];exact this
 |[],_,_,_,_,_,_,_,_,_,_,ho,_,_,_=>by simp at ho
 |_::_,[],_,_,_,_,_,_,_,_,_,_,z,_,_=>by simp at z
def Qc: ∀{os:List Oper}{m:Nat},WU os m=true->∀i o,os[i]? =some o->∀e∈o.after,Region.binds .any e=true->e.on<m+i
 |o'::os,m,h,i,o,ho,e,j,hb=>by
  simp only[WU,aF0] at h;cases i with
  |zero=>
   simp only[aGo,aFO] at ho;subst ho;have:=aGK.1 h.1 e (by simpa using j);simpa[hb] using this
  |succ i=>
   simp only[aGC] at ho;have:=Qc h.2 i o ho e j hb;omega
 |[],_,_,_,_,ho,_,_,_=>by simp at ho
def XX {l:qC}: ∀{u:List (Nat×qP)},RR u l=false->∀i,i∈qU u->i∉l
 |(k,b)::u,h,i,hi=>by
  simp only[RR,aHb] at h;simp only[qU,aF1] at hi;rcases hi with rfl|hi
  .simpa using h.1
  exact XX h.2 i hi
def PE {a b:r6}(h:I6 a b=true):(∀i∈qU (yP a),i∉b.rds/\i∉qU b.upd)/\(∀i∈qU (yP b),i∉a.rds):=by
 simp only[I6,aF0,aGj] at h;exact⟨fun i hi=>⟨fun j=>XX h.1 i hi (xK.2 (.inl j)),fun j=>XX h.1 i hi (xK.2 (.inr j))⟩,fun i hi=>XX h.2 i hi⟩
def Qd {lo:Nat}: ∀{u:List (Nat×qP)},MI lo u=true->∀i∈qU u,i<lo\/lo+32<=i
 |(k,b)::u,h,i,hi=>by
  simp only[MI,aF0,aHo,aFY] at h;simp only[qU,aF1] at hi;rcases hi with rfl|hi
  .exact h.1
  exact Qd h.2 i hi
def kw (os:List Oper) (p:Nat->Bool):Prop:= ∀j o,os[j]? =some o->p j=true->∀e∈o.after,Region.binds .any e=true->p e.on=true
def Qe {p:Nat->Bool}{acc:Array Nat}(D: ∀i j,(acc.getD i 0).testBit j=true->p i=true->p j=true) {i:Nat}: ∀{es:List Edge}{s:Nat},(s.testBit i=true->p i=true)->(∀e∈es,Region.binds .any e=true->p e.on=true)->
  (es.foldl (fun s e=>if Region.binds .any e then s|||2^e.on|||acc.getD e.on 0 else s) s).testBit i=true->p i=true
 |[],s,hs,_,h=>hs h
 |e::es,s,hs,E,h=>by
  simp only[List.foldl_cons] at h;refine Qe D (es:=es) (fun z=>?_) (fun e' F=>E e' (aF2 _ F)) h;split at z
  .rename_i hb;simp only[Nat.testBit_or,aHo,Nat.testBit_two_pow,aFY] at z;rcases z with(z|z) |z
   .exact hs z
   .rw[<-z];exact E e pV hb
   exact D _ _ z (E e pV hb)
  exact hs z
def Qf {p:Nat->Bool}: ∀{os:List Oper}{acc:Array Nat},(∀i j,(acc.getD i 0).testBit j=true->p i=true->p j=true)->(∀j o,os[j]? =some o->p (acc.size+j)=true->∀e∈o.after,Region.binds .any e=true->p e.on=true)->
  ∀i j,((os.foldl (fun acc o=>acc.push (o.after.foldl (fun s e=>if Region.binds .any e then s|||2^e.on|||acc.getD e.on 0 else s) 0)) acc).getD i 0).testBit j=true->p i=true->p j=true
 |[],acc,z,_,i,j,h,hp=>z i j h hp
 |o::os,acc,z,D,i,j,h,hp=>by
  simp only[List.foldl_cons] at h;refine Qf (os:=os) (fun i j h hp=>?_) (fun k o' ho E=>?_) i j h hp
  .rw[aGn,Array.getElem?_push] at h;split at h
   .rename_i hi;simp only[aHV] at h;rw[<-aHU] at h;refine Qe z (es:=o.after.toList) (s:=0) (fun h=>by simp at h) (fun e F hb=>D 0 o rfl (by rw[hi] at hp;exact hp) e (by simpa using F) hb) h
   rw[<-aGn] at h;exact z i j h hp
  refine D (k+1) o' ho ?_;rw[Array.size_push] at E;rw[show acc.size+(k+1)=acc.size+1+k by omega];exact E
def Qg {ops:Array Oper}{p:Nat->Bool}(hp:kw ops.toList p) {i j:Nat}(h:((Region.before ops).toList.getD i 0).testBit j=true) (hi:p i=true):p j=true:=by
 refine Qf (os:=ops.toList) (acc:= #[]) (p:=p) (fun i j h=>by simp at h) (fun j o ho z=>hp j o ho (by simpa using z)) i j ?_ hi;unfold Region.before at h;rw[<-aHU] at h;rw[aGn,<-aGX,<-aGb];exact h
def ED (l:Array Bool):Nat->Nat
 |0=>0
 |k+1=>ED l k+if l.getD k false=true then 0 else 1
theorem Qh {l l':Array Bool}: ∀{n:Nat},(∀j,j<n->l'.getD j false=l.getD j false)->ED l' n=ED l n
 |0,_=>rfl
 |n+1,h=>by simp only[ED];rw[Qh (fun j z=>h j pT),h n pT]
theorem Qi {l:Array Bool}: ∀{n:Nat},ED l n=0->∀j,j<n->l.getD j false=true
 |n+1,h,j,E=>by
  simp only[ED] at h;by_cases D:l.getD n false=true
  .by_cases z:j=n
   .subst z;exact D
   exact Qi (n:=n) pT j pT
  rw[aFQ D] at h;omega
theorem IG {l:Array Bool}{i j:Nat}(hi:i<l.size):(l.setIfInBounds i true).getD j false=if j=i then true else l.getD j false:=by
 by_cases h:j=i
 .subst h;rw[aFP rfl,aGn,Array.getElem?_setIfInBounds_self_of_lt hi];rfl
 rw[aFQ h,aGn,aG9 (Ne.symm h),<-aGn]
theorem Qj {l:Array Bool}{i:Nat}(hi:i<l.size) (hf:l.getD i false=false): ∀{n:Nat},i<n->ED (l.setIfInBounds i true) n+1=ED l n
 |n+1,h=>by
  simp only[ED];by_cases z:n=i
  .subst z;rw[IG hi,aFP rfl,aFP rfl,hf,Qh (l:=l) (fun j D=>by rw[IG hi,aFQ pT])];simp
  rw[IG hi,aFQ z];have:=Qj hi hf (n:=n) pT;omega
theorem Qk {p:Nat->Bool}: ∀{n:Nat},(∃j,j<n/\p j=false)->∃j,j<n/\p j=false/\∀k,k<j->p k=true
 |0,⟨j,h,_⟩=>by omega
 |n+1,⟨j,h,z⟩=>by
  by_cases hs: ∃j,j<n/\p j=false
  .obtain⟨k,F,D,h3⟩:=Qk hs;exact⟨k,pT,D,h3⟩
  refine⟨j,h,z,fun k E=>?_⟩;cases hp:p k with
  |true=>rfl
  |false=>exact absurd ⟨k,pT,hp⟩ hs
theorem sO.ext {g:Gh}{w:qD}{H H':sJ}(h:sO g w H) (e: ∀i,qS H' i=qS H i):sO g w H':=
 ⟨fun i b hb=>h.blk i b (by rw[<-e];exact hb),fun i j bi bj b o z E D=>h.dis i j bi bj b o z (by rw[<-e];exact E) (by rw[<-e];exact D),h.sl,h.tab.1,fun i b bb oo hb ho=>h.tab.2 i b bb oo (by rw[<-e];exact hb) ho⟩
theorem tR.ext {A:Nat->Nat->Prop}{L:List qP}{g0 g:Gh}{w0 w:qD}{H H':sJ}(h:tR A L g0 w0 g w H) (e: ∀i,qS H' i=qS H i):tR A L g0 w0 g w H':=
 ⟨h.shut,h.fr,fun i blk b o hb=>h.perm i blk b o (by rw[<-e];exact hb),h.J,h.live,fun i u y us hi hb=>h.ty i u y us hi (by rw[<-e];exact hb),h.cur⟩
theorem Ql (g:Gh) (w:qD) (d:Nat):Le g w g {w with drawn:=d}:=⟨fun _ _ h=>h,fun _ _ _=>rfl,fun _ _ h=>h,fun _ _ _ h=>h⟩
theorem sO.drawn {g:Gh}{w:qD}{H:sJ}(h:sO g w H) (d:Nat):sO g {w with drawn:=d} H:=
 ⟨fun i b hb=>K2 (h.blk i b hb) (Ql g w d) rfl rfl (fun _ _ _=>⟨rfl,rfl⟩) (fun _ _=>rfl) (fun _ _ _ h=>h) (fun _ _ _ _ h=>h),h.dis,h.sl,JN h.tab.1 (aGc _) (fun _ _=>rfl),h.tab.2⟩
theorem tR.drawn {A:Nat->Nat->Prop}{L:List qP}{g0 g:Gh}{w0 w:qD}{H:sJ}(h:tR A L g0 w0 g w H) (d:Nat):tR A L g0 w0 g {w with drawn:=d} H:=
 ⟨h.shut,⟨h.fr.os,h.fr.tape,h.fr.output,h.fr.size,h.fr.blk,h.fr.cell,h.fr.new,h.fr.shape⟩,h.perm,h.J,h.live,h.ty,h.cur⟩
theorem kz {rds:qC}{id:Nat}(h:D8 id rds=false): ∀{u:List (Nat×qP)},qS (JZ rds u) id=qS u id
 |[]=>rfl
 |(k,b)::u=>by
  simp only[JZ,qS];by_cases j:k=id
  .subst j;rw[aFQ (by rw[h];simp)];simp [qS]
  split
  .exact kz h
  simp only[qS,aFQ j];exact kz h
theorem a6A {e:r6}{id:Nat}(h:D8 id e.rds=false):qS (yP e) id=qS e.upd id:=kz h
theorem Qm {T:sZ}{Γ:tP}{ops:List Oper}: ∀{k:Nat}{l:List Oper}{x y:wF},vD T Γ ops l (some x)=some y->∃a,vD T Γ ops (l.take k) (some x)=some a/\vD T Γ ops (l.drop k) (some a)=some y
 |0,l,x,y,h=>⟨x,rfl,h⟩
 |k+1,[],x,y,h=>⟨x,rfl,h⟩
 |k+1,o::l,x,y,h=>by
  simp only[List.take_succ_cons,aHO,vD] at h|-;cases j:WR o x (AH T Γ ops o x.s) with
  |none=>
   rw[j] at h;cases l with
   |nil=>cases h
   |cons p l=>cases h
  |some z=>rw[j] at h;exact Qm h
theorem lb {α:Type}{p:Nat->Bool}{wr wr':Nat->Option α}{b:α}: ∀{n:Nat},(∀j,j<n->wr j=wr' j)->vA p wr b n=vA p wr' b n
 |0,_=>rfl
 |n+1,h=>by
  simp only[vA];rw[h n pT,lb (wr:=wr) (wr':=wr') (fun j z=>h j pT)]
theorem a6B {T:sZ}{Γ:tP}{ops:Array Oper}{es:List r6}{s:St}{y a1:wF}{i0:Nat}{o1:Oper}{ex fx:r6}(run:ku T Γ ops.toList ops.toList es s y) (hs: ∀p∈y.side,p) (F:ops.toList[i0]? =some o1) (D:vD T Γ ops.toList (ops.toList.take i0) (some ⟨s,[],[]⟩)=some a1)
  (K:y.es.reverse=es) (h:vD T Γ ops.toList ops.toList (some ⟨s,[],[]⟩)=some y) (G:AH T Γ ops.toList o1 ⟨a1.s.env,rD (yP fx) a1.s.H,a1.s.nb,a1.s.N,a1.s.np⟩=some ex):
  ∀sk oi,ops.toList[i0]? =some oi->kr T Γ ops.toList ops.toList es s y i0 oi ex sk->AH T Γ ops.toList oi ⟨sk.env,rD (yP fx) sk.H,sk.nb,sk.N,sk.np⟩=some ex:=by
 intro sk oi E st;rw[F] at E;cases E;obtain⟨a2,R,Q⟩:=Qm (k:=i0) h;rw[D] at R;cases R;have V:i0<ops.toList.length:=(aF5.1 F).1;have z:(ops.toList.take i0).length=i0:=by rw[aGy];omega
 obtain⟨es2,e2,r2⟩:=XW Q hs;obtain⟨es1,e1,r1⟩:=XW D (fun p hp=>hs p ((IF Q).1 p hp));have O:es=es1++es2:=by rw[<-K,e2,e1];simp
 have U:es1.length=i0:=by rw[r1.len,z]
 have I:=IF D;refine kj G (fun t _=>?_) (fun id _=>?_) ?_ ?_
 .show lk sk.env t=lk a1.s.env t;rw[st.env t,r1.env t,z];refine lb (fun j M=>?_);unfold BP;rw[O,aF9 pT,aGQ M]
 .show qS (rD (yP fx) sk.H) id=qS (rD (yP fx) a1.s.H) id;rw[PD,PD,st.heap id,r1.heap id,z];have:vA (fun _=>true) (yT es id) (qS s.H id) i0=vA (fun _=>true) (yT es1 id) (qS s.H id) i0:=lb (fun j M=>by
   unfold yT;rw[O,aF9 pT])
  rw[this]
 .show sk.nb=a1.s.nb;rw[st.nb,r1.nb,z]
 show sk.np=a1.s.np;rw[st.np,I.2.2]
section
variable {B:Nat}{P:Program}{T:sZ}{Γ:tP}(hT:xZ P T) (hΓ:F6 P Γ) {A:Nat->Nat->Prop}{L:List qP}{g0:Gh}{w0:qD}{Q:Exit->Act->qD->Prop}
structure Qn (B:Nat) (A:Nat->Nat->Prop) (L:List qP) (g0:Gh) (w0:qD) (ops:Array Oper) (es:List r6) (s:St) (listed:Array Bool) (g:Gh) (w:qD) (a:Act) (env:List (Nat×qQ)) (H:sJ):Prop where
 size:listed.size=ops.size
 closed:kw ops.toList (fun j=>listed.getD j false)
 eok:BN g w env a.tmps
 look: ∀t,lk env t=vA (fun j=>listed.getD j false) (BP ops.toList es t) (lk s.env t) ops.size
 heap:sO g w H
 get: ∀id,qS H id=vA (fun j=>listed.getD j false) (yT es id) (qS s.H id) ops.size
 tmps:a.tmps.size=s.N
 def_:AL B w a.defers
 good:tR A L g0 w0 g w H
 len:L.length=s.np
 free: ∀j,j<ops.size->listed.getD j false=false->∀id,s.nb+32*j<=id->id<s.nb+32*j+32->g.J id=none/\∀n,g.cur id n=none
 top: ∀id,s.nb+32*ops.size<=id->g.J id=none/\∀n,g.cur id n=none
include hT hΓ
theorem a6C {i0 j0:Nat}{ro:qB}{ops:Array Oper}{es:List r6}{s:St}{y:wF}(run:ku T Γ ops.toList ops.toList es s y) (hs: ∀p∈y.side,p) (hB:WV i0 j0 ops s.nb es=true) (hE:i0<ops.size->i0<j0/\∃ex fx,es[i0]? =some ex/\ex.upd=[]/\es[j0]? =some fx/\∀sk oi,ops.toList[i0]? =some oi->kr T Γ ops.toList ops.toList es s y i0 oi ex sk->AH T Γ ops.toList oi ⟨sk.env,rD (yP fx) sk.H,sk.nb,sk.N,sk.np⟩=some ex)
  (hQ: ∀g a w env H,BN g w env a.tmps->(∀t,lk env t=lk y.s.env t)->sO g w H->(∀id,qS H id=qS y.s.H id)->a.tmps.size=s.N->AL B w a.defers->tR A L g0 w0 g w H->(∀id,s.nb+32*ops.size<=id->g.J id=none/\∀n,g.cur id n=none)->Q .normal a w):
  ∀(fuel:Nat) (listed:Array Bool) (g:Gh) (w:qD) (a:Act) (env:List (Nat×qQ)) (H:sJ),ED listed ops.size<=fuel->Qn B A L g0 w0 ops es s listed g w a env H->wpAnyIn (GL ro) 0 P .any ops Q fuel listed a w:=by
 simp only[WV,aF0] at hB;obtain⟨hV,hK⟩:=hB;have O:ops.toList.length=ops.size:=aGP;have done: ∀(listed:Array Bool) (g:Gh) (w:qD) (a:Act) (env:List (Nat×qQ)) (H:sJ),Qn B A L g0 w0 ops es s listed g w a env H->(∀j,j<ops.size->listed.getD j false=true)->Q .normal a w:=by
  intro listed g w a env H m I;refine hQ g a w env H m.eok (fun t=>?_) m.heap (fun id=>?_) m.tmps m.def_ m.good m.top
  .rw[m.look t,run.env t,O];exact N1 (fun j E _=>I j E)
  rw[m.get id,run.heap id,O];exact N1 (fun j E _=>I j E)
 have stuck: ∀(listed:Array Bool),listed.size=ops.size->Region.ready .any ops listed=[]->∀j,j<ops.size->listed.getD j false=true:=by
  intro listed h5 hr j E;cases hp:listed.getD j false with
  |true=>rfl
  |false=>
   obtain⟨k,z,G,h3⟩:=Qk (p:=fun j=>listed.getD j false) ⟨j,E,hp⟩;have:k∈Region.ready .any ops listed:=by
    rw[mem_ready];refine⟨?_,ops[k],by simp [z],fun e he hb=>?_⟩
    .have G:listed.getD k false=false:=G;rw[aGn] at G|-;rw[aHM pT] at G|-;exact G
    have:=Qc hV k ops[k] (by simp [z]) e he hb;exact h3 e.on pT
   rw[hr] at this;cases this
 intro fuel
 induction fuel with
 |zero=>
  intro listed g w a env H hu m;have I:=Qi (l:=listed) (n:=ops.size) pT;refine⟨?_,done listed g w a env H m I⟩;cases hr:Region.ready .any ops listed with
  |nil=>rfl
  |cons i r=>
   have:i∈Region.ready .any ops listed:=by rw[hr];simp
   obtain⟨h0,o,ho,_⟩:=mem_ready.1 this;have hi:i<ops.size:=(aGh.1 ho).1;have:=I i hi;rw[aGn] at this h0;rw[aHM (by rw[m.size];exact hi)] at this h0;simp at this h0;rw[this] at h0;cases h0
 |succ fuel ih=>
  intro listed g w a env H hu m;refine⟨fun hr=>done listed g w a env H m (stuck listed m.size hr),fun i hi=>?_⟩;obtain⟨h0,o,ho,I⟩:=mem_ready.1 hi;have R:i<ops.size:=(aGh.1 ho).1;have U:i<listed.size:=by rw[m.size];exact R
  have hc:listed.getD i false=false:=by
   rw[aGn] at h0|-;rw[aHM U] at h0|-;exact h0
  have X:ops.toList[i]? =some o:=by simpa using ho
  obtain⟨e,he⟩: ∃e,es[i]? =some e:=⟨es[i]'(by rw[run.len,O];exact R),by simp⟩;obtain⟨sk,st⟩:=run.step i o e X he;have hA:kw ops.toList (fun j=>(listed.setIfInBounds i true).getD j false):=by
   intro j o' hC E ed hL hb;simp only[IG U] at E|-;by_cases Y:j=i
   .subst Y;rw[X] at hC;obtain rfl:=aFU hC;have:=I ed hL hb;split
    .rfl
    exact this
   rw[aFQ Y] at E;have:=m.closed j o' hC E ed hL hb;split
   .rfl
   exact this
  have hM: ∀j,((Region.before ops).toList.getD i 0).testBit j=true->j≠i->listed.getD j false=true:=by
   intro j E hne;have:=Qg hA E (by simp only[IG U];simp);simp only[IG U,aFQ hne] at this;exact this
  have hN: ∀j,((Region.before ops).toList.getD j 0).testBit i=true->listed.getD j false=true->False:=by
   intro j E hl;have:=Qg m.closed E hl;rw[hc] at this;cases this
  have pairLt: ∀j p f,j<i->ops.toList[j]? =some p->es[j]? =some f->listed.getD j false=true\/(p.apart ops o=true/\(I6 f e=true\/(j=i0/\i=j0))/\MI (s.nb+32*j) e.upd=true):=by
   intro j p f Y hp hf;rcases kv hK j i p f o e Y hp hf X he with z|z
   .rw[aGk,aGk] at z;exact .inl (hM j z pT)
   rw[aGk,aGk] at z;exact .inr z
  have pairGt: ∀j p f,i<j->ops.toList[j]? =some p->es[j]? =some f->listed.getD j false=true->o.apart ops p=true/\(I6 e f=true\/(i=i0/\j=j0)):=by
   intro j p f hk hp hf hl;rcases kv hK i j o e p f hk X he hp hf with z|z
   .rw[aGk,aGk] at z;exact(hN j z hl).elim
   rw[aGk,aGk] at z;exact⟨z.1,z.2.1⟩
  have same: ∀{α:Type}(wr:Nat->Option α) (b:α),(∀j p f,j<i->ops.toList[j]? =some p->es[j]? =some f->wr j≠none->p.apart ops o=true->(I6 f e=true\/(j=i0/\i=j0))->False)->
    (∀j p f,i<j->ops.toList[j]? =some p->es[j]? =some f->wr j≠none->listed.getD j false=true->o.apart ops p=true->(I6 e f=true\/(i=i0/\j=j0))->False)->(∀j,wr j≠none->∃f,es[j]? =some f)->
    vA (fun j=>listed.getD j false) wr b ops.size=vA (fun _=>true) wr b i:=by
   intro α wr b hI hU M;rw[<-km (n:=ops.size) pT];refine N1 (fun j E hw=>?_);obtain⟨f,hf⟩:=M j hw;have F:ops.toList[j]? =some ops[j]:=by simp [E]
   rcases Nat.lt_trichotomy j i with z|z|z
   .rw[aGx z];rcases pairLt j _ f z F hf with G|G
    .exact G
    exact(hI j _ f z F hf hw G.1 G.2.1).elim
   .subst z;simp [hc]
   have: ¬j<i:=by omega
   rw[decide_eq_false this];cases hl:listed.getD j false with
   |false=>rfl
   |true=>
    obtain⟨G,h3⟩:=pairGt j _ f z F hf hl;exact(hU j _ f z F hf hw hl G h3).elim
  have exS: ∀t j,BP ops.toList es t j≠none->∃f,es[j]? =some f:=by
   intro t j h;unfold BP at h;cases hf:es[j]? with
   |none=>rw[hf] at h;exact absurd (by split<;>first|rfl|(rename_i z;cases z)) h
   |some f=>exact⟨f,rfl⟩
  have exH: ∀t j,yT es t j≠none->∃f,es[j]? =some f:=by
   intro t j h;unfold yT at h;cases hf:es[j]? with
   |none=>rw[hf] at h;exact absurd rfl h
   |some f=>exact⟨f,rfl⟩
  have dS: ∀t j p f,ops.toList[j]? =some p->es[j]? =some f->BP ops.toList es t j≠none->p.dst=some t:=by
   intro t j p f hp hf h;unfold BP at h;rw[hp,hf] at h;simp only at h;split at h
   .assumption
   exact absurd rfl h
  have dH: ∀id j f,es[j]? =some f->yT es id j≠none->id∈qU (yP f):=by
   intro id j f hf h;unfold yT at h;rw[hf] at h;simp only at h;split at h
   .assumption
   exact absurd rfl h
  have noW: ∀id j f,es[j]? =some f->yT es id j≠none->j=i0->False:=fun id j f hf hw E=>by
   subst E;obtain⟨_,ex,fx,M,hv,_⟩:=hE (by have:=(aF5.1 hf).1;rw[run.len,O] at this;exact this);have:=(PC.1 (dH id j _ M hw)).1;rw[hv] at this;cases this
  have hz: ∀id∈e.rds,¬(i=i0/\listed.getD j0 false=true)->qS H id=qS sk.H id:=fun id D hX=>by
   rw[m.get id,st.heap id];refine same _ _ (fun j p f _ hp hf hw _ V=>?_) (fun j p f _ hp hf hw hl _ V=>?_) (exH id)
   .rcases V with V|V
    .exact((PE V).1 id (dH id j f hf hw)).1 D
    exact noW id j f hf hw V.1
   rcases V with V|V
   .exact(PE V).2 id (dH id j f hf hw) D
   exact hX ⟨V.1,V.2▸hl⟩
  have hy: ∀t∈o.looksAt ops,lk env t=lk sk.env t:=fun t ht=>by
   rw[m.look t,st.env t];refine same _ _ (fun j p f _ hp hf hw V _=>?_) (fun j p f _ hp hf hw _ V _=>?_) (exS t)
   .exact(Oper.apart_spec V).1 t (dS t j p f hp hf hw) ht
   exact(Oper.apart_spec V).2.2 t (dS t j p f hp hf hw) ht
  have h6: ∀(s':St) (N':Nat),AH T Γ ops.toList o ⟨s'.env,s'.H,s'.nb,N',s'.np⟩=AH T Γ ops.toList o s':=fun _ _=>rfl;have hD:AH T Γ ops.toList o ⟨env,H,s.nb+32*i,s.N,s.np⟩=some e:=by
   by_cases hX:i=i0/\listed.getD j0 false=true
   .obtain⟨z,hR⟩:=hX;subst z;obtain⟨hY,ex,fx,M,hv,hJ,hP⟩:=hE R;rw[he] at M;cases M;refine kj (hP sk o X st) (fun t ht=>hy t ht) (fun id D=>?_) st.nb.symm st.np.symm;show qS H id=qS (rD (yP fx) sk.H) id;have hS:j0<ops.size:=by
     have:=(aF5.1 hJ).1;rw[run.len,O] at this;exact this
    rw[m.get id,XV (p:=fun j=>listed.getD j false&& !decide (j=j0)) (i:=j0) pV (fun j=>by
     by_cases h:j=j0
     .subst h;rw[aFP rfl];exact hR
     rw[aFQ h];simp [h]) hS (fun j z G h3=>?_)]
    .have hG:vA (fun j=>listed.getD j false&& !decide (j=j0)) (yT es id) (qS s.H id) ops.size=qS sk.H id:=by
      rw[st.heap id,<-km (n:=ops.size) pT];refine N1 (fun j E hw=>?_);obtain⟨f,hf⟩:=exH id j hw;have F:ops.toList[j]? =some ops[j]:=by simp [E]
      rcases Nat.lt_trichotomy j i with z|z|z
      .rw[aGx z];rcases pairLt j _ f z F hf with G|G
       .rw[G,decide_eq_false pT];rfl
       rcases G.2.1 with G|G
       .exact(((PE G).1 id (dH id j f hf hw)).1 D).elim
       omega
      .exact(noW id j f hf hw z).elim
      have h9: ¬j<i:=by omega
      rw[decide_eq_false h9];cases hl:listed.getD j false with
      |false=>rfl
      |true=>
       obtain⟨_,h3⟩:=pairGt j _ f z F hf hl;rcases h3 with h3|h3
       .exact((PE h3).2 id (dH id j f hf hw) D).elim
       rw[aGx h3.2];rfl
     rw[hG,PD];unfold yT;rw[hJ];simp only;by_cases h7:id∈qU (yP fx)
     .rw[aFP h7,aFP h7,a6A (PC.1 h7).2];rfl
     rw[aFQ h7,aFQ h7];rfl
    left;have hl:listed.getD j false=true:=by
     cases h:listed.getD j false with
     |true=>rfl
     |false=>rw[h] at h3;cases h3
    cases hw:yT es id j with
    |none=>rfl
    |some v=>
     obtain⟨f,hf⟩:=exH id j (by rw[hw];simp);have F:ops.toList[j]? =some ops[j]:=by simp [G]
     obtain⟨_,h4⟩:=pairGt j _ f pT F hf hl;rcases h4 with h4|h4
     .exact((PE h4).2 id (dH id j f hf (by rw[hw];simp)) D).elim
     omega
   exact kj st.ev (fun t ht=>hy t ht) (fun id D=>hz id D hX) st.nb.symm st.np.symm
  have hW: ∀id,id∈qU e.upd->¬(i=i0/\listed.getD j0 false=true):=fun id D hX=>by
   obtain⟨z,_⟩:=hX;subst z;obtain⟨_,ex,fx,M,hv,_⟩:=hE R;rw[he] at M;cases M;rw[hv] at D;cases D
  have hx:yS g (s.nb+32*i) e:=fun id D hle=>m.free i R hc id hle (SG st.ids D);have key:=Oy hT hΓ (ops:=ops.toList) (o:=o) (a:=a) (s:=⟨env,H,s.nb+32*i,s.N,s.np⟩) (K:=wpAnyIn (GL ro) 0 P .any ops Q fuel (listed.setIfInBounds i true)) (Q:=Q) m.eok m.heap hD (fun p hp=>hs p (st.side p hp)) hx (fun g' w' v k=>by
   refine ih (listed.setIfInBounds i true) g' w' (a.put o.dst v) (uN o.dst e.slot env) (rD e.upd H) ?_ ⟨by rw[Array.size_setIfInBounds];exact m.size,hA,ke m.eok k.le k.slot m.tmps st.dst,fun t=>?_,k.heap,fun id=>?_,(Pc _ _ _).trans m.tmps,by rw[Pd];exact m.def_.eff m.heap k,m.good.eff k (m.len▸(SE hD).2),m.len,fun j E hh id z G=>?_,fun id D=>?_⟩
   .have:=Qj U hc R;omega
   .rw[Qa,XV (p:=fun j=>listed.getD j false) (i:=i) hc (fun j=>by simp only[IG U]) R (fun j hk E hl=>?_),<-m.look t]
    .unfold BP;rw[X,he];simp only;split<;>rfl
    have F:ops.toList[j]? =some ops[j]:=by simp [E]
    obtain⟨f,hf⟩: ∃f,es[j]? =some f:=⟨es[j]'(by rw[run.len,O];exact E),by simp⟩;obtain⟨h3,_⟩:=pairGt j _ f hk F hf hl;by_cases hw:BP ops.toList es t j=none
    .exact .inl hw
    right;have hd:=dS t j _ f F hf hw;by_cases Z:BP ops.toList es t i=none
    .exact Z
    have hF:=dS t i _ e X he Z;exact absurd hd ((Oper.apart_spec h3).2.1 t hF)
   .rw[PD,XV (p:=fun j=>listed.getD j false) (i:=i) hc (fun j=>by simp only[IG U]) R (fun j hk E hl=>?_),<-m.get id]
    .unfold yT;rw[he];simp only;by_cases h7:id∈qU (yP e)
     .rw[aFP h7,aFP (PC.1 h7).1];rfl
     rw[aFQ h7];by_cases h8:id∈qU e.upd
     .obtain⟨q1,q2⟩:=st.same id h8 h7;rw[aFP h8,q1,<-hz id q2 (hW id h8)];rfl
     rw[aFQ h8];rfl
    have F:ops.toList[j]? =some ops[j]:=by simp [E]
    obtain⟨f,hf⟩: ∃f,es[j]? =some f:=⟨es[j]'(by rw[run.len,O];exact E),by simp⟩;obtain⟨_,h3⟩:=pairGt j _ f hk F hf hl;by_cases hw:yT es id j=none
    .exact .inl hw
    right;have hd:=dH id j f hf hw;by_cases Z:yT es id i=none
    .exact Z
    have hF:=dH id i e he Z;rcases h3 with h3|h3
    .exact absurd (PC.1 hd).1 ((PE h3).1 id hF).2
    exact(noW id i e he Z h3.1).elim
   .rw[IG U] at hh;have Y:j≠i:=fun h=>by rw[aFP h] at hh;cases hh
    rw[aFQ Y] at hh;have hn:id∉qU e.upd:=by
     intro hm;have hI:=SG st.ids hm;rcases Nat.lt_or_gt_of_ne Y with h3|h3
     .obtain⟨f,hf⟩: ∃f,es[j]? =some f:=⟨es[j]'(by rw[run.len,O];exact E),by simp⟩;rcases pairLt j ops[j] f h3 (by simp [E]) hf with h4|h4
      .rw[hh] at h4;cases h4
      have:=Qd h4.2.2 id hm;omega
     omega
    have hg:=k.gho id hn;have hb:=m.free j E hh id z G;exact⟨hg.1.trans hb.1,fun n=>by rw[hg.2];exact hb.2 n⟩
   have hn:id∉qU e.upd:=fun hm=>by have:=SG st.ids hm;omega
   have hg:=k.gho id hn;have hb:=m.top id D;exact⟨hg.1.trans hb.1,fun n=>by rw[hg.2];exact hb.2 n⟩)
  unfold wpOpIn;rw[ho];simp only[aHk] at key|-;split at key
  .rename_i hw;rw[aFP hw];exact Pi (Ph hD) key
  rename_i hw;rw[aFQ hw];exact⟨fun _ _=>trivial,key⟩
theorem a6D {i0 j0:Nat}{ro:qB}(hm:P.follows .mixedOrders=true) {id:Nat}{ops:Array Oper}{s:St}{y:wF}{a:Act}{w:qD}{g:Gh}(h:vD T Γ ops.toList ops.toList (some ⟨s,[],[]⟩)=some y) (D:WV i0 j0 ops s.nb y.es.reverse=true) (U:i0<ops.size->i0<j0/\∃ex fx a1 o1,y.es.reverse[i0]? =some ex/\ex.upd=[]/\y.es.reverse[j0]? =some fx/\ops.toList[i0]? =some o1/\vD T Γ ops.toList (ops.toList.take i0) (some ⟨s,[],[]⟩)=some a1/\AH T Γ ops.toList o1 ⟨a1.s.env,rD (yP fx) a1.s.H,a1.s.nb,a1.s.N,a1.s.np⟩=some ex) (hs: ∀p∈y.side,p) (hr:vE B g w s a) (Z:tR A L g0 w0 g w s.H) (X:L.length=s.np)
  (hQ: ∀g' a' w',vE B g' w' y.s a'->tR A L g0 w0 g' w' y.s.H->Q .normal a' w'):(Code.region id ops true).wpIn (GL ro) 0 P Q a w:=by
 obtain⟨es,K,run⟩:=XW h hs;have G:y.es.reverse=es:=by rw[K];simp
 simp only at run;rw[G] at D U;have E:=IF h;have z: ∀j,(Array.replicate ops.size false).getD j false=false:=by
  intro j;rw[aGn,Array.getElem?_replicate];split<;>rfl
 have none: ∀{α:Type}(wr:Nat->Option α) (b:α) n,vA (fun j=>(Array.replicate ops.size false).getD j false) wr b n=b:=by
  intro α wr b n
  induction n with
  |zero=>rfl
  |succ n ih=>simp only[vA];rw[aFQ (by rw[z];simp)];exact ih
 have M:ops.toList.length=ops.size:=aGP;refine wpIn_region_any hm (a6C hT hΓ run hs D (fun hi=>let ⟨c0,ex,fx,a1,o1,c1,c2,c3,c4,c5,c6⟩:=U hi;⟨c0,ex,fx,c1,c2,c3,a6B run hs c4 c5 G h c6⟩) (fun g' a' w' env H he hl Y F V hd O I=>?_) _ _ g _ a s.env s.H ?_ ⟨by simp,fun j o ho R=>?_,fun t=>EC (Ql g w _) (hr.env t),fun t=>?_,hr.heap.drawn _,fun id=>?_,hr.size,hr.def_.same (fun _ h=>h),Z.drawn _,X,fun j _ _ id K _=>hr.nb id pT,fun id K=>hr.nb id pT⟩)
 .refine hQ g' a' w' ⟨fun t=>by rw[<-hl t];exact he t,Y.ext (fun i=>(F i).symm),by rw[E.2.1];exact V,fun i hi=>I i ?_,hd,?_⟩ (O.ext (fun i=>(F i).symm))
  .rw[run.nb,M] at hi;exact hi
  rw[E.2.2,run.nb];exact aGL hr.np (Nat.le_add_right _ _)
 .have: ∀n (l:Array Bool),ED l n<=n:=by
   intro n l
   induction n with
   |zero=>exact aGc _
   |succ n ih=>simp only[ED];split<;>omega
  exact this _ _
 .simp only[z] at R;cases R
 .rw[none]
 exact(none _ _ _).symm
end
theorem lc: ∀{l:List Prop},rN l->∀p∈l,p
 |[p],h,q,hq=>by simp only[aF7] at hq;subst hq;exact h
 |p::q::r,h,x,j=>by
  rcases aF1.1 j with rfl|j
  .exact h.1
  exact lc h.2 x j
theorem Qo {p:Nat->Prop}(h: ∃n,p n): ∃n,p n/\∀m,p m->n<=m:=by
 obtain⟨n,z⟩:=h
 induction n using Nat.strongRecOn with
 |_ n ih=>
  by_cases hs: ∃m,m<n/\p m
  .obtain⟨m,hm,hp⟩:=hs;exact ih m hm hp
  exact⟨n,z,fun m hm=>Nat.le_of_not_lt fun j=>hs ⟨m,j,hm⟩⟩
noncomputable def SH (p:Nat->Prop):Nat:=open Classical in if h: ∃n,p n then(Qo h).choose else 0
theorem XY {p:Nat->Prop}(h: ∃n,p n):p (SH p)/\∀m,p m->SH p<=m:=by
 unfold SH;rw[aHQ h];exact(Qo h).choose_spec
def GM:Exit->Option Ex
 | .normal=>some .normal
 | .exit id=>some (.exit id)
 | .ret=>some .ret
 |_=>none
def Qp (B:Nat) (A:Nat->Nat->Prop) (L:List qP) (g0:Gh) (w0:qD) (Q:Ex->St->Prop) (x:Exit) (a:Act) (w:qD):Prop:=
 ∃e g s,GM x=some e/\Q e s/\vE B g w s a/\tR A L g0 w0 g w s.H/\s.np=L.length
section
variable {B:Nat}{P:Program}{T:sZ}{Γ:tP}(hT:xZ P T) (hΓ:F6 P Γ) (hm:P.follows .mixedOrders=true) {A:Nat->Nat->Prop}{L:List qP}{g0:Gh}{w0:qD}
include hT hΓ hm
theorem IH {ro:qB}: ∀(c:Code) (s:St) (Q:Ex->St->Prop) (g:Gh) (a:Act) (w:qD),wV T Γ c s Q->vE B g w s a->tR A L g0 w0 g w s.H->s.np=L.length->c.wpIn (GL ro) 0 P (Qp B A L g0 w0 Q) a w
 | .skip,s,Q,g,a,w,h,hr,D,z=>by
  unfold wV at h;exact wpIn_skip ⟨.normal,g,s,rfl,h,hr,D,z⟩
 | .label l,s,Q,g,a,w,h,hr,D,z=>by
  unfold wV at h;exact wpIn_label ⟨.normal,g,s,rfl,h,hr,D,z⟩
 | .exit id,s,Q,g,a,w,h,hr,D,z=>by
  unfold wV at h;exact wpIn_exit ⟨.exit id,g,s,rfl,h,hr,D,z⟩
 | .ret,s,Q,g,a,w,h,hr,D,z=>by
  unfold wV at h;exact wpIn_ret ⟨.ret,g,s,rfl,h,hr,D,z⟩
 | .region id ops draw,s,Q,g,a,w,h,hr,D,z=>by
  unfold wV at h;cases draw with
  |false=>
   simp only[RS] at h;cases K:vD T Γ ops.toList ops.toList (some ⟨s,[],[]⟩) with
   |none=>rw[K] at h;cases h
   |some y=>
    rw[K] at h;refine a6k hT hΓ K (lc h.1) hr D z.symm (fun g' a' w' V X=>⟨.normal,g',y.s,rfl,h.2,V,X,(IF K).2.2.trans z⟩)
  |true=>
   simp only[RS] at h;cases K:vD T Γ ops.toList ops.toList (some ⟨s,[],[]⟩) with
   |none=>rw[K] at h;cases h
   |some y=>
    rw[K] at h;simp only[Lc] at h;by_cases U:MJ ops s.nb y.es.reverse=true
    .rw[aFP U] at h;refine a6D (i0:=ops.size) (j0:=0) hT hΓ hm K U (fun h=>absurd h (aHz _)) (lc h.1) hr D z.symm (fun g' a' w' V X=>⟨.normal,g',y.s,rfl,h.2,V,X,(IF K).2.2.trans z⟩)
    .rw[aFQ U] at h;cases h
 | .seq x y,s,Q,g,a,w,h,hr,D,z=>by
  unfold wV at h;refine wpIn_seq (aHB (IH x s _ g a w h hr D z) fun e a' w' hp=>?_);obtain⟨e',g',s',E,F,h3,h4,G⟩:=hp;cases e<;>simp only[GM,aFO] at E
  case normal=>subst E;exact IH y s' Q g' a' w' F h3 h4 G
  case exit id=>subst E;exact⟨.exit id,g',s',rfl,F,h3,h4,G⟩
  case ret=>subst E;exact⟨.ret,g',s',rfl,F,h3,h4,G⟩
  all_goals cases E
 | .cond c x y,s,Q,g,a,w,h,hr,D,z=>by
  unfold wV at h;have U:=B3 hr.env c;generalize uC s.env c=sc at h U;unfold Ll at h;split at h
  .exact wpIn_cond_split (vU U.1) (fun O=>IH x s Q g a w (h.1 O) hr D z) (fun O=>IH y s Q g a w (h.2 O) hr D z)
  .obtain⟨b,hb,hp,hq⟩:=U.1;exact wpIn_cond_split hb (fun O=>IH x s Q g a w (h.1 (hp O)) hr D z) (fun O=>IH y s Q g a w (h.2 (hq O)) hr D z)
  .cases h
 | .block id c,s,Q,g,a,w,h,hr,D,z=>by
  unfold wV at h;refine wpIn_block (aHB (IH c s _ g a w h hr D z) fun e a' w' hp=>?_);obtain⟨e',g',s',E,F,h3,h4,G⟩:=hp;cases e<;>simp only[GM,aFO] at E
  case normal=>subst E;exact⟨.normal,g',s',rfl,F,h3,h4,G⟩
  case exit j=>
   subst E;simp only[ML] at F;simp only[Exit.inBlock];split
   .rename_i Y;rw[aFP Y] at F;exact⟨.normal,g',s',rfl,F,h3,h4,G⟩
   rename_i Y;rw[aFQ Y] at F;exact⟨.exit j,g',s',rfl,F,h3,h4,G⟩
  case ret=>subst E;exact⟨.ret,g',s',rfl,F,h3,h4,G⟩
  all_goals cases E
 | .loop c,s,Q,g,a,w,h,hr,D,z=>by
  unfold wV at h;obtain⟨k,I,μ,h0,M⟩:=h;obtain⟨g1,k1,k2,k3,_⟩:=K9 hr D z k
  let R:Act->qD->Nat->Prop:=fun a w n=> ∃g s,I s/\μ s=n/\vE B g w s a/\tR A L g0 w0 g w s.H/\s.np=L.length
  refine wpIn_loop (fun a w=> ∃n,R a w n) (fun a w=>SH (R a w)) ⟨_,g1,s.keep k,h0,rfl,k1,k2,k3⟩ (fun a w hI=>?_);obtain⟨⟨g2,s2,i1,i2,i3,i4,i5⟩,_⟩:=XY hI;refine aHB (IH c s2 _ g2 a w (M s2 i1) i3 i4 i5) fun e a' w' hp=>?_;obtain⟨e',g',s',E,F,h3,h4,G⟩:=hp;cases e<;>simp only[GM,aFO] at E
  case normal=>
   subst E;obtain⟨k',j1,j2⟩:=F;obtain⟨g3,l1,l2,l3,_⟩:=K9 h3 h4 G k';have Z:R a' w' (μ (s'.keep k')):=⟨g3,s'.keep k',j1,rfl,l1,l2,l3⟩;refine⟨⟨_,Z⟩,Nat.lt_of_le_of_lt ((XY ⟨_,Z⟩).2 _ Z) (by rw[<-i2];exact j2)⟩
  case exit id=>subst E;exact⟨.exit id,g',s',rfl,F,h3,h4,G⟩
  case ret=>subst E;exact⟨.ret,g',s',rfl,F,h3,h4,G⟩
  all_goals cases E
 | .rangeFunc _ _ _ _,_,_,_,_,_,h,_,_,_=>by unfold wV at h;cases h
 | .scope _,_,_,_,_,_,h,_,_,_=>by unfold wV at h;cases h
 | .goto _,_,_,_,_,_,h,_,_,_=>by unfold wV at h;cases h
 | .refuse _,_,_,_,_,_,h,_,_,_=>by unfold wV at h;cases h
end
section
variable {f:St->Prop}{Q:Ex->St->Prop}{s:St}{id j:Nat}{I:St->Prop}{μ:St->Nat}{m:Nat}
theorem qW (h:f s):RV f Q .normal s:=h
theorem uD (h:Q (.exit j) s):RV f Q (.exit j) s:=h
theorem rG (h:Q .ret s):RV f Q .ret s:=h
theorem sM (h:Q .normal s):ML id Q .normal s:=h
theorem uE (h:Q .normal s):ML id Q (.exit id) s:=by show (if id=id then Q .normal s else Q (.exit id) s);rw[aFP rfl];exact h
theorem sD (h:Q .ret s):ML id Q .ret s:=h
end
@[go_sem] def s7:Nat->List qQ->List (Nat×qQ)
 |_,[]=>[]
 |c,s::r=>(c,s)::s7 (c+1) r
@[go_sem] def w7:Nat->List qP->pY
 |_,[]=>[]
 |c,_::L=>(c,c)::w7 (c+1) L
@[go_sem] def SI (m:pY):List qQ->Prop
 |[]=>True
 |s::r=>AV m s=s/\SI m r
@[go_sem] def N2 (m:pY):List qP->Prop
 |[]=>True
 | .dead::_=>False
 |b::r=>zX m (some b)=b/\N2 m r
def s8:List qP->Prop
 |[]=>True
 | .row _ _ l n::r=>n=List.length l/\s8 r
 |_::r=>s8 r
theorem Qq {g:Gh}{w:qD}: ∀{L:List qP},(∀(i:Nat) b,L[i]? =some b->∃j,AX g w j b)->s8 L
 |[],_=>trivial
 |b::L,h=>by
  have z:=Qq (L:=L) fun i b' hb=>h (i+1) b' (by simpa using hb);obtain⟨j,h0⟩:=h 0 b rfl;cases b with
  |row e t l n=>exact⟨h0.1.symm,z⟩
  |_=>exact z
def ld:q8->qE
 |[v]=>v
 |l=> .tuple l.toArray
@[go_sem] def Qr (env:List (Nat×qQ)):qC->List qQ
 |[]=>[]
 |t::r=>lk env t::Qr env r
attribute [go_sem] rC
@[go_sem] def Qs:qQ->Int
 |(.val (.int _) n,_)=>n
 |_=>0
@[go_sem] def Fin (ts:qC) (r:r5):Ex->St->Prop
 | .exit _,_=>False
 |_,s=> ∃k:wL,(s.keep k).H=rC 0 r.H/\Qr (s.keep k).env ts=r.ret
theorem Qt: ∀(l:List qQ) (c t:Nat),lk (s7 c l) t=if c<=t then(l[t-c]?).getD (.any,none) else(.any,none)
 |[],c,t=>by simp [s7,lk]
 |s::l,c,t=>by
  simp only[s7,lk];by_cases h:c=t
  .subst h;simp
  rw[aFQ h,Qt l (c+1) t];by_cases j:c<=t
  .rw[aFP j,aFP pT];obtain⟨d,z⟩: ∃d,t-c=d+1:=⟨t-c-1,pT⟩;rw[z,aGC,show t- (c+1)=d by omega]
  rw[aFQ j,aFQ pT]
theorem PF: ∀{L:List qP}{c i j:Nat},(i,j)∈w7 c L↔i=j/\c<=i/\i<c+L.length
 |[],c,i,j=>by simp only[w7,aHj,aF8,false_iff];omega
 |b::L,c,i,j=>by
  simp only[w7,aF1,aGi,PF,aFV];omega
theorem XZ: ∀{L:List qP}{c:Nat},xI 0 (w7 c L)=true
 |[],_=>rfl
 |b::L,c=>by
  simp only[w7,xI,aF0];refine⟨⟨by simp,?_⟩,XZ⟩;have: ∀{m:pY},(∀i j,(i,j)∈m->i≠c/\j≠c)->P5 c c m=false:=by
   intro m
   induction m with
   |nil=>intro _;rfl
   |cons q m ih=>
    intro h;obtain⟨i,j⟩:=q;have:=h i j pV;simp only[P5,ih (fun i j hm=>h i j (aF2 _ hm)),decide_eq_false this.1,decide_eq_false this.2];rfl
  rw[this]
  .rfl
  intro i j hm;obtain⟨rfl,z,_⟩:=PF.1 hm;omega
theorem Qu {m:pY}: ∀{l:List qQ},SI m l->∀s∈l,AV m s=s
 |x::l,h,s,hs=>by
  rcases aF1.1 hs with rfl|hs
  .exact h.1
  exact Qu h.2 s hs
theorem N3 {m:pY}: ∀{l:List qP},N2 m l->∀b∈l,zX m (some b)=b/\b≠.dead
 |x::l,h,b,hb=>by
  cases x with
  |dead=>exact h.elim
  |cells t y ts=>
   rcases aF1.1 hb with rfl|hb
   .exact⟨h.1,fun h=>by cases h⟩
   .exact N3 h.2 b hb
  |row e t l n=>
   rcases aF1.1 hb with rfl|hb
   .exact⟨h.1,fun h=>by cases h⟩
   .exact N3 h.2 b hb
  |map k v l=>
   rcases aF1.1 hb with rfl|hb
   .exact⟨h.1,fun h=>by cases h⟩
   .exact N3 h.2 b hb
  |iter s n=>
   rcases aF1.1 hb with rfl|hb
   .exact⟨h.1,fun h=>by cases h⟩
   .exact N3 h.2 b hb
  |grow e c n=>
   rcases aF1.1 hb with rfl|hb
   .exact⟨h.1,fun h=>by cases h⟩
   exact N3 h.2 b hb
theorem Y0 {g:Gh}{w:qD}: ∀{ss:List qQ}{vs:q8},vJ g w ss vs->vs.length=ss.length/\∀(i:Nat) s,ss[i]? =some s->∃v,vs[i]? =some v/\rX g w s v
 |[],vs,h=>by rw[show vs=[] from h];exact⟨rfl,fun i s h=>by simp at h⟩
 |s::ss,vs,⟨v,vs',e,z,j⟩=>by
  subst e;obtain⟨h3,h4⟩:=Y0 j;refine⟨by simp [h3],fun i s' hi=>?_⟩;cases i with
  |zero=>simp only[aGo,aFO] at hi;subst hi;exact⟨v,rfl,z⟩
  |succ i=>simp only[aGC] at hi|-;exact h4 i s' hi
theorem Y1: ∀(L:List qP),rI L=L.length
 |[]=>rfl
 |_::L=>by simp only[rI,aFV,Y1 L]
theorem a6E {g:Gh}{w:qD}{args:List qQ}{vals:q8}{L:List qP}{N:Nat}(hH:sO g w (rC 0 L)) (Z:vJ g w args vals) (hs:SI (w7 0 L) args) (hb:N2 (w7 0 L) L) (hN:args.length<=N):
  vE w.heap.size (uP g 0 (w7 0 L)) w ⟨s7 0 args,rC 0 L,rI L,N,rI L⟩ {tmps:=vals.toArray++Array.replicate (N-vals.toArray.size) undef,defers:=[]}/\
  (∀i blk,L[i]? =some blk->(uP g 0 (w7 0 L)).J i=g.J i/\AX (uP g 0 (w7 0 L)) w i blk/\∀b o,sL (uP g 0 (w7 0 L)) i blk b o->sL g i blk b o):=by
 have I:xI 0 (w7 0 L)=true:=XZ;have E: ∀i blk,L[i]? =some blk->(i,i)∈w7 0 L:=fun i blk h=>PF.2 ⟨rfl,pT,by have:=(aF5.1 h).1;omega⟩;have z: ∀i blk,L[i]? =some blk->AX (uP g 0 (w7 0 L)) w i blk/\∀b o,sL (uP g 0 (w7 0 L)) i blk b o->sL g i blk b o:=by
  intro i blk h;have hr:=(N3 hb blk (List.mem_of_getElem? h)).1;have:=N0 (g:=g) (w:=w) I (E i blk h) (b:=some blk) (fun c K=>by cases K;exact hH.blk i blk (by rw[y8];exact h));rw[hr] at this;exact⟨this.1,fun b o ho=>by obtain⟨c,K,U⟩:=this.2 b o ho;cases K;exact U⟩
 obtain⟨hl,Y⟩:=Y0 Z;refine⟨⟨fun t=>?_,⟨fun i b h=>?_,fun i j bi bj b o R M G o1 o2=>?_,hH.sl,hH.tab.1,fun i blk b o X ho=>hH.tab.2 i blk b o X ((z i blk (by rw[<-y8];exact X)).2 b o ho)⟩,?_,fun i hi=>?_,Ow _ _,aGc _⟩,fun i blk h=>⟨(zY I (E i blk h)).1,z i blk h⟩⟩
 .rw[Qt,aFP (aGS _),Nat.sub_zero];cases V:args[t]? with
  |none=>exact⟨trivial,trivial⟩
  |some s=>
   obtain⟨v,F,O⟩:=Y t s V;have Q:t<vals.length:=(aF5.1 F).1;have:(vals.toArray++Array.replicate (N-vals.toArray.size) undef).getD t undef=v:=by
    rw[aGn,Array.getElem?_append_left (by simpa using Q)];simp [F]
   simp only[aHV];rw[this];have:=XT I O;rw[Qu hs s (List.mem_of_getElem? V)] at this;exact this
 .rw[y8] at h;exact(z i b h).1
 .rw[y8] at M G;exact hH.dis i j bi bj b o R (by rw[y8];exact M) (by rw[y8];exact G) ((z i bi M).2 b o o1) ((z j bj G).2 b o o2)
 .simp only[aH0,Array.size_replicate,aGT];omega
 have D:AM (w7 0 L) i=none:=by
  cases ho:AM (w7 0 L) i with
  |none=>rfl
  |some o=>
   obtain⟨rfl,_,G⟩:=PF.1 (kb ho);have hi:rI L<=i:=hi;rw[Y1] at hi;omega
 refine⟨?_,fun n=>?_⟩
 .show (if i<0 then g.J i else(AM (w7 0 L) i).bind g.J)=none;rw[aFQ pT,D];rfl
 show (if i<0 then g.cur i n else(AM (w7 0 L) i).bind fun o=>g.cur o n)=none;rw[aFQ pT,D];rfl
structure vF (B:Nat) (w w':qD):Prop where
 os:w'.os=w.os
 tape:w'.tape=w.tape
 output:w'.output=w.output
 size:w.heap.size<=w'.heap.size
 blk: ∀b,b<w.heap.size->w'.heap[b]? =w.heap[b]? \/(B<=b/\NG<=b/\∃o o',w.heap[b]? =some o/\w'.heap[b]? =some o'/\IE o=true/\IE o'=true)
theorem Qv {w:qD}{b:Nat}{ob:Obj}(h:w.heap[b]? =some ob) (hm:IE ob=true) (o:Nat):w.frozen? ⟨b,o,none⟩=false:=by
 unfold World.frozen?;simp only[h];cases ob<;>first|rfl|cases hm
theorem a6F {w:qD}{b:Nat}{ob:Obj}(h:w.heap[b]? =some ob) (hm:IE ob=true):w.shape? b=none:=by
 unfold World.shape?;simp only[h];cases ob<;>first|rfl|cases hm
section
variable {B:Nat}{w w' w'':qD}
theorem vF.refl (B:Nat) (w:qD):vF B w w:=⟨rfl,rfl,rfl,aGc _,fun _ _=> .inl rfl⟩
theorem vF.trans (h:vF B w w') (k:vF B w' w''):vF B w w'':=by
 refine⟨k.os.trans h.os,k.tape.trans h.tape,k.output.trans h.output,aGL h.size k.size,fun b hb=>?_⟩;rcases k.blk b (aGq hb h.size) with k1|⟨k0,k1,o,o',k2,k3,k4,k5⟩
 .rcases h.blk b hb with j|⟨h0,j,o,o',z,h3,h4,D⟩
  .exact .inl (k1.trans j)
  exact .inr ⟨h0,j,o,o',z,k1.trans h3,h4,D⟩
 rcases h.blk b hb with j|⟨h0,j,p,p',z,h3,h4,D⟩
 .exact .inr ⟨k0,k1,o,o',j▸k2,k3,k4,k5⟩
 exact .inr ⟨h0,j,p,o',z,k3,h4,k5⟩
theorem vF.cell (t:vF B w w') {b:Nat}(hb:b<w.heap.size) (o:Nat):w'.cell? ⟨b,o,none⟩=w.cell? ⟨b,o,none⟩/\w'.frozen? ⟨b,o,none⟩=w.frozen? ⟨b,o,none⟩:=by
 rcases t.blk b hb with h|⟨_,_,o1,o2,z,j,m1,m2⟩
 .exact⟨aGf h,by unfold World.frozen?;simp only[h]⟩
 exact⟨by rw[jx z m1,jx j m2],by rw[Qv z m1,Qv j m2]⟩
theorem vF.shape (t:vF B w w') {b:Nat}{s:TypeId×Nat}(h:w.shape? b=some s):w'.shape? b=some s:=by
 have hb:b<w.heap.size:=by
  unfold World.shape? at h;cases j:w.heap[b]? with
  |none=>rw[j] at h;cases h
  |some _=>exact(aGh.1 j).1
 rcases t.blk b hb with k|⟨_,_,o1,o2,z,D,m1,m2⟩
 .unfold World.shape? at h|-;rw[k];exact h
 rw[a6F z m1] at h;cases h
theorem vF.le (t:vF B w w') {g:Gh}(hs: ∀b o,g.S b o->b<w.heap.size):Le g w g w':=⟨fun _ _ h=>h,fun b o h=>(t.cell (hs b o h) o).1,fun _ _ h=>h,fun _ _ _ h=>h⟩
theorem vF.heapOk (t:vF B w w') {g:Gh}{H:sJ}(h:sO g w H):sO g w' H:=by
 have own: ∀{i blk b o},qS H i=some blk->sL g i blk b o->w'.heap[b]? =w.heap[b]? :=fun j ho=>by
  rcases t.blk _ (MP (h.blk _ _ j) ho) with k|⟨_,_,o1,o2,z,_,m1,_⟩
  .exact k
  exact(XQ (h.blk _ _ j) ho z m1).elim
 refine⟨fun i blk hb=>K2 (h.blk i blk hb) (t.le h.sl) rfl rfl (fun b o ho=>t.cell (MP (h.blk i blk hb) ho) o) (fun b ho=>own hb (ho 0)) (fun _ _ _ x=>x) (fun b o s _ x=>t.shape x),h.dis,fun b o x=>aGq (h.sl b o x) t.size,JN h.tab.1 t.size (fun b hb=>?_),h.tab.2⟩;rcases t.blk b (aGq hb h.tab.1.1) with k|⟨_,k,_⟩
 .exact k
 omega
theorem vE.turn {g:Gh}{s:St}{a:Act}{ds:List Deferred}(h:vE B g w s a) (t:vF B w w') (j:AL B w' ds):vE B g w' s {a with defers:=ds}:=
 ⟨fun x=>EC (t.le h.heap.sl) (h.env x),t.heapOk h.heap,h.size,h.nb,j,h.np⟩
theorem tR.turn {A:Nat->Nat->Prop}{L:List qP}{g0 g:Gh}{w0:qD}{H:sJ}(h:tR A L g0 w0 g w H) (hs: ∀b o,g.S b o->b<w.heap.size) (t:vF w0.heap.size w w'):tR A L g0 w0 g w' H:=by
 refine⟨fun b o x=>⟨(h.shut b o x).1,(t.cell (hs b o (h.shut b o x).1) o).1.trans (h.shut b o x).2⟩,⟨t.os.trans h.fr.os,t.tape.trans h.fr.tape,t.output.trans h.fr.output,aGL h.fr.size t.size,fun b hb j=>?_,fun b o hb j=>?_,h.fr.new,fun b s x=>?_⟩,h.perm,h.J,h.live,h.ty,h.cur⟩
 .rcases t.blk b (aGq hb h.fr.size) with k|⟨k,_⟩
  .exact k.trans (h.fr.blk b hb j)
  omega
 .have:=t.cell (aGq hb h.fr.size) o;have k:=h.fr.cell b o hb j;exact⟨this.1.trans k.1,this.2.trans k.2⟩
 rcases h.fr.shape b s x with k|k
 .exact .inl (t.shape k)
 exact .inr k
end
theorem Qw {P:Program}{fn:Func}{R:Ending->qD->Prop}{A:Nat->Nat->Prop}{L:List qP}{g0 g:Gh}{w0:qD}{s:St}{tmps:Array qE}: ∀(ds:List Deferred) (w:qD),vE w0.heap.size g w s {tmps:=tmps,defers:=ds}->tR A L g0 w0 g w s.H->
  (∀w',vE w0.heap.size g w' s {tmps:=tmps,defers:=[]}->tR A L g0 w0 g w' s.H->∃v,(results fn tmps).run P w'= .ok v w'/\R (.returned v) w')->LeavesInM Fence.wide 0 P fn tmps R ds .returning w
 |[],w,hr,F,h=>h w hr F
 |d::ds,w,hr,F,h=>by
  obtain⟨z,j⟩:=hr.def_;obtain⟨D,rfl,M,K,h3⟩:=j d aGa;have G:=(aGh.1 h3).1;have t:vF w0.heap.size w (w.putObj D (.deferred none)):=by
   refine⟨rfl,rfl,rfl,by simp [World.putObj],fun b hb=>?_⟩;by_cases e:b=D
   .subst e;exact .inr ⟨M,K,_,_,h3,World.putObj_heap_same G,rfl,rfl⟩
   exact .inl (World.putObj_heap_other e)
  have I:AL w0.heap.size (w.putObj D (.deferred none)) ds:=by
   refine⟨(List.nodup_cons.1 z).2,fun d' E=>?_⟩;obtain⟨D',rfl,k1,k2,k3⟩:=j d' (aF2 _ E);refine⟨D',rfl,k1,k2,?_⟩;rw[World.putObj_heap_other (fun e:D'=D=>(List.nodup_cons.1 z).1 (by subst e;exact E))];exact k3
  exact⟨by simp,.inl ⟨D,_,rfl,run_takeDeferred h3,Qw ds _ (hr.turn t I) (F.turn hr.heap.sl t) h⟩⟩
def Ev (R:Bool) (P:Program) (c:Code) (s:St) (Q:Ex->St->Prop):Prop:=
 ∀(ro:qB),ro.isSome=R->
 ∀(A:Nat->Nat->Prop) (L:List qP) (g0:Gh) (w0:qD) (g:Gh) (a:Act) (w:qD) (B:Nat),B<=w0.heap.size->vE B g w s a->tR A L g0 w0 g w s.H->s.np=L.length->c.wpIn (GL ro) 0 P (Qp B A L g0 w0 Q) a w
variable {R:Bool}
theorem Qx {P:Program}{T:sZ}{Γ:tP}(hT:xZ P T) (hΓ:F6 P Γ) (hm:P.follows .mixedOrders=true) {c:Code}{s:St}{Q:Ex->St->Prop}(h:wV T Γ c s Q):Ev R P c s Q:=
 fun ro D A L g0 w0 g a w B E hr z j=>IH hT hΓ hm c s Q g a w h hr z j
structure rJ (P:Program) (T:sZ) (Γ:tP):Prop where
 T:xZ P T
 Γ:F6 P Γ
 m:P.follows .mixedOrders=true
@[go_sem] def Qy (l:qC) (Γ:tP) (f:Nat):Option rM:=if AT f l=true then some ⟨[],fun _ _=>none,[],[],none⟩ else Γ f
theorem Y2 {P:Program}{T:sZ}{Γ:tP}{l:qC}(h:rJ P T Γ) (hl:(l.all fun k=>decide (1000000000<=k))=true):rJ P T (Qy l Γ):=
 ⟨h.T,fun f s j hs=>by
  unfold Qy at hs;split at hs
  .rename_i hm;have:=aGt (aGK.1 hl f (IB.1 hm));omega
  exact h.Γ f s j hs,h.m⟩
theorem a6G {P:Program}{c:Code}{s:St}{Q Q':Ex->St->Prop}(h:Ev R P c s Q') (hq: ∀e s,Q' e s->Q e s):Ev R P c s Q:=by
 intro ro j A L g0 w0 g a w B E hr D z;refine aHB (h ro j A L g0 w0 g a w B E hr D z) fun x a' w' hp=>?_;obtain⟨e,g',s',I,G,h3,h4,F⟩:=hp;exact⟨e,g',s',I,hq e s' G,h3,h4,F⟩
section
variable {P:Program}{s:St}{Q:Ex->St->Prop}
theorem rF (h:Q .normal s):Ev R P .skip s Q:=fun _ _ _ _ _ _ g _ _ _ _ hr z j=>wpIn_skip ⟨.normal,g,s,rfl,h,hr,z,j⟩
theorem uF {id:Nat}(h:Q (.exit id) s):Ev R P (.exit id) s Q:=fun _ _ _ _ _ _ g _ _ _ _ hr z j=>wpIn_exit ⟨.exit id,g,s,rfl,h,hr,z,j⟩
theorem qZ (h:Q .ret s):Ev R P .ret s Q:=fun _ _ _ _ _ _ g _ _ _ _ hr z j=>wpIn_ret ⟨.ret,g,s,rfl,h,hr,z,j⟩
theorem qY {x y:Code}(h:Ev R P x s (RV (fun s'=>Ev R P y s' Q) Q)):Ev R P (.seq x y) s Q:=by
 intro ro z A L g0 w0 g a w B F hr I G;refine wpIn_seq (aHB (h ro z A L g0 w0 g a w B F hr I G) fun e a' w' hp=>?_);obtain⟨e',g',s',j,E,h3,h4,D⟩:=hp;cases e<;>simp only[GM,aFO] at j
 case normal=>subst j;exact E ro z A L g0 w0 g' a' w' B F h3 h4 D
 case exit id=>subst j;exact⟨.exit id,g',s',rfl,E,h3,h4,D⟩
 case ret=>subst j;exact⟨.ret,g',s',rfl,E,h3,h4,D⟩
 all_goals cases j
theorem a6H {c:Operand}{x y:Code}{b:Bool}{k:qB}(h:uC s.env c=(.val .bool b,k)) (G:b=true->Ev R P x s Q) (hf:b=false->Ev R P y s Q):Ev R P (.cond c x y) s Q:=by
 intro ro j A L g0 w0 g a w B F hr D z;have E:=B3 hr.env c;rw[h] at E;exact wpIn_cond_split (vU E.1) (fun e=>G e ro j A L g0 w0 g a w B F hr D z) (fun e=>hf e ro j A L g0 w0 g a w B F hr D z)
theorem a6I {c:Operand}{x y:Code}{p q:Prop}{k:qB}(h:uC s.env c=(.flag p q,k)) (G:p->Ev R P x s Q) (hf:q->Ev R P y s Q):Ev R P (.cond c x y) s Q:=by
 intro ro j A L g0 w0 g a w B F hr D z;have E:=B3 hr.env c;rw[h] at E;obtain⟨b,hb,hp,hq⟩:=E.1;exact wpIn_cond_split hb (fun e=>G (hp e) ro j A L g0 w0 g a w B F hr D z) (fun e=>hf (hq e) ro j A L g0 w0 g a w B F hr D z)
theorem sF {id:Nat}{c:Code}(h:Ev R P c s (ML id Q)):Ev R P (.block id c) s Q:=by
 intro ro G A L g0 w0 g a w B M hr K I;refine wpIn_block (aHB (h ro G A L g0 w0 g a w B M hr K I) fun e a' w' hp=>?_);obtain⟨e',g',s',D,z,h3,h4,E⟩:=hp;cases e<;>simp only[GM,aFO] at D
 case normal=>subst D;exact⟨.normal,g',s',rfl,z,h3,h4,E⟩
 case exit j=>
  subst D;simp only[ML] at z;simp only[Exit.inBlock];split
  .rename_i F;rw[aFP F] at z;exact⟨.normal,g',s',rfl,z,h3,h4,E⟩
  rename_i F;rw[aFQ F] at z;exact⟨.exit j,g',s',rfl,z,h3,h4,E⟩
 case ret=>subst D;exact⟨.ret,g',s',rfl,z,h3,h4,E⟩
 all_goals cases D
end
@[go_sem] def lf (k:Nat) (t:Ty) (l:List t.den):qQ->qQ
 |(.own j m,x)=>if j=k then(.val (.list t) l,some k) else(.own j m,x)
 |s=>s
@[go_sem] def SJ (k:Nat) (t:Ty) (l:List t.den):List (Nat×qQ)->List (Nat×qQ)
 |[]=>[]
 |(i,s)::r=>(i,lf k t l s)::SJ k t l r
@[go_sem] def Qz (k n:Nat):qQ->Prop
 |(.own j m,_)=>j=k->m=n
 |_=>True
@[go_sem] def lg (k n:Nat):List (Nat×qQ)->Prop
 |[]=>True
 |(_,s)::r=>Qz k n s/\lg k n r
theorem Ra {k:Nat}{t:Ty}{l:List t.den}: ∀{env:List (Nat×qQ)}{i:Nat},lk (SJ k t l env) i=lf k t l (lk env i)
 |[],i=>rfl
 |(j,s)::r,i=>by
  simp only[SJ,lk];split
  .rfl
  exact Ra
theorem Rb {k n:Nat}: ∀{env:List (Nat×qQ)}{i:Nat},lg k n env->Qz k n (lk env i)
 |[],i,_=>trivial
 |(j,s)::r,i,⟨z,h⟩=>by
  simp only[lk];split
  .exact z
  exact Rb h
theorem a6J {P:Program}{c:Code}{s:St}{Q:Ex->St->Prop}(k:Nat) {e:TypeId}{t:Ty}{l:List t.den}{n:Nat}(hk:qS s.H k=some (.row e t l n)) (hh:lg k n s.env)
  (h:Ev R P c ⟨SJ k t l s.env,(k,.grow e t.cells (List.length l))::s.H,s.nb,s.N,s.np⟩ Q):Ev R P c s Q:=by
 intro ro he A L g0 w0 g a w B hB hr F hn;obtain⟨hl,v,xs,hv,G,hF,U,O⟩:=hr.heap.blk k _ hk
 let g':Gh:={g with S:=fun b o=>g.S b o\/(v.ownBlock=some b/\o<n*t.cells)}
 have le:Le g w g' w:=⟨fun _ _ h=> .inl h,fun _ _ _=>rfl,fun _ _ h=>h,fun _ _ _ h=>h⟩;have K: ∀b,v.ownBlock=some b->∀o,sL g k (.row e t l n) b o:=fun b hb o=>⟨v,hv,hb⟩;have V: ∀u,g.cur k n=some u->((u= .slice none 0 0/\n=0)\/∃b cap,u= .slice (some ⟨b,0,none⟩) n cap/\n<=cap)->tJ g' w (.list t) l u:=by
  intro u Y M;rw[hv] at Y;obtain rfl:=aFU Y;rcases M with⟨rfl,h0⟩ |⟨b,cap,rfl,hc⟩
  .have:l=[]:=aGl (by rw[hl,h0]);subst this;exact .inr ⟨rfl,none,0,rfl,aGc _,.inl rfl⟩
  refine .inr ⟨rfl,some ⟨b,0,none⟩,cap,by rw[hl],by rw[hl];exact hc,.inr ⟨b,0,rfl,K4 (DA (fun _ _ h=>wW le h) hF) (fun j u Y=>?_) (fun j hj=>?_)⟩⟩
  .have:=G.cells (g:=b) rfl j u Y;rwa [aG8] at this
  right;exact⟨rfl,by rw[hl] at hj;omega⟩
 have I: ∀i b,qS ((k,qP.grow e t.cells (List.length l))::s.H) i=some b->(i=k/\b= .grow e t.cells (List.length l))\/(i≠k/\qS s.H i=some b):=by
  intro i b hb;simp only[qS] at hb;split at hb
  .rename_i e1;exact .inl ⟨e1.symm,(aFU hb).symm⟩
  rename_i e1;exact .inr ⟨Ne.symm e1,hb⟩
 have D: ∀i b bb o,qS ((k,qP.grow e t.cells (List.length l))::s.H) i=some b->sL g' i b bb o->∃b0,qS s.H i=some b0/\sL g i b0 bb o:=by
  intro i b bb o hb ho;rcases I i b hb with⟨rfl,rfl⟩ |⟨_,E⟩
  .obtain⟨u,Y,hd⟩:=ho;have Z:g.cur i (List.length l)=some u:=Y;rw[hl] at Z;exact⟨_,hk,u,Z,hd⟩
  exact⟨b,E,(xX (g':=g') (g:=g) rfl rfl).1 ho⟩
 have ha:vE B g' w ⟨SJ k t l s.env,(k,.grow e t.cells (List.length l))::s.H,s.nb,s.N,s.np⟩ a:=by
  refine⟨fun i=>?_,⟨fun i b hb=>?_,fun i j bi bj b o ht E h2 o1 o2=>?_,fun b o z=>?_,hr.heap.tab.1,fun i b bb oo hb ho=>by
   obtain⟨c1,k1,k2⟩:=D i b bb oo hb ho;exact hr.heap.tab.2 i c1 bb oo k1 k2⟩,hr.size,hr.nb,hr.def_,hr.np⟩
  .rw[Ra];have E:=hr.env i;have h2:=Rb (i:=i) hh;generalize lk s.env i=sl at E h2;obtain⟨d,x⟩:=sl;cases d with
   |own j m=>
    simp only[lf];split
    .rename_i hj;subst hj;have hm:m=n:=h2 rfl;subst hm;refine⟨V _ E.1.1 E.1.2,?_⟩;show g'.cur j (List.length l)=_;rw[hl];exact E.1.1
    .exact EC le E
   |_=>exact EC le E
  .rcases I i b hb with⟨rfl,rfl⟩ |⟨hne,E⟩
   .refine⟨v,xs,by rw[hl];exact hv,by rw[hl];exact G,fun m hm=>U m (by rw[hl] at hm;exact hm),fun b hb o z=>?_⟩;rw[hl];rcases z with z|z
    .exact absurd z (O b hb o)
    exact z.2
   exact K2 (hr.heap.blk i b E) le rfl rfl (fun _ _ _=>⟨rfl,rfl⟩) (fun _ _=>rfl) (fun bb o ho z=>by
    rcases z with z|z
    .exact z
    exact absurd (K bb z.1 o) (fun h5=>hr.heap.dis i k b _ bb o hne E hk ho h5)) (fun _ _ _ _ h=>h)
  .obtain⟨c1,k1,k2⟩:=D i bi b o E o1;obtain⟨c2,k3,k4⟩:=D j bj b o h2 o2;exact hr.heap.dis i j c1 c2 b o ht k1 k3 k2 k4
  rcases z with z|z
  .exact hr.heap.sl b o z
  exact MO G z.1
 have X:tR A L g0 w0 g' w ((k,.grow e t.cells (List.length l))::s.H):=by
  refine⟨fun b o h0=>⟨.inl (F.shut b o h0).1,(F.shut b o h0).2⟩,⟨F.fr.os,F.fr.tape,F.fr.output,F.fr.size,F.fr.blk,F.fr.cell,fun b o z=>?_,F.fr.shape⟩,fun i b bb o hb ho=>?_,F.J,F.live,fun i u y us hi hb=>?_,F.cur⟩
  .rcases z with z|z
   .exact F.fr.new b o z
   exact .inr (F.perm k _ b o hk (K b z.1 o))
  .obtain⟨c1,k1,k2⟩:=D i b bb o hb ho;exact F.perm i c1 bb o k1 k2
  rcases I i _ hb with⟨_,E⟩ |⟨_,E⟩
  .cases E
  exact F.ty i u y us hi E
 exact h ro he A L g0 w0 g' a w B hB ha X hn
def iter {σ ρ:Type}(f:σ->Option (σ⊕ρ)):Nat->σ->Option ρ
 |0,_=>none
 |n+1,x=>match f x with
  |none=>none
  |some (.inl y)=>iter f n y
  |some (.inr r)=>some r
theorem Rc {σ ρ:Type}{f:σ->Option (σ⊕ρ)}{r:ρ}: ∀{n:Nat}{x:σ},iter f n x=some r->iter f (n+1) x=some r
 |0,_,h=>by cases h
 |n+1,x,h=>by
  unfold iter at h|-;split
  .rename_i e;rw[e] at h;cases h
  .rename_i y e;rw[e] at h;exact Rc h
  rename_i r' e;rw[e] at h;exact h
theorem lh {σ ρ:Type}{f:σ->Option (σ⊕ρ)}{r:ρ}{n:Nat}{x:σ}(h:iter f n x=some r): ∀m,iter f (n+m) x=some r
 |0=>h
 |m+1=>Rc (lh h m)
theorem Re {σ ρ:Type}{f:σ->Option (σ⊕ρ)}{r r':ρ}{n m:Nat}{x:σ}(h:iter f n x=some r) (D:iter f m x=some r'):r=r':=by
 have z:=lh h m;have j:=lh D n;rw[Nat.add_comm] at j;exact aFU (z.symm.trans j)
noncomputable def SK {σ ρ:Type}(f:σ->Option (σ⊕ρ)) (x:σ):Option ρ:=open Classical in if h: ∃n r,iter f n x=some r then some (Classical.choose (aHt h)) else none
def a6K {ρ:Type}:Option ρ->Option ρ->Option ρ
 |some r,_=>some r
 |none,r=>r
noncomputable def sA {σ ρ:Type}(f:σ->Option (σ⊕ρ)) (x:σ):Option ρ:=a6K (iter f 2000 x) (SK f x)
theorem a6L {σ ρ:Type}{f:σ->Option (σ⊕ρ)}{x:σ}{r:ρ}{n:Nat}(h:iter f n x=some r):SK f x=some r:=by
 have j: ∃n r,iter f n x=some r:=⟨n,r,h⟩;unfold SK;rw[aHQ j,Re h (aHt (aHt j))]
theorem li {σ ρ:Type}{f:σ->Option (σ⊕ρ)}{x:σ}{r:ρ}{n:Nat}(h:iter f n x=some r):sA f x=some r:=by
 unfold sA;cases hi:iter f 2000 x with
 |some r'=>rw[Re h hi];rfl
 |none=>exact a6L h
theorem Y3 {σ ρ:Type}{f:σ->Option (σ⊕ρ)}{x:σ}{r:ρ}(h:sA f x=some r): ∃n,iter f n x=some r:=by
 unfold sA at h;cases hi:iter f 2000 x with
 |some r'=>
  rw[hi] at h;cases h;exact⟨_,hi⟩
 |none=>
  rw[hi] at h;have h:SK f x=some r:=h;unfold SK at h;split at h
  .rename_i j;have:=aHt (aHt j);rw[aFU h] at this;exact⟨_,this⟩
  cases h
attribute [irreducible] sA
theorem KA {σ ρ:Type}{f:σ->Option (σ⊕ρ)}{x y:σ}(h:f x=some (.inl y)):sA f x=sA f y:=by
 cases z:sA f y with
 |some r=>
  obtain⟨n,j⟩:=Y3 z;exact li (n:=n+1) (by unfold iter;rw[h];exact j)
 |none=>
  cases D:sA f x with
  |none=>rfl
  |some r=>
   obtain⟨n,j⟩:=Y3 D;cases n with
   |zero=>cases j
   |succ n=>
    unfold iter at j;rw[h] at j;rw[li j] at z;cases z
theorem zZ {σ ρ:Type}{f:σ->Option (σ⊕ρ)}{x:σ}{r:ρ}(h:f x=some (.inr r)):sA f x=some r:=li (n:=1) (by unfold iter;rw[h])
def Nxt {σ ρ:Type}(f:σ->Option (σ⊕ρ)) (y:ρ) (n:Nat):σ⊕ρ->Prop
 | .inl x=>iter f n x=some y
 | .inr r=>r=y
def qL {σ ρ:Type}(enc:σ->St) (f:σ->Option (σ⊕ρ)) (y:ρ) (n:Nat) (Q:Ex->St->Prop):Ex->St->Prop
 | .normal,s=> ∃(k:wL) (x:σ),s.keep k=enc x/\iter f n x=some y
 | .exit j,s=>Q (.exit j) s
 | .ret,s=>Q .ret s
theorem a6N {P:Program}{c:Code}{s:St}{Q:Ex->St->Prop}(I:Nat->St->Prop) (h0: ∃(k:wL) (n:Nat),I n (s.keep k))
  (h: ∀n s,I n s->Ev R P c s (fun e s'=>match e with| .normal=> ∃(k:wL) (m:Nat),m<n/\I m (s'.keep k) |e=>Q e s')):Ev R P (.loop c) s Q:=by
 intro ro F A L g0 w0 g a w B O hr K G;obtain⟨k,n0,h0⟩:=h0;obtain⟨g1,k1,k2,k3,_⟩:=K9 hr K G k
 let R:Act->qD->Nat->Prop:=fun a w n=> ∃g s,I n s/\vE B g w s a/\tR A L g0 w0 g w s.H/\s.np=L.length
 refine wpIn_loop (fun a w=> ∃n,R a w n) (fun a w=>SH (R a w)) ⟨_,g1,s.keep k,h0,k1,k2,k3⟩ (fun a w M=>?_);obtain⟨⟨g2,s2,i1,i3,i4,i5⟩,_⟩:=XY M;refine aHB (h _ s2 i1 ro F A L g0 w0 g2 a w B O i3 i4 i5) fun e a' w' hp=>?_;obtain⟨e',g',s',j,E,h3,h4,D⟩:=hp;cases e<;>simp only[GM,aFO] at j
 case normal=>
  subst j;obtain⟨k',m,j1,j2⟩:=E;obtain⟨g3,l1,l2,l3,_⟩:=K9 h3 h4 D k';have z:R a' w' m:=⟨g3,s'.keep k',j2,l1,l2,l3⟩;exact⟨⟨_,z⟩,Nat.lt_of_le_of_lt ((XY ⟨_,z⟩).2 _ z) j1⟩
 case exit id=>subst j;exact⟨.exit id,g',s',rfl,E,h3,h4,D⟩
 case ret=>subst j;exact⟨.ret,g',s',rfl,E,h3,h4,D⟩
 all_goals cases j
theorem uJ {P:Program}{c:Code}{s:St}{Q:Ex->St->Prop}{σ ρ:Type}{f:σ->Option (σ⊕ρ)}{x0:σ}{y:ρ}(z:sA f x0=some y) (enc:σ->St) (k:wL) (h0:s.keep k=enc x0)
  (round: ∀x w n,f x=some w->Nxt f y n w->Ev R P c (enc x) (qL enc f y n Q)):Ev R P (.loop c) s Q:=by
 obtain⟨n,D⟩:=Y3 z;refine a6N (fun n s=> ∃x,s=enc x/\iter f n x=some y) ⟨k,n,x0,h0,D⟩ fun n s ⟨x,e,h⟩=>?_;subst e;cases n with
 |zero=>cases h
 |succ n=>
  unfold iter at h;refine a6G (Q':=qL enc f y n Q) ?_ (fun e s' hq=>?_)
  .split at h
   .cases h
   .rename_i x' e;exact round x _ n e h
   rename_i r e;exact round x _ n e (aFU h)
  cases e with
  |normal=>obtain⟨k,x',F,E⟩:=hq;exact⟨k,n,pT,x',F,E⟩
  |exit j=>exact hq
  |ret=>exact hq
def qX (j:Nat) (X:St->Prop) (Q:Ex->St->Prop):Ex->St->Prop
 | .normal,s=>Q .normal s
 | .exit i,s=>if i=j then∃k:wL,X (s.keep k) else Q (.exit i) s
 | .ret,s=>Q .ret s
theorem uQ {P:Program}{c:Code}{s:St}{Q:Ex->St->Prop}(j:Nat) (X:St->Prop) (h:Ev R P c s (qX j X Q)) (J: ∀s',X s'->Q (.exit j) s'):Ev R P c s Q:=by
 intro ro G A L g0 w0 g a w B O hr M I;refine aHB (h ro G A L g0 w0 g a w B O hr M I) fun x a' w' hp=>?_;obtain⟨e,g',s',F,z,h3,h4,E⟩:=hp;cases e with
 |normal=>exact⟨.normal,g',s',F,z,h3,h4,E⟩
 |ret=>exact⟨.ret,g',s',F,z,h3,h4,E⟩
 |exit i=>
  have z:(if i=j then∃k:wL,X (s'.keep k) else Q (.exit i) s'):=z;by_cases D:i=j
  .rw[aFP D] at z;obtain⟨k,K⟩:=z;obtain⟨g1,k1,k2,k3,_⟩:=K9 h3 h4 E k;exact⟨.exit i,g1,s'.keep k,F,by rw[D];exact J _ K,k1,k2,k3⟩
  rw[aFQ D] at z;exact⟨.exit i,g',s',F,z,h3,h4,E⟩
section
variable {Q:Ex->St->Prop}{s:St}{j i:Nat}{X:St->Prop}{σ ρ:Type}{enc:σ->St}{f:σ->Option (σ⊕ρ)}{y:ρ}{n:Nat}
theorem wI (h:Q .ret s):qX j X Q .ret s:=h
theorem uR (h: ∃k:wL,X (s.keep k)):qX j X Q (.exit j) s:=by show (if j=j then _ else _);rw[aFP rfl];exact h
theorem tH (h: ∃(k:wL) (x:σ),s.keep k=enc x/\iter f n x=some y):qL enc f y n Q .normal s:=h
theorem uG (h:Q (.exit j) s):qL enc f y n Q (.exit j) s:=h
theorem vQ (h:Q .ret s):qL enc f y n Q .ret s:=h
end
def qN (X:St->Prop) (Q:Ex->St->Prop):Ex->St->Prop
 | .normal,s=> ∃k:wL,X (s.keep k)
 | .exit j,s=>Q (.exit j) s
 | .ret,s=>Q .ret s
theorem EE {P:Program}{c:Code}{s:St}{Q:Ex->St->Prop}(X:St->Prop) (h:Ev R P c s (qN X Q)) (J: ∀s',X s'->Q .normal s'):Ev R P c s Q:=by
 intro ro F A L g0 w0 g a w B M hr K G;refine aHB (h ro F A L g0 w0 g a w B M hr K G) fun x a' w' hp=>?_;obtain⟨e,g',s',E,D,h3,h4,z⟩:=hp;cases e with
 |exit j=>exact⟨.exit j,g',s',E,D,h3,h4,z⟩
 |ret=>exact⟨.ret,g',s',E,D,h3,h4,z⟩
 |normal=>
  obtain⟨k,I⟩:=D;obtain⟨g1,k1,k2,k3,_⟩:=K9 h3 h4 z k;exact⟨.normal,g1,s'.keep k,E,J _ I,k1,k2,k3⟩
section
variable {Q:Ex->St->Prop}{s:St}{j:Nat}{X:St->Prop}
theorem wJ (h: ∃k:wL,X (s.keep k)):qN X Q .normal s:=h
theorem Rf (h:Q .ret s):qN X Q .ret s:=h
end
def val {ρ:Type}[Inhabited ρ] (x:Option ρ):ρ:=x.getD default
theorem sH {ρ:Type}[Inhabited ρ] {x:Option ρ}{y:ρ}(h:x=some y):val x=y:=by rw[h];rfl
theorem rV {ρ:Type}{x:Option ρ}{y:ρ}(h:x=some y):x.isSome=true:=by rw[h];rfl
theorem qT {ρ:Type}{c:Prop}[Decidable c] {x:Option ρ}{r:ρ}(h:(if c then x else none)=some r):c/\x=some r:=by
 by_cases j:c
 .rw[aFP j] at h;exact⟨j,h⟩
 rw[aFQ j] at h;cases h
theorem pO{ρ:Type}{c e:Prop}[Decidable c][Decidable e]{x:Option ρ}{r:ρ}(h:(if c then if e then x else none else none)=some r):c/\e/\x=some r:=have k:=qT h;⟨k.1,qT k.2⟩
theorem rE {σ ρ:Type}{x:Option σ}{k:σ->Option ρ}{r:ρ}(h:x.bind k=some r): ∃y,x=some y/\k y=some r:=by
 cases x with
 |none=>cases h
 |some y=>exact⟨y,rfl,h⟩
theorem a6O {ρ:Type}{b:Bool}{x y:ρ}{r:ρ}(h:(if b=true then x else y)=r) (hb:b=true):x=r:=by rw[aFP hb] at h;exact h
theorem a6P {ρ:Type}{b:Bool}{x y:ρ}{r:ρ}(h:(if b=true then x else y)=r) (hb:b=false):y=r:=by rw[hb,aFQ pU] at h;exact h
def uB {σ ρ:Type}(x:Option (σ⊕ρ)) (k:σ->Option ρ):Option ρ:=x.bind fun y=>match y with
 | .inl v=>k v
 | .inr r=>some r
theorem w8 {σ ρ:Type}{x:Option (σ⊕ρ)}{k:σ->Option ρ}{r:ρ}(h:uB x k=some r): ∃y,x=some y/\(match y with| .inl v=>k v| .inr r=>some r)=some r:=rE h
def uS {σ ρ:Type}(x:Option σ) (k:σ->Option ρ):Option ρ:=x.bind k
def BQ {σ ρ:Type}(x:σ) (k:σ->ρ):ρ:=k x
theorem lj {σ ρ:Type}{x:σ}{k:σ->ρ}{r:ρ}(h:BQ x k=r):k x=r:=h
theorem SL {σ ρ:Type}{x:σ}{k:σ->ρ}{r:ρ}(h:BQ x k=r): ∃y,x=y/\k y=r:=⟨x,rfl,h⟩
theorem sR {x:Bool}(h:x=true):(x==true)=true:=by rw[h];rfl
theorem GN {G x:Bool}(j:G=true) (h:x=true):(G&&(x==true))=true:=by rw[j,h];rfl
theorem KB {G x:Bool}(j:G=true) (h:x=false):(G&&(x==false))=true:=by rw[j,h];rfl
theorem tK {x:Bool}(h:x=false):(x==false)=true:=by rw[h];rfl
section
variable {P:Program}{T:sZ}{Γ:tP}(E:rJ P T Γ) {s:St}{Q:Ex->St->Prop}
include E
theorem Rg {id:Nat}{ops:Array Oper}{a:wF}(h:vD T Γ ops.toList ops.toList (some ⟨s,[],[]⟩)=some a) (hp:rN a.side) (hq:Q .normal a.s):Ev R P (.region id ops false) s Q:=
 Qx E.T E.Γ E.m (a4g h hp hq)
theorem Rh {id:Nat}{ops:Array Oper}{a:wF}(h:vD T Γ ops.toList ops.toList (some ⟨s,[],[]⟩)=some a) (hf:MJ ops s.nb a.es.reverse=true) (hp:rN a.side) (hq:Q .normal a.s):Ev R P (.region id ops true) s Q:=
 Qx E.T E.Γ E.m (a4h h hf hp hq)
end
end Go.Proofs.YtcpbaddnmpeipaaGreatDoor.Vc
namespace Go.Proofs.YtcpbaddnmpeipaaGreatDoor.Vc
open Go.RowKit
variable {R:Bool}
attribute [go_sem] Option.map_some Option.map_none
@[go_sem] theorem aDT {H:List (Nat×qP)}{ps:List PK}{b:List qQ}{a:Option tC}:yN H ps ([]++b) a=yN H ps b a:=rfl
@[go_sem] theorem aDU {H:List (Nat×qP)}{ps:List PK}{x:qQ}{l b:List qQ}{a:Option tC}:yN H ps ((x::l)++b) a=yN H ps (x::(l++b)) a:=rfl
@[go_sem] def Ri:Option qQ->Option (List qQ)->Option (List qQ)
 |some s,some l=>some (s::l)
 |_,_=>none
@[go_sem] def Rj:Option r6->Option qQ
 |some e=>some e.slot
 |none=>none
@[go_sem] def Y4 (H:List (Nat×qP)):Option TI->qQ->Option r6
 |some ti,(.val .ref (some (i,off)),_)=>RJ ti.ty i off (qS H i)
 |_,_=>none
@[go_sem] def SM (T:sZ) (s:St) (m:pY):Nat×Option TypeId->Option qQ
 |(t,none)=>some (AV m (lk s.env t))
 |(t,some ty)=>(Rj (Y4 s.H (s5 T ty) (lk s.env t))).map (AV m)
@[go_sem] def KC (T:sZ) (s:St) (m:pY):List (Nat×Option TypeId)->Option (List qQ)
 |[]=>some []
 |q::r=>Ri (SM T s m q) (KC T s m r)
def EF:Nat×Option TypeId->ResultVar
 |(t,none)=> .tmp t
 |(t,some ty)=> .cell t ty
@[go_sem] def F9:Nat->Nat->List (Nat×qP)->List (Nat×qP)
 |0,_,H=>H
 |n+1,i,[]=>(i,.dead)::F9 n (i+1) []
 |n+1,i,(j,b)::H=>if j=i then(j,b)::F9 n (i+1) H else(i,.dead)::F9 n (i+1) ((j,b)::H)
theorem N4: ∀{n i:Nat}{H:List (Nat×qP)}{k:Nat}{b:qP},qS (F9 n i H) k=some b->qS H k=some b\/b= .dead
 |0,_,_,_,_,h=> .inl h
 |n+1,i,[],k,b,h=>by
  simp only[F9,qS] at h;split at h
  .exact .inr (aFU h).symm
  .exact N4 h
 |n+1,i,(j,c)::H,k,b,h=>by
  unfold F9 at h;split at h
  .simp only[qS] at h|-;split at h
   .rename_i e;rw[aFP e];exact .inl h
   rename_i e;rw[aFQ e];exact N4 h
  simp only[qS] at h;split at h
  .exact .inr (aFU h).symm
  exact N4 h
theorem sO.pad {g:Gh}{w:qD}{H:sJ}(h:sO g w H) (n i:Nat):sO g w (F9 n i H):=by
 have own: ∀{k blk b o},qS (F9 n i H) k=some blk->sL g k blk b o->qS H k=some blk:=fun F ho=>by
  rcases N4 F with z|z
  .exact z
  subst z;exact ho.elim
 refine⟨fun k b hb=>?_,fun i j bi bj b o E z D o1 o2=>h.dis i j bi bj b o E (own z o1) (own D o2) o1 o2,h.sl,h.tab.1,fun k blk b o z D=>h.tab.2 k blk b o (own z D) D⟩;rcases N4 hb with z|z
 .exact h.blk k b z
 subst z;trivial
theorem tR.pad {A:Nat->Nat->Prop}{L:List qP}{g0 g:Gh}{w0 w:qD}{H:sJ}(h:tR A L g0 w0 g w H) (n i:Nat):tR A L g0 w0 g w (F9 n i H):=by
 refine⟨h.shut,h.fr,fun k blk b o z ho=>?_,h.J,h.live,fun k u y us D z=>?_,h.cur⟩
 .rcases N4 z with j|j
  .exact h.perm k blk b o j ho
  subst j;exact ho.elim
 rcases N4 z with j|j
 .exact h.ty k u y us D j
 cases j
def Rk (T:sZ) (ts:List (Nat×Option TypeId)) (r:r5):Ex->St->Prop
 | .exit _,_=>False
 |_,s=> ∃m:pY,xI s.np m=true/\F9 (rI r.H) 0 (s.keep ⟨[],m⟩).H=rC 0 r.H/\KC T s m ts=some r.ret
section
variable {P:Program}{o:Oper}{a:Act}{g:Gh}{w:qD}{H:sJ}{T:sZ}(hT:xZ P T) (hH:sO g w H)
include hT hH
theorem a6Q {t:TypeId}{vx:qE}{sx:qQ}(I:rX g w sx vx) {e:r6}(hr:Y4 H (s5 T t) sx=some e): ∃ad v,vx= .pointer (some ad)/\(loadVar t ad).run P w= .ok v w/\rX g w e.slot v:=by
 generalize hs:s5 T t=ot at hr;replace I:=I.1;unfold Y4 at hr;split at hr
 .rename_i ti i off k;have K:=tB hT hs;generalize hb:qS H i=ob at hr;unfold RJ at hr;split at hr
  .rename_i u z toks;generalize j:rH ti.ty u z off=oy at hr;cases oy with
   |none=>cases hr
   |some y=>
    cases hr;obtain⟨p,hp,U⟩:=y6 I;obtain⟨p',cs,h,V,Q,_,_,O⟩:=hH.blk i _ hb;rw[hp] at h;obtain rfl:=aFU h;obtain⟨c1,c2,c3,rfl,rfl,D⟩:=CO V j;obtain⟨v,X,R,h3⟩:=P7 hT hH K (MU hT hH Q) D;refine⟨_,v,U,by simpa[Instr.loadAt,Instr.sureAddr] using X,R,?_⟩;obtain⟨ty,el,by',ar,ls⟩:=ti;cases ty with
    |list u'=>
     simp only[G8];generalize M:xV toks c1.length=ok;cases ok with
     |none=>trivial
     |some k=>
      obtain⟨u2,l,v',g1,g2,g3⟩:=O _ _ (ik hT hH M);obtain⟨heq,hl⟩:=Mh hT hH g1 j rfl;injection heq with G
      subst G;have F:=t8 D;obtain⟨v2,rfl⟩:=aHc.1 F;have e2:v'=v2:=by
       have e:(c1++[v2]++c3)[c1.length]? =some v2:=by simp
       rw[e] at g2;exact(aFU g2).symm
      have e3:v=v2:=by
       have h4:=y5 rfl R;have E:=AW h4 v pV;have:v.cells= #[v]:=by cases v<;>first|rfl|(simp [Value.oneCell'] at E)
       rw[this] at h3;simpa using h3
      subst e2;subst e3;have e4:(y:List u'.den)=l:=hl;subst e4;exact g3
    |_=>trivial
  cases hr
 cases hr
end
def N5 (tmps:Array qE) (q:Nat×Option TypeId):Sem qE:=match EF q with
 | .tmp t=>pure (tmps.getD t undef)
 | .cell a t=>do loadVar t (<-asAddr (tmps.getD a undef))
theorem Rl {P:Program}{T:sZ}(hT:xZ P T) {B:Nat}{g:Gh}{w:qD}{s:St}{a:Act}{m:pY}(j:xI s.np m=true) (hr:vE B g w s a): ∀{ts:List (Nat×Option TypeId)}{l:List qQ},KC T s m ts=some l->
  ∃vs:q8,(ts.mapM (N5 a.tmps)).run P w= .ok vs w/\vJ (uP g s.np m) w l vs
 |[],l,h=>by
  simp only[KC,aFO] at h;subst h;exact⟨[],by simp,rfl⟩
 |q::ts,l,h=>by
  simp only[KC] at h;obtain⟨s1,l1,e1,e2,rfl⟩: ∃s1 l1,SM T s m q=some s1/\KC T s m ts=some l1/\l=s1::l1:=by
   cases F:SM T s m q<;>cases E:KC T s m ts<;>rw[F,E] at h<;>simp [Ri] at h
   exact⟨_,_,rfl,rfl,h.symm⟩
  obtain⟨vs,v1,v2⟩:=Rl hT j hr e2;obtain⟨v,w1,w2⟩: ∃v,(N5 a.tmps q).run P w= .ok v w/\rX (uP g s.np m) w s1 v:=by
   obtain⟨t,oty⟩:=q;cases oty with
   |none=>
    simp only[SM,aFO] at e1;subst e1;exact⟨_,by simp [N5,EF],XT j (hr.env t)⟩
   |some ty=>
    simp only[SM] at e1;cases z:Y4 s.H (s5 T ty) (lk s.env t) with
    |none=>rw[z] at e1;cases e1
    |some e=>
     rw[z] at e1;simp only[Rj,Option.map_some,aFO] at e1;subst e1;obtain⟨ad,v,D,hl,hs⟩:=a6Q hT hr.heap (hr.env t) z;exact⟨v,by simp only[N5,EF,D,asAddr,aF4,aGg,aFX,hl],XT j hs⟩
  exact⟨v::vs,by simp only[List.mapM_cons,aF4,w1,aFX,v1,aGg],v,vs,rfl,w2,v2⟩
def PG (tmps:Array qE):ResultVar->Sem qE
 | .tmp t=>pure (tmps.getD t undef)
 | .cell a t=>do loadVar t (<-asAddr (tmps.getD a undef))
theorem a6R {P:Program}{fn:Func}{w:qD}{tmps:Array qE}{ts:List (Nat×Option TypeId)}(h:fn.results.toList=ts.map EF) {vs:q8}(z:(ts.mapM (N5 tmps)).run P w= .ok vs w):(results fn tmps).run P w= .ok (ld vs) w:=by
 obtain⟨rs,j⟩: ∃rs,fn.results=⟨rs⟩:=⟨fn.results.toList,rfl⟩;have hm:rs=ts.map EF:=by rw[j] at h;exact h
 have key:Sem.run P (((ts.map EF).toArray).mapM (PG tmps)) w=Result.ok vs.toArray w:=by
  rw[List.mapM_toArray,List.mapM_map];have e:PG tmps∘EF=N5 tmps:=by
   funext q;obtain⟨t,o⟩:=q;cases o<;>rfl
  have e2:(fun q=>PG tmps (EF q))=N5 tmps:=e;show Sem.run P (List.mapM (fun q=>PG tmps (EF q)) ts>>=fun l=>pure l.toArray) w=_;rw[e2,aF4,z];rfl
 have D:results fn tmps=(fn.results.mapM (PG tmps) >>=fun vs=>pure (if h:vs.size=1 then vs[0] else .tuple vs)):=by
  unfold results;congr 2
 rw[D,j,hm,aF4];have key2:Sem.run P (Array.mapM (PG tmps) (⟨ts.map EF⟩:Array ResultVar)) w=Result.ok vs.toArray w:=key;rw[key2];simp only[aFX,aGg]
 match vs with
 |[]=>rfl
 |[v]=>rfl
 |v::u::l=>simp [ld]
theorem a6S {P:Program}{T:sZ}(hT:xZ P T) {f:FuncId}{fn:Func}{c:Code}{C:List qQ->List qP->Option r5}{ts:List (Nat×Option TypeId)}(hf:P.funcs[f]? =some fn) (hb:fn.body=some c) {N:Nat}(hN:fn.ntmps=N)
  (I: ∀args w,(callFunc f args).run P w= .ok (.enter f args) w) (R:fn.results.toList=ts.map EF)
  (h: ∀args L r,C args L=some r->(∀p∈r.side,p)->s8 L->args.length<=N/\SI (w7 0 L) args/\N2 (w7 0 L) L/\Ev false P c ⟨s7 0 args,rC 0 L,rI L,N,rI L⟩ (Rk T ts r)):xJ P f C:=by
 subst hN;refine⟨I,fun g w args vals L r hH Y hC hs=>?_⟩;obtain⟨h1,h2,h3,h4⟩:=h args L r hC hs (Qq fun i b hb=>⟨i,hH.blk i b (by rw[y8];exact hb)⟩);obtain⟨hr,D⟩:=a6E hH Y h2 h3 h1;have j: ∀b o,zF (uP g 0 (w7 0 L)) (rC 0 L) b o->zF g (rC 0 L) b o:=fun b o ⟨i,blk,M,ho⟩=>⟨i,blk,M,(D i blk (by rw[<-y8];exact M)).2.2 b o ho⟩;have G:tR (zF (uP g 0 (w7 0 L)) (rC 0 L)) L (uP g 0 (w7 0 L)) w (uP g 0 (w7 0 L)) w (rC 0 L):=by
  refine⟨fun b o h=>⟨h,rfl⟩,Fr.refl _ _ _,fun i blk b o M ho=> .inr ⟨i,blk,M,ho⟩,fun _ _ _ h=>h,fun i hi=>?_,fun i u y us _ M=>⟨y,us,by rw[<-y8];exact M⟩,fun _ _ _ _ h=>h⟩;have hL:L[i]? =some L[i]:=by simp
  obtain⟨_,z,_⟩:=D i L[i] hL;have Q:=(N3 h3 L[i] (aGG hi)).2;generalize L[i]=blk at z Q;cases blk with
  |cells t x ts=>obtain⟨p,cs,hp,_⟩:=z;exact .inl ⟨p,hp⟩
  |grow e c n=>obtain⟨v,xs,K,_⟩:=z;exact .inr ⟨n,v,K⟩
  |row e t l n=>obtain⟨_,v,xs,K,_⟩:=z;exact .inr ⟨n,v,K⟩
  |map k v l=>obtain⟨p,es,cl,hp,_⟩:=z;exact .inl ⟨p,hp⟩
  |iter s n=>obtain⟨p,hp,_⟩:=z;exact .inl ⟨p,hp⟩
  |dead=>exact absurd rfl Q
 refine callsIn_wide.1 (callsIn_of_wp_marks (F:=Fence.wide) (n:=0) hf hb trivial (aHB (h4 none rfl _ _ _ _ _ _ _ _ (aGc _) hr G (Y1 L)) fun x a' w' hp=>?_) rfl);obtain⟨e,g',s',e1,e2,e3,e4,e5⟩:=hp;have fin: ∀m:pY,xI s'.np m=true->F9 (rI r.H) 0 (s'.keep ⟨[],m⟩).H=rC 0 r.H->KC T s' m ts=some r.ret->LeavesInM Fence.wide 0 P fn a'.tmps (fun e w'=> ∃v' g',e= .returned v'/\GK g w L r g' w' v') a'.defers .returning w':=by
  intro m V k1 k2;refine Qw a'.defers w' e3 e4 (fun w1 e3 e4=>?_);obtain⟨l1,l2,l3,_⟩:=kc e3 e4 e5 ⟨[],m⟩ V;replace l2:=l2.pad (rI r.H) 0;rw[k1] at l2;obtain⟨vs,q1,q2⟩:=Rl hT V e3 k2;have q3:=a6R (P:=P) (w:=w1) (tmps:=a'.tmps) R q1;refine⟨_,q3,_,_,rfl,⟨fun b o hb=>l2.shut b o hb,by rw[<-k1];exact l1.heap.pad _ _,?_,?_,fun i blk b o hi ho=>?_,fun i t x us hi=>?_,fun i t x us u y vs hi hr=>?_,fun i p hi hp=>l2.J i p hi ((zY XZ (PF.2 ⟨rfl,aGS _,pT⟩)).1.trans hp),fun i n u hi X=>l2.cur i n u hi ((congrFun (zY XZ (PF.2 ⟨rfl,aGS _,pT⟩)).2 n).trans X)⟩⟩
  .unfold S8;split
   .rename_i s hs;rw[hs] at q2;obtain⟨v,vs',K,O,h6⟩:=q2;rw[K,show vs'=[] from h6];exact O
   rename_i hne;refine⟨_,?_,q2⟩;unfold ld;split
   .rename_i v K;exfalso;have:=(Y0 q2).1;cases hq:r.ret with
    |nil=>rw[hq] at this;simp at this
    |cons s l=>cases l with
     |nil=>exact hne s hq
     |cons _ _=>rw[hq] at this;simp at this
   rfl
  .exact⟨l2.fr.os,l2.fr.tape,l2.fr.output,l2.fr.size,fun b hb U=>l2.fr.blk b hb (fun o ho=>U o (j b o ho)),fun b o hb U=>l2.fr.cell b o hb (fun ho=>U (j b o ho)),fun b o Z=>(l2.fr.new b o Z).imp id (Or.imp id (j b o)),fun b s hs=>(l2.fr.shape b s hs).imp id fun h o=>j b o (h o)⟩
  .exact(l2.perm i blk b o (by rw[y8];exact hi) ho).imp id (j b o)
  .obtain⟨j1,⟨p,cs,j2,_⟩,_⟩:=D i _ hi;have E:i<L.length:=(aF5.1 hi).1;rw[l2.J i p E j2,<-j1,j2]
  have E:i<L.length:=(aF5.1 hi).1;obtain⟨x',ts',O⟩:=l2.ty i u y vs E (by rw[y8];exact hr);rw[hi] at O;simp only[aFO,qP.cells.injEq] at O;exact O.1.symm
 cases x<;>simp only[GM,aFO] at e1
 case normal=>subst e1;obtain⟨k,k0,k1,k2⟩:=e2;exact fin k k0 k1 k2
 case ret=>subst e1;obtain⟨k,k0,k1,k2⟩:=e2;exact fin k k0 k1 k2
 case exit id=>subst e1;exact e2.elim
 all_goals cases e1
open Classical in
noncomputable def s9 {V:Type}(p:V->List qQ) (q:V->List qP) (R:V->r5) (a:List qQ) (L:List qP):Option r5:=
 if h: ∃v,p v=a/\q v=L then some (R h.choose) else none
theorem a6T {V:Type}{p:V->List qQ}{q:V->List qP}{R:V->r5}{a:List qQ}{L:List qP}{r:r5}(h:s9 p q R a L=some r): ∃v,p v=a/\q v=L/\R v=r:=by
 unfold s9 at h;split at h
 .rename_i e;exact⟨e.choose,e.choose_spec.1,e.choose_spec.2,aFU h⟩
 cases h
theorem sB {V:Type}{p:V->List qQ}{q:V->List qP}{R:V->r5}(inj: ∀v v',p v=p v'->q v=q v'->v=v') (v:V):s9 p q R (p v) (q v)=some (R v):=by
 have h: ∃u,p u=p v/\q u=q v:=⟨v,rfl,rfl⟩;unfold s9;rw[aHQ h,inj _ v h.choose_spec.1 h.choose_spec.2]
theorem Rm: ∀{l:List Prop},(∀p∈l,p)->rN l
 |[],_=>trivial
 |[p],h=>h p pV
 |p::q::r,h=>⟨h p pV,Rm (l:=q::r) fun x j=>h x (aF2 _ j)⟩
def rS (P:Program) (x:Nat×rM):Prop:=xJ P x.1 x.2.C/\∀F,x.2.row=some F->XE P x.1 F
theorem sC {P:Program}{T:sZ}{Γ:tP}(E:rJ P T Γ) {f:FuncId}{fn:Func}{c:Code}{V:Type}{p:V->List qQ}{q:V->List qP}{R:V->r5}{ps:List PK}{gs:List (Nat×Nat×PK)}{same:qC}{ts:List (Nat×Option TypeId)}(hf:P.funcs[f]? =some fn) (hb:fn.body=some c) {N:Nat}(D:fn.ntmps=N)
  (z:fn.results.toList=ts.map EF) (j: ∀args w,(callFunc f args).run P w= .ok (.enter f args) w)
  (h: ∀v,rN (R v).side->s8 (q v)->Ev false P c ⟨s7 0 (p v),rC 0 (q v),rI (q v),N,rI (q v)⟩ (Rk T ts (R v)))
  (I: ∀v,Nat.ble (p v).length N=true:=by intro _;rfl)
  (G: ∀v,SI (w7 0 (q v)) (p v):=by intro _;repeat (first|exact trivial|refine ⟨rfl,?_⟩))
  (h3: ∀v,N2 (w7 0 (q v)) (q v):=by intro _;repeat (first|exact trivial|refine ⟨rfl,?_⟩)):rS P (f,⟨ps,s9 p q R,gs,same,none⟩):=
 ⟨a6S E.T hf hb D j z fun args L r F hs hr=>by
  obtain⟨v,rfl,rfl,rfl⟩:=a6T F;exact⟨aHd (I v),G v,h3 v,h v (Rm hs) hr⟩,fun _ h=>by cases h⟩
abbrev qR (n:Int):Prop:= -9223372036854775808<=n/\n<=9223372036854775807
@[go_sem] def rK:List (Nat×rM)->tP
 |[],_=>none
 |(k,s)::r,f=>if k=f then some s else rK r f
theorem rZ {P:Program}:F6 P (rK []):=fun _ _ _ h=>by cases h
theorem r7 {P:Program}{x:Nat×rM}{r:List (Nat×rM)}(h:rS P x) (hr:F6 P (rK r)):F6 P (rK (x::r)):=fun f s j hs=>by
 obtain⟨k,y⟩:=x;simp only[rK] at hs;split at hs
 .rename_i e;subst e;cases hs;exact h
 exact hr f s j hs
section
variable {P:Program}{T:sZ}{Γ:tP}(E:rJ P T Γ) {s:St}{Q:Ex->St->Prop}
include E
theorem qO {id:Nat}{ops:Array Oper}{a:wF}{y:Code}(hq:Ev R P y a.s Q) (h:vD T Γ ops.toList ops.toList (some ⟨s,[],[]⟩)=some a:=by simp only[go_sem];rfl) (hp:rN a.side:=by exact trivial):Ev R P (.seq (.region id ops false) y) s Q:=
 qY (Rg E h hp hq)
theorem x8 {id:Nat}{ops:Array Oper}{a:wF}{y:Code}(hq:Ev R P y a.s Q) (h:vD T Γ ops.toList ops.toList (some ⟨s,[],[]⟩)=some a:=by simp only[go_sem];rfl) (hp:rN a.side:=by exact trivial) (hf:MJ ops s.nb a.es.reverse=true:=by kernel_rfl):Ev R P (.seq (.region id ops true) y) s Q:=
 qY (Rh E h hf hp hq)
theorem rT {id:Nat}{ops:Array Oper}{a:wF}(hq:Q .normal a.s) (h:vD T Γ ops.toList ops.toList (some ⟨s,[],[]⟩)=some a:=by simp only[go_sem];rfl) (hp:rN a.side:=by exact trivial):Ev R P (.region id ops false) s Q:=
 Rg E h hp hq
theorem II {id:Nat}{ops:Array Oper}{a:wF}(hq:Q .normal a.s) (h:vD T Γ ops.toList ops.toList (some ⟨s,[],[]⟩)=some a:=by simp only[go_sem];rfl) (hp:rN a.side:=by exact trivial) (hf:MJ ops s.nb a.es.reverse=true:=by kernel_rfl):Ev R P (.region id ops true) s Q:=
 Rh E h hf hp hq
end
theorem r8 {P:Program}{s:St}{Q:Ex->St->Prop}{c:Operand}{x y:Code}{b b':Bool}{k:qB}{ρ:Type}{X Y r:ρ}(j:(if b'=true then X else Y)=r) (z:X=r->b=true->Ev R P x s Q) (hf:Y=r->b=false->Ev R P y s Q)
  (h:uC s.env c=(.val .bool b,k):=by simp only[go_sem];rfl) (hb:b=b':=by first|rfl|simp):Ev R P (.cond c x y) s Q:=
 a6H h (fun e=>z (a6O j (hb▸e)) e) (fun e=>hf (a6P j (hb▸e)) e)
theorem rW {σ ρ:Type}[Inhabited σ] {x:Option σ}{k:σ->Option ρ}{r:ρ}(h:x.bind k=some r): ∃y,x=some y/\val x=y/\k y=some r:=by
 obtain⟨y,j,z⟩:=rE h;exact⟨y,j,sH j,z⟩
attribute [go_sem] true_and and_true false_and and_false Nat.reduceMul List.nil_append List.cons_append List.append_nil List.toList_toArray Nat.reduceEqDiff reduceIte reduceDIte reduceCtorEq Nat.reduceAdd Nat.reduceSub Int.reduceToNat Nat.reduceLT Nat.reduceLeDiff decide_true decide_false Bool.and_self Bool.or_self Bool.or_false Bool.false_or Bool.and_true Bool.true_and Bool.not_true Bool.not_false
end Go.Proofs.YtcpbaddnmpeipaaGreatDoor.Vc
namespace Go.Proofs
open Go.RowKit Go.Lib
open Tryz
def Tryz.lays137_ren:Go.Shelf.Ren:=⟨fun|137=>133|217=>139|266=>174|n=>n,fun|9=>9|5=>5|3=>3|n=>n,fun|n=>n⟩
theorem Tryz.lays137:Go.Proofs.Lays.n137 prog Tryz.lays137_ren:={
 mixed:=by kernel_rfl
 f137:=Tryz.func133.trans (aGd some qH)
 f217:=Tryz.func139.trans (aGd some qH)
 f266:=Tryz.func174.trans (aGd some qH)
 t3:=Tryz.underlying3
 a3:=Tryz.isAgg3
 z3:=Tryz.sizeOf3
 v3:=Tryz.zeroValue3
 t5:=Tryz.underlying5
 a5:=Tryz.isAgg5
 z5:=Tryz.sizeOf5
 v5:=Tryz.zeroValue5
 t9:=Tryz.underlying9
 a9:=Tryz.isAgg9
 z9:=Tryz.sizeOf9
 v9:=Tryz.zeroValue9}
def Tryz.lays161_ren:Go.Shelf.Ren:=⟨fun|161=>80|231=>111|227=>112|233=>113|235=>114|228=>143|197=>144|151=>145|260=>176|152=>177|137=>133|119=>199|224=>141|225=>140|217=>139|266=>174|n=>n,fun|9=>9|4=>4|3=>3|5=>5|117=>152|116=>151|0=>0|124=>155|105=>177|21=>21|119=>218|46=>176|139=>221|138=>220|n=>n,fun|3=>1|4=>2|n=>n⟩
theorem Tryz.lays161:Go.Proofs.Lays.n161 prog Tryz.lays161_ren:={
 mixed:=by kernel_rfl
 f119:=Tryz.func199.trans (aGd some qH)
 f137:=Tryz.func133.trans (aGd some qH)
 f151:=Tryz.func145.trans (aGd some qH)
 f152:=Tryz.func177.trans (aGd some qH)
 f161:=Tryz.func80.trans (aGd some qH)
 f197:=Tryz.func144.trans (aGd some qH)
 f217:=Tryz.func139.trans (aGd some qH)
 f224:=Tryz.func141.trans (aGd some qH)
 f225:=Tryz.func140.trans (aGd some qH)
 f227:=Tryz.func112.trans (aGd some qH)
 f228:=Tryz.func143.trans (aGd some qH)
 f231:=Tryz.func111.trans (aGd some qH)
 f233:=Tryz.func113.trans (aGd some qH)
 f235:=Tryz.func114.trans (aGd some qH)
 f260:=Tryz.func176.trans (aGd some qH)
 f266:=Tryz.func174.trans (aGd some qH)
 t0:=Tryz.underlying0
 a0:=Tryz.isAgg0
 z0:=Tryz.sizeOf0
 v0:=Tryz.zeroValue0
 t3:=Tryz.underlying3
 a3:=Tryz.isAgg3
 z3:=Tryz.sizeOf3
 v3:=Tryz.zeroValue3
 t4:=Tryz.underlying4
 a4:=Tryz.isAgg4
 z4:=Tryz.sizeOf4
 v4:=Tryz.zeroValue4
 t5:=Tryz.underlying5
 a5:=Tryz.isAgg5
 z5:=Tryz.sizeOf5
 v5:=Tryz.zeroValue5
 t9:=Tryz.underlying9
 a9:=Tryz.isAgg9
 z9:=Tryz.sizeOf9
 v9:=Tryz.zeroValue9
 t21:=Tryz.underlying21
 a21:=Tryz.isAgg21
 z21:=Tryz.sizeOf21
 v21:=Tryz.zeroValue21
 t46:=Tryz.underlying176
 a46:=Tryz.isAgg176
 z46:=Tryz.sizeOf176
 v46:=Tryz.zeroValue176
 t105:=Tryz.underlying177
 a105:=Tryz.isAgg177
 z105:=Tryz.sizeOf177
 v105:=Tryz.zeroValue177
 t116:=Tryz.underlying151
 a116:=Tryz.isAgg151
 z116:=Tryz.sizeOf151
 t117:=Tryz.underlying152
 a117:=Tryz.isAgg152
 z117:=Tryz.sizeOf152
 v117:=Tryz.zeroValue152
 t119:=Tryz.underlying218
 a119:=Tryz.isAgg218
 z119:=Tryz.sizeOf218
 t124:=Tryz.underlying155
 a124:=Tryz.isAgg155
 z124:=Tryz.sizeOf155
 v124:=Tryz.zeroValue155
 t138:=Tryz.underlying220
 a138:=Tryz.isAgg220
 z138:=Tryz.sizeOf220
 v138:=Tryz.zeroValue220
 t139:=Tryz.underlying221
 a139:=Tryz.isAgg221
 z139:=Tryz.sizeOf221
 v139:=Tryz.zeroValue221
 g3:=by kernel_rfl
 g4:=by kernel_rfl}
def Tryz.lays190_ren:Go.Shelf.Ren:=⟨fun|190=>163|125=>192|258=>191|128=>217|129=>218|302=>208|303=>209|304=>210|305=>211|306=>212|307=>213|308=>214|309=>215|310=>216|333=>236|329=>237|330=>238|334=>239|335=>240|336=>241|344=>252|n=>n,fun|31=>23|9=>9|3=>3|46=>176|0=>0|51=>202|53=>241|4=>4|183=>234|182=>233|131=>54|5=>5|218=>255|222=>259|228=>268|229=>140|n=>n,fun|n=>n⟩
theorem Tryz.lays190:Go.Proofs.Lays.n190 prog Tryz.lays190_ren:={
 mixed:=by kernel_rfl
 f125:=Tryz.func192.trans (aGd some qH)
 f128:=Tryz.func217.trans (aGd some qH)
 f129:=Tryz.func218.trans (aGd some qH)
 f190:=Tryz.func163.trans (aGd some qH)
 f258:=Tryz.func191.trans (aGd some qH)
 f302:=Tryz.func208.trans (aGd some qH)
 f303:=Tryz.func209.trans (aGd some qH)
 f304:=Tryz.func210.trans (aGd some qH)
 f305:=Tryz.func211.trans (aGd some qH)
 f306:=Tryz.func212.trans (aGd some qH)
 f307:=Tryz.func213.trans (aGd some qH)
 f308:=Tryz.func214.trans (aGd some qH)
 f309:=Tryz.func215.trans (aGd some qH)
 f310:=Tryz.func216.trans (aGd some qH)
 f329:=Tryz.func237.trans (aGd some qH)
 f330:=Tryz.func238.trans (aGd some qH)
 f333:=Tryz.func236.trans (aGd some qH)
 f334:=Tryz.func239.trans (aGd some qH)
 f335:=Tryz.func240.trans (aGd some qH)
 f336:=Tryz.func241.trans (aGd some qH)
 f344:=Tryz.func252.trans (aGd some qH)
 t0:=Tryz.underlying0
 a0:=Tryz.isAgg0
 z0:=Tryz.sizeOf0
 v0:=Tryz.zeroValue0
 t3:=Tryz.underlying3
 a3:=Tryz.isAgg3
 z3:=Tryz.sizeOf3
 v3:=Tryz.zeroValue3
 t4:=Tryz.underlying4
 a4:=Tryz.isAgg4
 z4:=Tryz.sizeOf4
 v4:=Tryz.zeroValue4
 t5:=Tryz.underlying5
 a5:=Tryz.isAgg5
 z5:=Tryz.sizeOf5
 v5:=Tryz.zeroValue5
 t9:=Tryz.underlying9
 a9:=Tryz.isAgg9
 z9:=Tryz.sizeOf9
 v9:=Tryz.zeroValue9
 t31:=Tryz.underlying23
 a31:=Tryz.isAgg23
 z31:=Tryz.sizeOf23
 v31:=Tryz.zeroValue23
 t46:=Tryz.underlying176
 a46:=Tryz.isAgg176
 z46:=Tryz.sizeOf176
 v46:=Tryz.zeroValue176
 t51:=Tryz.underlying202
 a51:=Tryz.isAgg202
 z51:=Tryz.sizeOf202
 v51:=Tryz.zeroValue202
 t53:=Tryz.underlying241
 a53:=Tryz.isAgg241
 z53:=Tryz.sizeOf241
 v53:=Tryz.zeroValue241
 t131:=Tryz.underlying54
 a131:=Tryz.isAgg54
 z131:=Tryz.sizeOf54
 v131:=Tryz.zeroValue54
 t182:=Tryz.underlying233
 a182:=Tryz.isAgg233
 z182:=Tryz.sizeOf233
 v182:=Tryz.zeroValue233
 t183:=Tryz.underlying234
 a183:=Tryz.isAgg234
 z183:=Tryz.sizeOf234
 v183:=Tryz.zeroValue234
 t218:=Tryz.underlying255
 a218:=Tryz.isAgg255
 z218:=Tryz.sizeOf255
 v218:=Tryz.zeroValue255
 t222:=Tryz.underlying259
 a222:=Tryz.isAgg259
 z222:=Tryz.sizeOf259
 v222:=Tryz.zeroValue259
 t228:=Tryz.underlying268
 a228:=Tryz.isAgg268
 z228:=Tryz.sizeOf268
 v228:=Tryz.zeroValue268
 t229:=Tryz.underlying140
 a229:=Tryz.isAgg140
 z229:=Tryz.sizeOf140
 v229:=Tryz.zeroValue140}
def Tryz.lays196_ren:Go.Shelf.Ren:=⟨fun|196=>168|259=>195|n=>n,fun|0=>0|3=>3|4=>4|5=>5|9=>9|12=>12|46=>176|53=>241|119=>218|138=>220|139=>221|n=>n,fun|3=>1|4=>2|n=>n⟩
theorem Tryz.lays196:Go.Proofs.Lays.n196 prog Tryz.lays196_ren:={
 mixed:=by kernel_rfl
 f196:=Tryz.func168.trans (aGd some qH)
 f259:=Tryz.func195.trans (aGd some qH)
 t0:=Tryz.underlying0
 a0:=Tryz.isAgg0
 z0:=Tryz.sizeOf0
 v0:=Tryz.zeroValue0
 t3:=Tryz.underlying3
 a3:=Tryz.isAgg3
 z3:=Tryz.sizeOf3
 v3:=Tryz.zeroValue3
 t4:=Tryz.underlying4
 a4:=Tryz.isAgg4
 z4:=Tryz.sizeOf4
 v4:=Tryz.zeroValue4
 t5:=Tryz.underlying5
 a5:=Tryz.isAgg5
 z5:=Tryz.sizeOf5
 v5:=Tryz.zeroValue5
 t9:=Tryz.underlying9
 a9:=Tryz.isAgg9
 z9:=Tryz.sizeOf9
 v9:=Tryz.zeroValue9
 t12:=Tryz.underlying12
 a12:=Tryz.isAgg12
 z12:=Tryz.sizeOf12
 v12:=Tryz.zeroValue12
 t46:=Tryz.underlying176
 a46:=Tryz.isAgg176
 z46:=Tryz.sizeOf176
 v46:=Tryz.zeroValue176
 t53:=Tryz.underlying241
 a53:=Tryz.isAgg241
 z53:=Tryz.sizeOf241
 v53:=Tryz.zeroValue241
 t119:=Tryz.underlying218
 a119:=Tryz.isAgg218
 z119:=Tryz.sizeOf218
 t138:=Tryz.underlying220
 a138:=Tryz.isAgg220
 z138:=Tryz.sizeOf220
 v138:=Tryz.zeroValue220
 t139:=Tryz.underlying221
 a139:=Tryz.isAgg221
 z139:=Tryz.sizeOf221
 v139:=Tryz.zeroValue221
 g3:=by kernel_rfl
 g4:=by kernel_rfl}
def Tryz.lays240_ren:Go.Shelf.Ren:=⟨fun|240=>78|276=>109|n=>n,fun|0=>0|4=>4|9=>9|20=>20|70=>79|72=>82|164=>146|37=>80|n=>n,fun|n=>n⟩
theorem Tryz.lays240:Go.Proofs.Lays.n240 prog Tryz.lays240_ren:={
 mixed:=by kernel_rfl
 f240:=Tryz.func78.trans (aGd some qH)
 f276:=Tryz.func109.trans (aGd some qH)
 t0:=Tryz.underlying0
 a0:=Tryz.isAgg0
 z0:=Tryz.sizeOf0
 v0:=Tryz.zeroValue0
 t4:=Tryz.underlying4
 a4:=Tryz.isAgg4
 z4:=Tryz.sizeOf4
 v4:=Tryz.zeroValue4
 t9:=Tryz.underlying9
 a9:=Tryz.isAgg9
 z9:=Tryz.sizeOf9
 v9:=Tryz.zeroValue9
 t20:=Tryz.underlying20
 a20:=Tryz.isAgg20
 z20:=Tryz.sizeOf20
 v20:=Tryz.zeroValue20
 t70:=Tryz.underlying79
 a70:=Tryz.isAgg79
 z70:=Tryz.sizeOf79
 v70:=Tryz.zeroValue79
 t72:=Tryz.underlying82
 a72:=Tryz.isAgg82
 z72:=Tryz.sizeOf82
 v72:=Tryz.zeroValue82
 t164:=Tryz.underlying146
 a164:=Tryz.isAgg146
 z164:=Tryz.sizeOf146
 v164:=Tryz.zeroValue146}
theorem Tryz.builderX72:Builder.X72 prog Tryz.lays240_ren:={
 sizeBuilder:=by kernel_rfl
 liesBuilder:=by kernel_rfl}
def Tryz.lays169_ren:Go.Shelf.Ren:=⟨fun|169=>53|n=>n,fun|70=>79|9=>9|0=>0|72=>82|37=>80|127=>115|3=>3|5=>5|n=>n,fun|n=>n⟩
theorem Tryz.lays169:Go.Proofs.Lays.n169 prog Tryz.lays169_ren:={
 mixed:=by kernel_rfl
 f169:=Tryz.func53.trans (aGd some qH)
 t0:=Tryz.underlying0
 a0:=Tryz.isAgg0
 z0:=Tryz.sizeOf0
 v0:=Tryz.zeroValue0
 t3:=Tryz.underlying3
 a3:=Tryz.isAgg3
 z3:=Tryz.sizeOf3
 v3:=Tryz.zeroValue3
 t9:=Tryz.underlying9
 a9:=Tryz.isAgg9
 z9:=Tryz.sizeOf9
 v9:=Tryz.zeroValue9
 t37:=Tryz.underlying80
 a37:=Tryz.isAgg80
 z37:=Tryz.sizeOf80
 v37:=Tryz.zeroValue80
 t70:=Tryz.underlying79
 a70:=Tryz.isAgg79
 z70:=Tryz.sizeOf79
 v70:=Tryz.zeroValue79
 t72:=Tryz.underlying82
 a72:=Tryz.isAgg82
 z72:=Tryz.sizeOf82
 v72:=Tryz.zeroValue82
 t127:=Tryz.underlying115
 a127:=Tryz.isAgg115
 z127:=Tryz.sizeOf115
 v127:=Tryz.zeroValue115}
theorem Tryz.builderExtra:Builder.Extra prog Tryz.lays169_ren:={
 sizeBuilder:=by kernel_rfl
 liesBuilder:=by kernel_rfl
 t5:=Tryz.underlying5
 a5:=Tryz.isAgg5
 z5:=Tryz.sizeOf5
 v5:=Tryz.zeroValue5
 infoByte:=by kernel_rfl
 cellsByte:=by kernel_rfl
 sizeByte:=by kernel_rfl
 neB5:=by decide}
end Go.Proofs
namespace Go.Proofs.YtcpbaddnmpeipaaGreatDoor
open Vc Go.RowKit
open Tryz
theorem a6U {g:Gh}{w w':qD}(hH:sO g w (rC 0 [])) (hb:Below w.heap.size w w'):sO g w' (rC 0 []):=
 ⟨fun _ _ h=>(by cases h),fun _ _ _ _ _ _ _ h=>(by cases h),fun b o h=>aGq (hH.sl b o h) hb.size,⟨JN hH.tab.1 hb.size fun b h=>hb.block b (aGq h hH.tab.1.1),fun _ _ _ _ h=>(by cases h)⟩⟩
theorem IJ {P:Program}{f:FuncId}{C:List qQ->List qP->Option r5}(hen: ∀args w,(callFunc f args).run P w= .ok (.enter f args) w)
  (h: ∀(g:Gh) (w:qD) (args:List qQ) (vals:q8) (L:List qP) (r:r5),G7 w->vJ g w args vals->C args L=some r->(∀p∈r.side,p)->
   L=[]/\r.H=[]/\Calls P f vals.toArray w (fun e w'=> ∃v,e= .returned v/\Below w.heap.size w w'/\S8 g w' r.ret v)):xJ P f C:=by
 refine⟨hen,fun g w args vals L r hH ha hC hs=>?_⟩;obtain⟨rfl,hr,hc⟩:=h g w args vals L r hH.tab.1 ha hC hs;refine hc.mono fun e w' ⟨v,he,hb,hv⟩=>⟨v,g,he,⟨fun b o h=>⟨h,hb.cell (p:=⟨b,o,none⟩) (hH.sl b o h)⟩,by rw[hr];exact a6U hH hb,hv,⟨hb.os,hb.tape,hb.output,hb.size,fun b h _=>hb.block b h,fun b o h _=>⟨hb.cell (p:=⟨b,o,none⟩) h,hb.frozen (p:=⟨b,o,none⟩) h⟩,fun b o h=> .inl h,fun b s h=> .inl ((CQ (hb.block b (CP h))).trans h)⟩,(fun i blk b o h=>by rw[hr] at h;cases h),(fun i t x ts h=>by cases h),(fun i t x ts u y us h=>by cases h),(fun _ _ _ h=>h),(fun _ _ _ _ h=>h)⟩⟩
theorem Y5 {P:Program}{f:FuncId}{vals:Array qE}{w:qD}{Q:Ending->Prop}(h:Calls P f vals w fun e w'=>Q e/\w'=w):Calls P f vals w fun e w'=>Q e/\Below w.heap.size w w':=
 h.mono fun e w' ⟨h1,h2⟩=>⟨h1,by rw[h2];exact Below.refl _ _⟩
def vW (s:pP) (c:Int):Int:=Lib.indexByte s (Int.toNat c).toUInt8
@[go_sem] def Y6:List qQ->List qP->Option r5
 |[(.val .str O,none),(.val (.int .u8) Z,none)],[]=>some ⟨[],[(.val (.int .i64) (vW O Z),none)],[]⟩
 |_,_=>none
theorem Rn:xJ prog 133 Y6:=by
 refine IJ (fun _ _=>rfl) fun g w args vals L r hT ha hC hs=>?_;unfold Y6 at hC;split at hC
 .rename_i s c;cases hC;obtain⟨va,_,rfl,ra,vb,_,rfl,rb,hv⟩:=ha;obtain rfl:=x7 ra.1;obtain rfl:=wH rb.1;cases hv;exact⟨rfl,rfl,(Y5 (Any.strings_IndexByte Tryz.lays137 ⟨List.toArray s⟩ c w)).mono fun e w' ⟨he,hb⟩=>⟨_,he,hb,wN _ _ _ _,trivial⟩⟩
 cases hC
@[go_sem] def Y7:List qQ->List qP->Option r5
 |[(.val .str O,none),(.val .str Z,none)],[]=>some ⟨[(List.all Z fun b=>decide (b.toNat<128))=true/\List.length Z<4294967281],[(.val .str (Lib.trimLeftS O Z),none)],[]⟩
 |_,_=>none
theorem Ro:xJ prog 80 Y7:=by
 refine IJ (fun _ _=>rfl) fun g w args vals L r hT ha hC hs=>?_;unfold Y7 at hC;split at hC
 .rename_i s c;cases hC;obtain⟨h1,h2⟩:=hs _ aGa;obtain⟨va,_,rfl,ra,vb,_,rfl,rb,hv⟩:=ha;obtain rfl:=x7 ra.1;obtain rfl:=x7 rb.1;cases hv;exact⟨rfl,rfl,(Any.strings_TrimLeft_laid Tryz.lays161 qH ⟨List.toArray s⟩ ⟨List.toArray c⟩ w h2 (ascii_of_all h1)).mono fun e w' ⟨he,hb⟩=>⟨_,he,hb,DC _ _ _,trivial⟩⟩
 cases hC
@[go_sem] def Y8:List qQ->List qP->Option r5
 |[(.val .str O,none)],[]=>some ⟨[List.length O<=9223372036854775807],[(.val .bool (Lib.validD O),none)],[]⟩
 |_,_=>none
theorem Rp:xJ prog 168 Y8:=by
 refine IJ (fun _ _=>rfl) fun g w args vals L r hT ha hC hs=>?_;unfold Y8 at hC;split at hC
 .rename_i s;cases hC;have h1:=hs _ aGa;obtain⟨va,_,rfl,ra,hv⟩:=ha;obtain rfl:=x7 ra.1;cases hv;exact⟨rfl,rfl,(Any.utf8_ValidString Tryz.lays196 ⟨List.toArray s⟩ w h1 hT.2.1).mono fun e w' ⟨he,hb⟩=>⟨_,he,hb,vV _ _ _,trivial⟩⟩
 cases hC
@[go_sem] def ll:List qQ->List qP->Option r5:=fun _ _=>none
def tX (l:pQ):pQ:=l.mergeSort fun x y=>decide (x<=y)
@[go_sem] def lm:(t:Ty)->List t.den->Option (List t.den)
 | .str,l=>some (tX l)
 |_,_=>none
def ln {g:Gh}{w:qD}: ∀{l:pQ}{xs:q8},uI (Rd g w .str) 1 l xs->xs=l.map Go.Proofs.encStr
 |[],_,h=>h
 |_::_,_,⟨c1,c2,e,_,h2,h3⟩=>by rw[e,show c1=_ from h2,ln h3];rfl
def lp {g:Gh}{w:qD}: ∀(l:pQ),uI (Rd g w .str) 1 l (l.map Go.Proofs.encStr)
 |[]=>rfl
 |x::l=>⟨[.string ⟨x.toArray⟩],_,rfl,rfl,rfl,lp l⟩
def Rq (s:pQ) (cur:Array qE) (h:s.length<=cur.size):(Go.Sort.putCells Go.Proofs.encStr 0 s.toArray cur).toList.take s.length=s.map Go.Proofs.encStr:=by
 apply List.ext_getElem
 .simp [Go.Sort.putCells];omega
 intro i h1 h2;have hi:i<s.length:=by simpa using h2
 simp only[Go.Sort.putCells,List.getElem_take,Array.getElem_toList,Array.getElem_mapIdx,List.getElem_map];rw[aFP (by simp;exact hi)];simp [hi]
def Rr:xJ prog 163 ll/\∀F,some lm=some F->XE prog 163 F:=by
 refine⟨⟨fun _ _=>rfl,fun g w args vals L r _ _ hC _=>by cases hC⟩,fun F hF=>?_⟩;cases hF;intro g w e t l l' v n xs hT hown hF hl hn hf;cases t with
 |str=>
  have hf:tX l=l':=aFU hf;subst hf;subst hl;have hlen:(tX l).length=l.length:=by simp [tX]
  obtain⟨hx,⟨rfl,h0⟩ |⟨b,cap,cur,rfl,hb0,hbk,hnc,hcm,hcs,htk⟩⟩:=hown
  .obtain rfl:l=[]:=aGJ.1 h0;refine(Any.slices_Sort_string_none Tryz.lays190 none 0 w).mono ?_;rintro en w' ⟨rfl,rfl⟩;exact⟨rfl,hlen,[],⟨rfl,.inl ⟨rfl,rfl⟩⟩,by simp [tX,uI],⟨rfl,rfl,rfl,aGc _,fun _ _ _=>rfl⟩⟩
  .have hxs:=ln hF;subst hxs;have hc1:(Ty.str).cells=1:=rfl;rw[hc1,aHy] at hcs htk;have hbl:b<w.heap.size:=by
    rcases aG6 b w.heap.size with h|h
    .exact h
    rw[Array.getElem?_eq_none h] at hbk;cases hbk
   have hH:Go.Sort.Holds Go.Proofs.encStr w b 0 l.toArray:=by
    intro j hj;have hj':j<l.length:=by simpa using hj
    refine⟨?_,Lib.frozen_of_heap hbk _⟩;rw[Lib.cell_of_heap hbk,aGk];have h2:(cur.toList.take l.length)[j]? =(l.map Go.Proofs.encStr)[j]? :=by rw[htk]
    rw[aGQ hj',aGX] at h2;rw[h2];simp [hj']
   refine(Any.slices_Sort_string Tryz.lays190 b 0 cap l w hH hbl hn).mono ?_;rintro en w' ⟨rfl,m,os,rfl⟩;have hsz:(tX l).length<=cur.size:=by rw[hlen,hcs];exact hnc
   have hnew:(Go.Sort.grow (Go.Sort.putRow Go.Proofs.encStr (Go.Sort.ahead w m) b 0 (tX l).toArray) os).heap[b]? =some (.cells (Go.Sort.putCells Go.Proofs.encStr 0 (tX l).toArray cur) e (0,0)):=by
    rw[Go.Sort.heap_grow_old _ _ (by simpa using hbl)];simp [Go.Sort.putRow,Go.Sort.mapBlock,aGY,hbk,Go.Sort.onCells]
   refine⟨rfl,hlen,(tX l).map Go.Proofs.encStr,⟨by simp [hlen,hc1],.inr ⟨b,cap,_,rfl,hb0,hnew,hnc,hcm,?_,?_⟩⟩,lp _,⟨rfl,rfl,rfl,by simp,fun k hk hne=>?_⟩⟩
   .rw[hc1,aHy];simpa[Go.Sort.putCells] using hcs
   .rw[hc1,aHy,<-hlen];exact Rq _ _ hsz
   .rw[Go.Sort.heap_grow_old _ _ (by simpa using hk)];have hkb:b≠k:=fun h=>hne (by rw[h];rfl);simp [Go.Sort.putRow,Go.Sort.mapBlock,aGY,hkb]
 |_=>cases hf
def GO (s c:pP):Int:=Lib.index s c
@[go_sem] def Y9:List qQ->List qP->Option r5
 |[(.val .ref (some (0,0)),none)],[.cells (.pair .mref (.pair (.list (.int .u8)) .unit)) ((some (0,0)),O) [(1,1)],.grow Z 1 aA]=>some ⟨[aA=List.length O.1],[],[.cells (.pair .mref (.pair (.list (.int .u8)) .unit)) ((some (0,0)),O) [(1,1)],.grow Z 1 aA]⟩
 |_,_=>none
def Rs {g:Gh}{w:qD}{L:List qP}{e:r6}{w':qD}{u v:qE}{r:r5}(hE:rU g w (rC 0 L) e g w' u)
  (hH: ∀i,qS (rC 0 r.H) i=qS (rD e.upd (rC 0 L)) i) (hin: ∀i,i∈qU e.upd->i<L.length) (hlen:r.H.length=L.length)
  (hp: ∀i blk b o,r.H[i]? =some blk->sL g i blk b o->w.heap.size<=b\/zF g (rC 0 L) b o)
  (hty: ∀(i:Nat) t x ts u y us,L[i]? =some (.cells t x ts)->r.H[i]? =some (.cells u y us)->u=t)
  (hret:S8 g w' r.ret v):GK g w L r g w' v:=
 ⟨fun b o h=>⟨h,hE.le.cell b o h⟩,hE.heap.ext hH,hret,hE.fr.mono fun b o ⟨i,blk,_,h1,h2⟩=>⟨i,blk,h1,h2⟩,hp,fun _ _ _ _ _=>rfl,hty,fun _ _ _ h=>h,fun _ _ _ _ h=>h⟩
def a6V {P:Program}{ρ:Go.Shelf.Ren}(L:Lays.n240 P ρ) (X:Builder.X72 P ρ) {e:TypeId}(b:Nat) (w:qD) (h0:w.cell? ⟨b,0,none⟩=some (.pointer none)) (hsh:w.shape? b=some (e,2)) (hl:liesAt P P.depth e (2/P.cellsOf e) 0 (ρ.t 72) 1=true) (hfz:w.frozen? ⟨b,0,none⟩=false):
  Calls P (ρ.f 240) #[.pointer (some ⟨b,0,none⟩)] w fun en w'=>en= .returned (.tuple #[])/\w'=w.setCell ⟨b,0,none⟩ (.pointer (some ⟨b,0,none⟩)):=by
 obtain⟨j,hj,hjs⟩:=aF6.1 X.sizeBuilder;have mixed:=L.mixed;have t72:=L.t72;have a72:=L.a72;have z72:=L.z72;have v72:=L.v72;have u72:=aGe L.t72;have t70:=L.t70;have a70:=L.a70;have z70:=L.z70;have v70:=L.v70;have u70:=aGe L.t70;have t9:=L.t9;have a9:=L.a9;have z9:=L.z9;have v9:=L.v9;have u9:=aGe L.t9;have t4:=L.t4;have a4:=L.a4;have z4:=L.z4;have v4:=L.v4;have u4:=aGe L.t4;have t164:=L.t164;have a164:=L.a164;have z164:=L.z164;have v164:=L.v164;have u164:=aGe L.t164
 go_enter L.f240,Body.n240_ntmps ρ
 go_wp2
 rw[Lib.run_to_unsafe w ⟨b,0,none⟩ L.t70 L.t164 hj (by rw[hjs];decide) hsh (Nat.zero_lt_succ 1)];simp only[Result.andThen];rw[Oper.upon_value]
 go_wp2
 rw[run_callFunc_extern L.f276 qH qH qH (e:=Extern.AbiNoEscape.same) qH];rw[Lib.run_noEscape];simp only[Result.andThen];rw[Oper.upon_value]
 go_wp2
 rw[Lib.run_from_unsafe w ⟨b,0,none⟩ L.t164 L.t70 hj hsh hl];simp only[Result.andThen];rw[Oper.upon_value]
 go_wp2
 go_end0
 exact⟨rfl,rfl⟩
def Rt:xJ prog 78 Y9:=by
 refine⟨fun _ _=>rfl,fun g w args vals L r hH ha hC hs=>?_⟩;unfold Y9 at hC;split at hC
 .rename_i O Z aA;cases hC;obtain⟨va,_,rfl,ra,hv⟩:=ha;cases hv;have hg0:qS (rC 0 [qP.cells (.pair .mref (.pair (.list (.int .u8)) .unit)) ((some (0,0)),O) [(1,1)],.grow Z 1 aA]) 0=some (.cells (.pair .mref (.pair (.list (.int .u8)) .unit)) ((some (0,0)),O) [(1,1)]):=rfl;obtain⟨p,cs,hJ,hR,hra,hth,hns,htk⟩:=hH.blk 0 _ hg0;obtain⟨c1,c2,rfl,hR1,hR2⟩:=hR;obtain⟨p',hJ',⟨hp0,eb,heb,hk3⟩,hc1⟩:=hR1;rw[hJ] at hJ';obtain rfl:=aFU hJ';obtain⟨b,o,k⟩:=p;have ho:o=0:=by simpa using hp0
  subst ho;have hlies:liesAt prog Tryz.prog.depth eb (2/Tryz.prog.cellsOf eb) 0 82 1=true:=by
   unfold dl at heb;split at heb
   .rename_i h;subst h;kernel_rfl
   split at heb
   .rename_i h;subst h;kernel_rfl
   cases heb
  have hva:va= .pointer (some ⟨b,0,none⟩):=by
   obtain⟨q,hq,e⟩:=y6 ra.1;rw[hJ] at hq;cases hq;exact e
  subst hva;have hsh:w.shape? b=some (eb,2):=hth.2 pU _ hk3;rcases hc1 with rfl|rfl
  .have h0:w.cell? ⟨b,0,none⟩=some (.pointer none)/\w.frozen? ⟨b,0,none⟩=false:=⟨hra 0 _ rfl,(hth.1 0 pU).2⟩;refine(a6V Tryz.lays240 Tryz.builderX72 b w h0.1 hsh hlies h0.2).mono ?_;rintro en w' ⟨rfl,rfl⟩;refine⟨_,g,rfl,?_⟩;have hE:=rU.store (side:=[]) (rds:=[]) hH (i:=0) (t:= .mref) (y:=some (0,0)) (off:=0) (k:=none) (p:=⟨b,0,k⟩) (cy:=[.pointer (some ⟨b,0,none⟩)]) (v:= .pointer (some ⟨b,0,none⟩)) hg0 hJ (z:=((some (0,0)),O)) qI ⟨_,hJ,⟨rfl,_,heb,hk3⟩,.inr rfl⟩ trivial (fun _ _ h=>by cases h) (fun _=>rfl);refine Rs hE.1 ?_ ?_ rfl ?_ ?_ ?_
   .intro i
    match i with
    |0=>rfl
    |1=>rfl
    |i+2=>rfl
   .intro i hi;simp [qU] at hi;subst hi;exact Nat.zero_lt_succ _
   .intro i blk b o hi ho;exact .inr ⟨i,blk,by rw[XD];simpa using hi,ho⟩
   .intro i t x ts u y us h1 h2;rw[h1] at h2;cases h2;rfl
   exact⟨[],rfl,rfl⟩
  have h0:w.cell? ⟨b,0,none⟩=some (.pointer (some ⟨b,0,none⟩)):=hra 0 _ rfl;refine(Any.Builder_copyCheck_used Tryz.lays240 Tryz.builderX72 b w h0).mono ?_;rintro en w' ⟨rfl,rfl⟩;refine⟨_,g,rfl,⟨fun b o h=>⟨h,rfl⟩,hH,⟨[],rfl,rfl⟩,Fr.refl _ _ _,?_,fun _ _ _ _ _=>rfl,?_,fun _ _ _ h=>h,fun _ _ _ _ h=>h⟩⟩
  .intro i blk b o hi ho;exact .inr ⟨i,blk,by rw[XD];simpa using hi,ho⟩
  intro i t x ts u y us h1 h2;rw[h1] at h2;cases h2;rfl
 cases hC
def Ru {P:Program}(w:qD): ∀(l:pZ) (a:Addr) (acc:ByteArray),(∀j x,l[j]? =some x->w.cell? (a.add j)=some (.int .u8 x))->
  (loadBytes a acc l.length).run P w= .ok ⟨acc.data++(tO l).toArray⟩ w
 |[],a,acc,_=>by simp [loadBytes,tO]
 |x::l,a,acc,h=>by
  have h0:w.cell? a=some (.int .u8 x):=by
   have:=h 0 x rfl;simpa[Addr.add] using this
  have ih:=Ru (P:=P) w l (a.add 1) (acc.push (UInt8.ofNat x.toNat)) (fun j y hy=>by
   have:=h (j+1) y (by simpa using hy);have e:(a.add 1).add j=a.add (j+1):=by
    unfold Addr.add;by_cases hj:j=0
    .subst hj;simp
    simp [hj];omega
   rw[e];exact this)
  have hx:x.toNat.toUInt8=UInt8.ofNat x.toNat:=rfl;simp only[aFV,loadBytes,aF4,run_load,h0,Result.andThen,hx];rw[ih];congr 1;apply ByteArray.ext;simp [ByteArray.push,tO]
def a6W {P:Program}(w:qD) (pt it ty e:TypeId) (hp:P.underlying pt=some (.pointer e)) (hc:P.cellsOf e=1) (g cells:Nat) (hsh:w.shape? g=some (e,cells)) (l:pZ) (h0:l≠[]) (hn:l.length<=cells) (h63:l.length<=9223372036854775807)
  (hcell: ∀j x,l[j]? =some x->w.cell? ((⟨g,0,none⟩:Addr).add j)=some (.int .u8 x)):
  (Builtin.unsafeString_ #[pt,it] ty #[.pointer (some ⟨g,0,none⟩),.int .i64 l.length]).run P w= .ok (.string ⟨(tO l).toArray⟩) (w.freeze ⟨g,0,none⟩ l.length):=by
 have hl:l.length≠0:=by simpa using h0
 have hlb:=Ru (P:=P) w l ⟨g,0,none⟩ .empty hcell;have hlies:=Lib.liesAt_bytes (P:=P) hc (cells/P.cellsOf e) l.length (by rw[hc];simpa using hn);have h63': ¬(9223372036854775807:Int)<(l.length:Int):=by omega
 have hdef:Builtin.unsafeString_ #[pt,it] ty #[.pointer (some ⟨g,0,none⟩),.int .i64 l.length]=
   (do
    let n<-asInt (.int .i64 l.length)
    if n<0 then runtimePanic (.error "unsafe.String: len out of range")
    if n>IntKind.i64.max then unsupported (.unsafePointer "String: a length above the largest int")
    if n=0 then pure (.string .empty)
    else if<-variablesAt ⟨g,0,none⟩ (<-elemOf pt) n.toNat then do
     let s<-loadBytes ⟨g,0,none⟩ .empty n.toNat
     freeze ⟨g,0,none⟩ n.toNat
     pure (.string s)
    else unsupported (.unsafePointer "String: not so many bytes at ptr")):=rfl
 rw[hdef];have hmax:IntKind.i64.max=9223372036854775807:=rfl;have hneg: ¬(l.length:Int)<0:=by omega
 simp [asInt,asIntOf,hmax,h63',hneg,hl,variablesAt,hsh,elemOf,aGe hp,hlies,hlb]
def lq {P:Program}{ρ:Go.Shelf.Ren}(L:Lays.n169 P ρ) (X:Builder.Extra P ρ) (b n cap:Nat) (a q:Option Addr) (s:ByteArray) (w w2:qD)
  (c1:w.drew.cell? ⟨b,1,none⟩=some (.slice a n cap)) (hSD:(Builtin.unsafeSliceData_ #[(ρ.t 37)] (ρ.t 127) #[.slice a n cap]).run P w.drew= .ok (.pointer q) w.drew)
  (hUS:(Builtin.unsafeString_ #[(ρ.t 127),(ρ.t 3)] (ρ.t 9) #[.pointer q,.int .i64 n]).run P w.drew= .ok (.string s) w2):
  Calls P (ρ.f 169) #[.pointer (some ⟨b,0,none⟩)] w fun e w'=>e= .returned (.string s)/\w'=w2:=by
 have mixed:=L.mixed;have t72:=L.t72;have a72:=L.a72;have z72:=L.z72;have v72:=L.v72;have u72:=aGe L.t72;have t70:=L.t70;have a70:=L.a70;have z70:=L.z70;have v70:=L.v70;have u70:=aGe L.t70;have t37:=L.t37;have a37:=L.a37;have z37:=L.z37;have v37:=L.v37;have u37:=aGe L.t37;have t127:=L.t127;have a127:=L.a127;have z127:=L.z127;have v127:=L.v127;have u127:=aGe L.t127;have t3:=L.t3;have a3:=L.a3;have z3:=L.z3;have v3:=L.v3;have u3:=aGe L.t3;have t9:=L.t9;have a9:=L.a9;have z9:=L.z9;have v9:=L.v9;have u9:=aGe L.t9;have t5:=X.t5;have a5:=X.a5;have z5:=X.z5;have v5:=X.v5;have u5:=aGe X.t5
 go_enter L.f169,Body.n169_ntmps ρ
 go_wp2
 go_region_o
 all_goals (go_wp2;go_ret;exact⟨rfl,rfl⟩)
def a6X {P:Program}{ρ:Go.Shelf.Ren}(L:Lays.n169 P ρ) (X:Builder.Extra P ρ) (b g:Nat) (cur:Array qE) (w:qD) (hlt:b<w.heap.size)
  (c1:w.drew.cell? ⟨b,1,none⟩=some (.slice (some ⟨g,0,none⟩) 0 0)) (hg:w.drew.heap[g]? =some (.cells cur (ρ.t 5) (0,0))):
  Calls P (ρ.f 169) #[.pointer (some ⟨b,0,none⟩)] w fun e w'=>e= .returned (.string ⟨#[]⟩)/\w'=w.drew.alloc (.view ⟨g,0,none⟩ (ρ.t 5)):=by
 have hUS:=Any.unsafeString_none L X;have hSD:(Builtin.unsafeSliceData_ #[(ρ.t 37)] (ρ.t 127) #[.slice (some ⟨g,0,none⟩) 0 0]).run P w.drew= .ok (.pointer (some ⟨w.drew.heap.size,0,none⟩)) (w.drew.alloc (.view ⟨g,0,none⟩ (ρ.t 5))):=
  Lib.run_unsafeSliceData_zero w.drew _ _ (ρ.t 5) L.t127 ⟨g,0,none⟩ 0 ((ρ.t 5),cur.size) (by simp [World.shape?,hg])
 have c2:(w.drew.alloc (.view ⟨g,0,none⟩ (ρ.t 5))).cell? ⟨b,1,none⟩=some (.slice (some ⟨g,0,none⟩) 0 0):=
  (aGf (a:=⟨b,1,none⟩) (Lib.alloc_old w.drew _ b hlt)).trans c1
 have c3:(w.alloc (.view ⟨g,0,none⟩ (ρ.t 5))).drew.cell? ⟨b,1,none⟩=some (.slice (some ⟨g,0,none⟩) 0 0):=c2;have c0:w.cell? ⟨b,1,none⟩=some (.slice (some ⟨g,0,none⟩) 0 0):=c1;have mixed:=L.mixed;have t72:=L.t72;have a72:=L.a72;have z72:=L.z72;have v72:=L.v72;have u72:=aGe L.t72;have t70:=L.t70;have a70:=L.a70;have z70:=L.z70;have v70:=L.v70;have u70:=aGe L.t70;have t37:=L.t37;have a37:=L.a37;have z37:=L.z37;have v37:=L.v37;have u37:=aGe L.t37;have t127:=L.t127;have a127:=L.a127;have z127:=L.z127;have v127:=L.v127;have u127:=aGe L.t127;have t3:=L.t3;have a3:=L.a3;have z3:=L.z3;have v3:=L.v3;have u3:=aGe L.t3;have t9:=L.t9;have a9:=L.a9;have z9:=L.z9;have v9:=L.v9;have u9:=aGe L.t9;have t5:=X.t5;have a5:=X.a5;have z5:=X.z5;have v5:=X.v5;have u5:=aGe X.t5
 go_enter L.f169,Body.n169_ntmps ρ
 go_wp2
 go_region_o
 all_goals (go_wp2;go_ret;exact⟨rfl,rfl⟩)
@[go_sem] def YA:List qQ->List qP->Option r5
 |[(.val .ref (some (0,0)),none)],[.cells (.pair .mref (.pair (.list (.int .u8)) .unit)) ((some (0,0)),O) [(1,1)],.grow 5 1 Z]=>some ⟨[Z=List.length O.1],[(.val .str (tO O.1),none)],[.cells (.pair .mref (.pair (.list (.int .u8)) .unit)) ((some (0,0)),O) [],.dead]⟩
 |_,_=>none
def lr {g:Gh}{w w':qD}{m:q9}{b:(Ty.pair (.list (.int .u8)) .unit).den}{e n:Nat}{s:pP}{sd:List Prop}(hH:sO g w (rC 0 [qP.cells (.pair .mref (.pair (.list (.int .u8)) .unit)) (m,b) [(1,1)],.grow e 1 n]))
  (hos:w'.os=w.os) (htape:w'.tape=w.tape) (hout:w'.output=w.output) (hsz:w.heap.size<=w'.heap.size)
  (hcell: ∀b o,b<w.heap.size->w'.cell? ⟨b,o,none⟩=w.cell? ⟨b,o,none⟩) (hshape: ∀b s,w.shape? b=some s->w'.shape? b=some s)
  (hblk: ∀b,b<w.heap.size->(∀o,¬sL g 1 (.grow e 1 n) b o)->w'.heap[b]? =w.heap[b]?):
  GK g w [qP.cells (.pair .mref (.pair (.list (.int .u8)) .unit)) (m,b) [(1,1)],.grow e 1 n] ⟨sd,[(.val .str s,none)],[.cells (.pair .mref (.pair (.list (.int .u8)) .unit)) (m,b) [],.dead]⟩ g w' (.string ⟨s.toArray⟩):=by
 have hg0:qS (rC 0 [qP.cells (.pair .mref (.pair (.list (.int .u8)) .unit)) (m,b) [(1,1)],.grow e 1 n]) 0=some (.cells (.pair .mref (.pair (.list (.int .u8)) .unit)) (m,b) [(1,1)]):=rfl;have hg1:qS (rC 0 [qP.cells (.pair .mref (.pair (.list (.int .u8)) .unit)) (m,b) [(1,1)],.grow e 1 n]) 1=some (.grow e 1 n):=rfl;have hle:Le g w g w':=⟨fun _ _ h=>h,fun b o h=>hcell b o (hH.sl b o h),fun _ _ h=>h,fun _ _ _ h=>h⟩;have hno: ∀c o,sL g 0 (.cells (.pair .mref (.pair (.list (.int .u8)) .unit)) (m,b) [(1,1)]) c o->∀o',¬sL g 1 (.grow e 1 n) c o':=fun c o h o' h'=>by
  obtain⟨v,hv,hb⟩:=h';exact hH.dis 0 1 _ _ c o pU hg0 hg1 h ⟨v,hv,hb⟩
 obtain⟨p,cs,hJ,hR,hra,hth,hns,htk⟩:=hH.blk 0 _ hg0;have hown0: ∀j,j<2->sL g 0 (.cells (.pair .mref (.pair (.list (.int .u8)) .unit)) (m,b) [(1,1)]) p.1 (p.2+j):=fun j hj=>⟨p,hJ,rfl,Nat.le_add_right _ _,Nat.add_lt_add_left hj _⟩;have hpl:p.1<w.heap.size:=MP (hH.blk 0 _ hg0) (hown0 0 pU);have hpb:w'.heap[p.1]? =w.heap[p.1]? :=hblk p.1 hpl (hno p.1 _ (hown0 0 pU));have hbk0:AX g w' 0 (.cells (.pair .mref (.pair (.list (.int .u8)) .unit)) (m,b) []):=
  ⟨p,cs,hJ,wW hle hR,fun j v hj=>(hcell _ _ hpl).trans (hra j v hj),⟨fun j hj=>by
   have h1:=hth.1 j hj;rw[hcell _ _ hpl];exact⟨h1.1,(aGF (a:=⟨p.1,p.2+j,none⟩) hpb).trans h1.2⟩,fun h s hs=>hshape _ _ (hth.2 h s hs)⟩,hns,fun _ _ h=>by cases h⟩
 refine⟨fun b o h=>⟨h,hcell b o (hH.sl b o h)⟩,?_,(show rX g w' (.val .str s,none) (.string ⟨s.toArray⟩) from⟨DC _ _ _,trivial⟩),⟨hos,htape,hout,hsz,?_,?_,fun _ _ h=> .inl h,fun b s h=> .inl (hshape b s h)⟩,?_,fun _ _ _ _ _=>rfl,?_,fun _ _ _ h=>h,fun _ _ _ _ h=>h⟩
 .refine⟨fun i blk h=>?_,fun i j bi bj c o hij hi hj hoi hoj=>?_,fun b o h=>aGq (hH.sl b o h) hsz,JN hH.tab.1 hsz (fun c hc=>hblk c (aGq hc hH.tab.1.1) fun o ho=>absurd (hH.tab.2 1 _ c o hg1 ho) pT),fun i blk c o h ho=>?_⟩
  .match i,h with
   |0,h=>cases h;exact hbk0
   |1,h=>cases h;trivial
   |i+2,h=>simp [rC,qS] at h
  .match i,j,hi,hj with
   |0,0,_,_=>exact hij rfl
   |0,1,_,hj=>cases hj;exact hoj
   |1,_,hi,_=>cases hi;exact hoi
   |0,j+2,_,hj=>simp [rC,qS] at hj
   |i+2,_,hi,_=>simp [rC,qS] at hi
  match i,h with
  |0,h=>cases h;exact hH.tab.2 0 _ c o hg0 ho
  |1,h=>cases h;exact ho.elim
  |i+2,h=>simp [rC,qS] at h
 .intro c hc hn;exact hblk c hc fun o ho=>hn o ⟨1,_,hg1,ho⟩
 .intro c o hc hn;exact⟨hcell c o hc,aGF (a:=⟨c,o,none⟩) (hblk c hc fun o' ho=>hn ⟨1,_,hg1,by obtain⟨v,hv,hb⟩:=ho;exact⟨v,hv,hb⟩⟩)⟩
 .intro i blk c o hi ho
  match i,hi with
  |0,hi=>cases hi;exact .inr ⟨0,_,hg0,ho⟩
  |1,hi=>cases hi;exact ho.elim
  |i+2,hi=>simp at hi
 intro i t x ts u y us h1 h2
 match i,h1,h2 with
 |0,h1,h2=>cases h1;cases h2;rfl
 |1,h1,_=>cases h1
 |i+2,h1,_=>simp at h1
def a6Y (w:qD) (a p:Addr) (n:Nat):(w.freeze a n).cell? p=w.cell? p:=by
 unfold World.freeze;split
 .rfl
 simp only[World.cell?,aGY];by_cases h:a.block=p.block
 .rw[aFP h];cases w.heap[p.block]? with
  |none=>rfl
  |some o=>cases o<;>rfl
 rw[aFQ h]
def a6Z (w:qD) (a:Addr) (n b:Nat):(w.freeze a n).shape? b=w.shape? b:=by
 unfold World.freeze;split
 .rfl
 simp only[World.shape?,aGY];by_cases h:a.block=b
 .rw[aFP h];cases w.heap[b]? with
  |none=>rfl
  |some o=>cases o<;>rfl
 rw[aFQ h]
def a60 (w:qD) (a:Addr) (n b:Nat) (h:b≠a.block):(w.freeze a n).heap[b]? =w.heap[b]? :=by
 unfold World.freeze;split
 .rfl
 simp only[aGY];rw[aFQ (Ne.symm h)]
def a61 (w:qD) (a:Addr) (n:Nat):(w.freeze a n).os=w.os/\(w.freeze a n).tape=w.tape/\(w.freeze a n).output=w.output/\(w.freeze a n).heap.size=w.heap.size:=by
 unfold World.freeze;split
 .exact⟨rfl,rfl,rfl,rfl⟩
 exact⟨rfl,rfl,rfl,by simp⟩
def Rv {g:Gh}{w:qD}{b:Nat}: ∀{l:pZ}{o:Nat},zD (Rd g w (.int .u8)) w g.S 1 b o l->∀j x,l[j]? =some x->w.cell? ⟨b,o+j,none⟩=some (.int .u8 x)
 |[],_,_,_,_,h=>by cases h
 |y::l,o,⟨⟨cs,_,hra,_,hR⟩,hl⟩,j,x,h=>by
  match j,h with
  |0,h=>
   cases h;have hR:cs=[.int .u8 y]:=hR;subst hR;exact hra 0 _ rfl
  |j+1,h=>
   have:=Rv hl j x (by simpa using h);rw[show o+(j+1)=o+1+j by omega];exact this
def a62 {u:Ty}{m:q9}{bv:(Ty.pair (.list (.int .u8)) .unit).den}{l:List u.den}(hget:rH (.list u) (.pair .mref (.pair (.list (.int .u8)) .unit)) (m,bv) 1=some l):l.length=bv.1.length:=by
 have h2:rH (.list u) (.list (.int .u8)) bv.1 0=some l:=hget;simp only[rH] at h2;split at h2
 .rename_i h;injection h with h
  subst h;cases h2;rfl
 cases h2
def Rw:xJ prog 53 YA:=by
 refine⟨fun _ _=>rfl,fun g w args vals L r hH ha hC hs=>?_⟩;unfold YA at hC;split at hC
 .rename_i bv n;cases hC;obtain rfl:n=List.length bv.1:=hs _ pV;obtain⟨va,_,rfl,ra,hv⟩:=ha;cases hv;have hg0:qS (rC 0 [qP.cells (.pair .mref (.pair (.list (.int .u8)) .unit)) ((some (0,0)),bv) [(1,1)],.grow 5 1 (List.length bv.1)]) 0=some (.cells (.pair .mref (.pair (.list (.int .u8)) .unit)) ((some (0,0)),bv) [(1,1)]):=rfl;have hg1:qS (rC 0 [qP.cells (.pair .mref (.pair (.list (.int .u8)) .unit)) ((some (0,0)),bv) [(1,1)],.grow 5 1 (List.length bv.1)]) 1=some (.grow 5 1 (List.length bv.1)):=rfl;obtain⟨p,cs,hJ,hR,hra,hth,hns,htk⟩:=hH.blk 0 _ hg0;obtain⟨v',xs,hv',hown,hmax,hsl⟩:=hH.blk 1 _ hg1;obtain⟨c1,c2,rfl,hR1,hR2⟩:=hR;obtain⟨d1,d2,rfl,⟨a,cap,rfl,hcap,hl⟩,hd2⟩:=hR2;obtain⟨p',hJ',⟨hp0,_,_,_⟩,hc1⟩:=hR1;rw[hJ] at hJ';obtain rfl:=aFU hJ';obtain⟨b,o,k⟩:=p;have ho:o=0:=by simpa using hp0
  subst ho;have hlen1:c1.length=1:=by rcases hc1 with rfl|rfl<;>rfl
  obtain⟨q,hq,hva⟩:=y6 ra.1;rw[hJ] at hq;cases hq;subst hva;have hcell1:w.cell? ⟨b,1,none⟩=some (.slice a bv.1.length cap):=hra 1 _ (by rw[aFZ pT,hlen1];rfl);obtain⟨u,l,v,hget,hcv,hcur⟩:=htk 1 1 pV;have hvv:v= .slice a bv.1.length cap:=by
   rw[aFZ pT,hlen1] at hcv;exact(aFU hcv).symm
  have hll:l.length=bv.1.length:=a62 hget;rw[hll,hv',hvv] at hcur;obtain rfl:=aFU hcur;have hbl:b<w.heap.size:=S1 hcell1;have hdr: ∀(s:pP) (sd:List Prop),GK g w _ ⟨sd,[(.val .str s,none)],[.cells (.pair .mref (.pair (.list (.int .u8)) .unit)) ((some (0,0)),bv) [],.dead]⟩ g w.drew (.string ⟨s.toArray⟩):=fun s sd=>
   lr hH rfl rfl rfl (aGc _) (fun _ _ _=>rfl) (fun _ _ h=>h) (fun _ _ _=>rfl)
  obtain⟨hx,⟨hnil,h0⟩ |⟨gb,cap',cur,hsl',hb0,hbk,hnc,hcm,hcs,htake⟩⟩:=hown
  .have hb0:bv.1=[]:=aGJ.1 h0;have hz:tO bv.1=[]:=by rw[hb0];rfl
   have hl0:List.length bv.1=0:=h0;injection hnil with e1 e2 e3
   subst e1;subst e3;refine(lq Tryz.lays169 Tryz.builderExtra b bv.1.length 0 none none .empty w w.drew hcell1 rfl (by rw[hl0];exact Any.unsafeString_none Tryz.lays169 Tryz.builderExtra w.drew none)).mono ?_;rintro e w' ⟨rfl,rfl⟩;exact⟨_,g,rfl,by rw[hz];exact hdr [] _⟩
  injection hsl' with e1 e2 e3
  subst e1;subst e3;have hsz:bv.1.length<=cur.size:=by omega
  by_cases hb0:bv.1=[]
  .have hz:tO bv.1=[]:=by rw[hb0];rfl
   have hl0:List.length bv.1=0:=by rw[hb0];rfl
   by_cases hc0:cap=0
   .subst hc0;rw[hl0] at hcell1;refine(a6X Tryz.lays169 Tryz.builderExtra b gb cur w hbl hcell1 hbk).mono ?_;rintro e w' ⟨rfl,rfl⟩;have hold: ∀c,c<w.heap.size->(w.drew.alloc (.view ⟨gb,0,none⟩ 5)).heap[c]? =w.heap[c]? :=fun c hc=>Lib.alloc_old w.drew _ c hc;refine⟨_,g,rfl,?_⟩;rw[hz];exact lr hH rfl rfl rfl pV (fun c o hc=>aGf (a:=⟨c,o,none⟩) (hold c hc)) (fun c s h=>(CQ (hold c (CP h))).trans h) (fun c hc _=>hold c hc)
   refine(lq Tryz.lays169 Tryz.builderExtra b bv.1.length cap (some ⟨gb,0,none⟩) (some ⟨gb,0,none⟩) .empty w w.drew hcell1 (Lib.run_unsafeSliceData_row _ _ _ _ _ _ hc0) (by rw[hl0];exact Any.unsafeString_none Tryz.lays169 Tryz.builderExtra w.drew _)).mono ?_;rintro e w' ⟨rfl,rfl⟩;exact⟨_,g,rfl,by rw[hz];exact hdr [] _⟩
  have hcap0:cap≠0:=fun h=>hb0 (aGJ.1 pT);have hcb: ∀j x,bv.1[j]? =some x->w.cell? ⟨gb,j,none⟩=some (.int .u8 x):=by
   rcases hl with hl|⟨b',o',ha',hl⟩
   .exact absurd hl hb0
   cases ha';intro j x hj;have:=Rv hl j x hj;rwa [aGk] at this
  have hbk':w.drew.heap[gb]? =some (.cells cur 5 (0,0)):=hbk;have hshp:w.drew.shape? gb=some (5,cur.size):=by simp only[World.shape?,hbk']
  refine(lq Tryz.lays169 Tryz.builderExtra b bv.1.length cap (some ⟨gb,0,none⟩) (some ⟨gb,0,none⟩) ⟨(tO bv.1).toArray⟩ w (w.drew.freeze ⟨gb,0,none⟩ bv.1.length) hcell1 (Lib.run_unsafeSliceData_row _ _ _ _ _ _ hcap0)
   (a6W w.drew _ _ _ 5 (Tryz.lays169).t127 (Tryz.builderExtra).cellsByte gb cur.size hshp bv.1 hb0 hsz (by unfold maxLen at hcm;omega) (fun j x h=>by rw[aG8,aGk];exact hcb j x h))).mono ?_
  rintro e w' ⟨rfl,rfl⟩;refine⟨_,g,rfl,?_⟩;have hblk: ∀c,(∀o,¬sL g 1 (.grow 5 1 (List.length bv.1)) c o)->(w.drew.freeze ⟨gb,0,none⟩ bv.1.length).heap[c]? =w.heap[c]? :=fun c hc=>a60 w.drew _ _ c fun e=>hc 0 ⟨_,hv',by rw[e];rfl⟩;have hr:=a61 w.drew ⟨gb,0,none⟩ bv.1.length;refine lr hH hr.1 hr.2.1 hr.2.2.1 (aHn hr.2.2.2.symm) (fun c o _=>a6Y w.drew _ _ _) (fun c s h=>(a6Z w.drew _ _ c).trans h) (fun c _ hc=>hblk c hc)
 cases hC
end Go.Proofs.YtcpbaddnmpeipaaGreatDoor
namespace Go.Proofs.YtcpbaddnmpeipaaGreatDoor.Vc
open Go.RowKit
@[go_sem] def lu (np:Nat):DV->Bool
 | .any=>true
 | .nilS=>true
 | .val .ref (some (i,_))=>decide (i<np)
 | .val .ref none=>true
 | .val t _=>t.pure
 |_=>false
@[go_sem] def YB (np:Nat):qQ->Bool
 |(d,none)=>lu np d
 |(.val (.list t) _,some k)=>t.pure&&decide (k<np)
 |_=>false
@[go_sem] def KD (np:Nat):List (Nat×qQ)->Bool
 |[]=>true
 |(_,s)::r=>YB np s&&KD np r
theorem Rx {np:Nat}: ∀{env:List (Nat×qQ)},KD np env=true->∀t,YB np (lk env t)=true
 |[],_,t=>rfl
 |(k,s)::r,h,t=>by
  simp only[KD,aF0] at h;unfold lk;split
  .exact h.1
  exact Rx h.2 t
theorem a63 {np:Nat}{g g':Gh}{w:qD}(K:g'.S=g.S) (O: ∀i,i<np->g'.J i=g.J i) (R: ∀i n,i<np->g'.cur i n=g.cur i n) {s:qQ}{v:qE}(hp:YB np s=true) (h:rX g w s v):rX g' w s v:=by
 have I: ∀{t:Ty}{x:t.den},t.pure=true->tJ g w t x v->tJ g' w t x v:=fun G M=>by
  rcases M with⟨j,cs,z,h3⟩ |⟨j,z⟩
  .exact .inl ⟨j,cs,z,wG K G h3⟩
  exact .inr ⟨j,wG K G z⟩
 have Q: ∀d,lu np d=true->zM g w d v->zM g' w d v:=by
  intro d D hr;unfold lu at D;split at D
  .trivial
  .exact hr
  .rename_i i o;have hi:=aGt D;rcases hr with⟨j,_⟩ |⟨j,z⟩
   .cases j
   refine .inr ⟨j,?_⟩;obtain⟨p,F,E⟩:=z;exact⟨p,(O i hi).trans F,E⟩
  .rcases hr with⟨j,_⟩ |⟨j,z⟩
   .cases j
   exact .inr ⟨j,z⟩
  .exact I D hr
  cases D
 obtain⟨d,k⟩:=s;cases k with
 |none=>exact⟨Q d hp h.1,trivial⟩
 |some k=>
  unfold YB at hp;split at hp
  .rename_i heq;cases heq
  .rename_i t x k' heq;cases heq;simp only[aF0,aFY] at hp;exact⟨I (t:= .list t) hp.1 h.1,(R k _ hp.2).trans h.2⟩
  cases hp
theorem a64 {np:Nat}{g g':Gh}{w w':qD}{env:List (Nat×qQ)}{tmps:Array qE}(h:BN g w env tmps) (hp:KD np env=true) (D: ∀b o,g.S b o->g'.S b o) (z: ∀b o,g.S b o->w'.cell? ⟨b,o,none⟩=w.cell? ⟨b,o,none⟩)
  (E: ∀i p,i<np->g.J i=some p->g'.J i=some p) (F: ∀i n v,i<np->g.cur i n=some v->g'.cur i n=some v):BN g' w' env tmps:=fun t=>by
 have le:Le g w ⟨g'.S,fun i=>if i<np then g'.J i else g.J i,fun i n=>if i<np then g'.cur i n else g.cur i n⟩ w':=by
  refine⟨D,z,fun i p hi=>?_,fun i n v hi=>?_⟩
  .show (if i<np then _ else _)=_;split
   .rename_i j;exact E i p j hi
   exact hi
  show (if i<np then _ else _)=_;split
  .rename_i j;exact F i n v j hi
  exact hi
 exact a63 (np:=np) (g:=⟨g'.S,fun i=>if i<np then g'.J i else g.J i,fun i n=>if i<np then g'.cur i n else g.cur i n⟩) (g':=g') rfl (fun i hi=>(aFP hi).symm) (fun i n hi=>by show g'.cur i n=(if i<np then g'.cur i n else g.cur i n);rw[aFP hi]) (Rx hp t) (EC le (h t))
theorem tR.inner {A A':Nat->Nat->Prop}{L L':List qP}{g0 g g':Gh}{w0 w w':qD}{H H':sJ}(h:tR A L g0 w0 g w H) (k:tR A' L' g w g' w' H') (I: ∀b o,A' b o->w.heap.size<=b\/zF g H b o) (hl:L.length<=L'.length)
  (G: ∀i,i<L.length->∀b,L'[i]? =some b->qS H i=some b):tR A L g0 w0 g' w' H':=by
 have own: ∀b o,A' b o->w0.heap.size<=b\/A b o:=fun b o x=>by
  rcases I b o x with j|⟨i,blk,j,z⟩
  .exact .inl (aGL h.fr.size j)
  exact h.perm i blk b o j z
 refine⟨fun b o x=>?_,h.fr.trans k.fr own,fun i blk b o j z=>?_,fun i p hi hp=>k.J i p pT (h.J i p hi hp),fun i hi=>k.live i pT,fun i u y us hi F=>?_,fun i n v hi E=>k.cur i n v pT (h.cur i n v hi E)⟩
 .obtain⟨j,z⟩:=h.shut b o x;obtain⟨k1,k2⟩:=k.shut b o j;exact⟨k1,k2.trans z⟩
 .rcases k.perm i blk b o j z with h3|h3
  .exact .inl (aGL h.fr.size h3)
  exact own b o h3
 obtain⟨x,ts,D⟩:=k.ty i u y us pT F;exact h.ty i u x ts hi (G i hi _ D)
theorem tR.start {g:Gh}{w:qD}{H:sJ}{L':List qP}(hH:sO g w H) (G: ∀i b,L'[i]? =some b->qS H i=some b/\b≠.dead) (E: ∀i,i<L'.length->∀b,qS H i=some b->L'[i]? =some b):tR (zF g H) L' g w g w H:=by
 refine⟨fun b o h=>⟨h,rfl⟩,Fr.refl _ _ _,fun i blk b o D ho=> .inr ⟨i,blk,D,ho⟩,fun _ _ _ h=>h,fun i hi=>?_,fun i u y us hi D=>⟨y,us,E i hi _ D⟩,fun _ _ _ _ h=>h⟩;obtain⟨I,F⟩:=G i L'[i] pV;have j:=hH.blk i _ I;generalize L'[i]=blk at j F;cases blk with
 |cells t x ts=>obtain⟨p,cs,hp,_⟩:=j;exact .inl ⟨p,hp⟩
 |grow e c n=>obtain⟨v,xs,z,_⟩:=j;exact .inr ⟨n,v,z⟩
 |row e t l n=>obtain⟨_,v,xs,z,_⟩:=j;exact .inr ⟨n,v,z⟩
 |map k v l=>obtain⟨p,es,cl,hp,_⟩:=j;exact .inl ⟨p,hp⟩
 |iter s n=>obtain⟨p,hp,_⟩:=j;exact .inl ⟨p,hp⟩
 |dead=>exact absurd rfl F
@[go_sem] def KE (env:List (Nat×qQ)):qC->List qQ->List (Nat×qQ)
 |p::ps,s::ss=>KE (uN (some p) s env) ps ss
 |_,_=>env
theorem Ry {g:Gh}{w:qD}: ∀{ps:qC}{ss:List qQ}{vs:q8}{env:List (Nat×qQ)}{tmps:Array qE},BN g w env tmps->(∀p∈ps,p<tmps.size)->vJ g w ss vs->ps.length=ss.length->
  BN g w (KE env ps ss) ((ps.zip vs).foldl (fun t (q:Nat×qE)=>t.setIfInBounds q.1 q.2) tmps)/\((ps.zip vs).foldl (fun t (q:Nat×qE)=>t.setIfInBounds q.1 q.2) tmps).size=tmps.size
 |[],[],vs,env,tmps,h,_,ha,_=>by
  have:vs=[]:=ha;subst this;exact⟨h,rfl⟩
 |p::ps,s::ss,vs,env,tmps,h,hp,ha,hl=>by
  obtain⟨v,vs',rfl,h1,h2⟩:=ha;have hput:BN g w (uN (some p) s env) (tmps.setIfInBounds p v):=ke (a:={tmps:=tmps,defers:=[]}) (o:=⟨some p,.move (.tmp 0),0, "",#[],none⟩) (N:=tmps.size) h (Le.refl g w) h1 rfl (by simpa[JX] using hp p pV)
  have:=Ry (tmps:=tmps.setIfInBounds p v) hput (fun q hq=>by simpa using hp q (aF2 _ hq)) h2 (by simpa using hl);exact⟨this.1,by rw[List.zip_cons_cons,List.foldl_cons];rw[this.2];simp⟩
def YC (P:Program) (gf:Nat) (u:Ty) {ι:Type}(pre:u.den->Prop) (items:u.den->List ι) (vl:ι->q8):Prop:=
 (∀args w,(callFunc gf args).run P w= .ok (.enter gf args) w)/\
 ∀(l b o:Nat) (x:u.den) (cs:q8) (g:Gh) (W0:qD) (J:Nat->qD->Prop) (Jx:qD->Prop),pre x->Rd g W0 u x cs->
  (∀i W,J i W->W.rangeAt b o cs/\∀b o,g.S b o->W.cell? ⟨b,o,none⟩=W0.cell? ⟨b,o,none⟩)->
  (∀i W W',J i W->Below W.heap.size W W'->J i W')->(∀W W',Jx W->Below W.heap.size W W'->Jx W')->(∀i W,J i W->G7 W)->
  (∀i it V W,(items x)[i]? =some it->J i V->Below V.heap.size V W->YieldAt Fence.wide 0 P l (vl it).toArray W fun e W'=>((e= .returned (.bool true)/\J (i+1) W')\/(e= .returned (.bool false)/\Jx W'))/\
   ∀D,V.heap.size<=D->D<W.heap.size->W'.heap[D]? =W.heap[D]?)->
  ∀W,J 0 W->Calls P gf #[.func (.yield l) #[] #[],.pointer (some ⟨b,o,none⟩)] W fun e W'=>(∃v,e= .returned v)/\(J (items x).length W'\/Jx W')
def YD (once:Bool) (P:Program) (gf:Nat) (u:Ty) {ι:Type}(pre:u.den->Prop) (items:u.den->List ι) (vl:ι->q8):Prop:=
 (∀args w,(callFunc gf args).run P w= .ok (.enter gf args) w)/\
 ∀(l b o:Nat) (x:u.den) (cs:q8) (g:Gh) (W0:qD) (J:Nat->qD->Prop) (Jx:qD->Prop),pre x->Rd g W0 u x cs->
  (∀i W,J i W->(once=false->W.rangeAt b o cs)/\∀b o,g.S b o->W.cell? ⟨b,o,none⟩=W0.cell? ⟨b,o,none⟩)->
  (∀i W W',J i W->Below W.heap.size W W'->J i W')->(∀W W',Jx W->Below W.heap.size W W'->Jx W')->(∀i W,J i W->G7 W)->
  (∀i it V W,(items x)[i]? =some it->J i V->Below V.heap.size V W->YieldAt Fence.wide 0 P l (vl it).toArray W fun e W'=>((e= .returned (.bool true)/\J (i+1) W')\/(e= .returned (.bool false)/\Jx W'))/\
   ∀D,V.heap.size<=D->D<W.heap.size->W'.heap[D]? =W.heap[D]?)->
  ∀W,J 0 W->W.rangeAt b o cs->Calls P gf #[.func (.yield l) #[] #[],.pointer (some ⟨b,o,none⟩)] W fun e W'=>(∃v,e= .returned v)/\(J (items x).length W'\/Jx W')
theorem YC.zero {P:Program}{gf:Nat}{u:Ty}{ι:Type}{pre:u.den->Prop}{items:u.den->List ι}{vl:ι->q8}(h:YC P gf u pre items vl):YD false P gf u pre items vl:=
 ⟨h.1,fun l b o x cs g W0 J Jx I G h3 h4 F E D W z _=>h.2 l b o x cs g W0 J Jx I G (fun i W j=>⟨(h3 i W j).1 rfl,(h3 i W j).2⟩) h4 F E D W z⟩
theorem a65 {F:Fence}{m:Nat}{P:Program}{l:Nat}{args:Array qE}{W:qD}{R R':Ending->qD->Prop}(h:YieldAt F m P l args W R) (hr: ∀e W',R e W'->R' e W'):YieldAt F m P l args W R':=by
 obtain⟨fn,tmps,assign,body,z,j⟩:=h;exact⟨fn,tmps,assign,body,z,j.mono hr⟩
def B4 {ι σ ρ:Type}(f:ι->σ->Option (σ⊕ρ)):List ι->σ->Option (σ⊕ρ)
 |[],x=>some (.inl x)
 |it::r,x=>(f it x).bind fun w=>match w with
  | .inl x'=>B4 f r x'
  | .inr y=>some (.inr y)
theorem a67 {ι σ ρ:Type}{f:ι->σ->Option (σ⊕ρ)}{it:ι}{r:List ι}{x:σ}{y:σ⊕ρ}(h:B4 f (it::r) x=some y): ∃w,f it x=some w/\(∀x',w= .inl x'->B4 f r x'=some y)/\(∀z,w= .inr z->y= .inr z):=by
 unfold B4 at h;cases hf:f it x with
 |none=>rw[hf] at h;cases h
 |some w=>
  rw[hf] at h;refine⟨w,rfl,fun x' e=>?_,fun z e=>?_⟩
  .subst e;exact h
  subst e;exact(aFU h).symm
def qA (st:St):Ex->St->Prop
 | .normal,s=> ∃k:wL,s.keep k=st
 |_,_=>False
def qF {σ ρ:Type}(encH:σ->List qP) (E0:List (Nat×qQ)) (N np np':Nat) (w:σ⊕ρ) (Q:Ex->St->Prop):Ex->St->Prop
 | .normal,s=> ∃(k:wL) (x:σ),w= .inl x/\s.keep k=⟨[],rC 0 (encH x),rI (encH x),N,np'⟩
 |e,s=> ∃(k:wL) (B:List qP),s.keep k=⟨[],rC 0 B,rI B,N,np'⟩/\(∃z,w= .inr z)/\Q e ⟨E0,rC 0 B,rI B,N,np⟩
section
variable {B:Nat}{A:Nat->Nat->Prop}{L:List qP}{g0 g:Gh}{w0 w:qD}{b0 o0 n0:Nat}{cs:q8}{E0:List (Nat×qQ)}{tmps:Array qE}{ds:List Deferred}
structure FA (B:Nat) (A:Nat->Nat->Prop) (L:List qP) (g0:Gh) (w0:qD) (g:Gh) (w:qD) (b0 o0 n0:Nat) (cs:q8) (E0:List (Nat×qQ)) (tmps:Array qE) (ds:List Deferred) (g1:Gh) (W:qD) (H:sJ):Prop where
 env:BN g1 W E0 tmps
 heap:sO g1 W H
 good:tR A L g0 w0 g1 W H
 sld: ∀b o,g.S b o->g1.S b o/\W.cell? ⟨b,o,none⟩=w.cell? ⟨b,o,none⟩
 rng:W.rangeAt b0 o0 cs
 len:cs.length=n0
 lt:0<n0->b0<W.heap.size
 out: ∀o,o0<=o->o<o0+n0->¬zF g1 H b0 o
 defs:AL B W ds
theorem FA.turn {g1:Gh}{W W2:qD}{H:sJ}(h:FA B A L g0 w0 g w b0 o0 n0 cs E0 tmps ds g1 W H) (t:vF w0.heap.size W W2) {ds':List Deferred}(D:AL B W2 ds'):FA B A L g0 w0 g w b0 o0 n0 cs E0 tmps ds' g1 W2 H:=by
 refine⟨fun x=>EC (t.le h.heap.sl) (h.env x),t.heapOk h.heap,h.good.turn h.heap.sl t,fun b o x=>⟨(h.sld b o x).1,(t.cell (h.heap.sl b o (h.sld b o x).1) o).1.trans (h.sld b o x).2⟩,fun j v z=>?_,h.len,fun x=>aGq (h.lt x) t.size,h.out,D⟩;have E:j<cs.length:=(aF5.1 z).1;have:=h.len;exact(t.cell (h.lt pT) _).1.trans (h.rng j v z)
theorem FA.inner {g1 g2:Gh}{W W2:qD}{H H2:sJ}{L':List qP}{np':Nat}(h:FA B A L g0 w0 g w b0 o0 n0 cs E0 tmps ds g1 W H) (k:tR (zF g1 H) L' g1 W g2 W2 H2) (hH:sO g2 W2 H2) (F:KD np' E0=true) (I:np'=L'.length) (hl:L.length<=L'.length)
  (O: ∀i,i<L.length->∀b,L'[i]? =some b->qS H i=some b):FA B A L g0 w0 g w b0 o0 n0 cs E0 tmps ds g2 W2 H2:=by
 subst I;refine⟨a64 h.env F (fun b o x=>(k.shut b o x).1) (fun b o x=>(k.shut b o x).2) (fun i p hi x=>k.J i p hi x) (fun i n v hi x=>k.cur i n v hi x),hH,h.good.inner k (fun b o x=> .inr x) hl O,fun b o x=>?_,fun j v K=>?_,h.len,fun x=>aGq (h.lt x) k.fr.size,fun o z E ⟨i,blk,h3,h4⟩=>?_,h.defs.same fun D G=>?_⟩
 .obtain⟨z,E⟩:=h.sld b o x;exact⟨(k.shut b o z).1,(k.shut b o z).2.trans E⟩
 .have Q:j<cs.length:=(aF5.1 K).1;have:=h.len;exact(k.fr.cell _ _ (h.lt pT) (h.out _ pT pT)).1.trans (h.rng j v K)
 .rcases k.perm i blk _ _ h3 h4 with M|M
  .have:=h.lt pT;omega
  exact h.out o z E M
 rw[k.fr.blk D (aGh.1 G).1 (fun o ⟨i,blk,z,E⟩=>XQ (h.heap.blk i blk z) E G rfl)];exact G
theorem Rz {g1 g2:Gh}{W W2:qD}{H H2:sJ}{L':List qP}(hH:sO g1 W H) (k:tR (zF g1 H) L' g1 W g2 W2 H2) {D:Nat}{ob:Obj}(h:W.heap[D]? =some ob) (hm:IE ob=true):W2.heap[D]? =some ob:=by
 rw[k.fr.blk D (aGh.1 h).1 (fun o ⟨i,blk,z,j⟩=>XQ (hH.blk i blk z) j h hm)];exact h
end
theorem vF.put {B:Nat}{W:qD}{l:Nat}{o o':Obj}(h:W.heap[l]? =some o) (E:B<=l) (D:NG<=l) (hm:IE o=true) (j:IE o'=true):vF B W (W.putObj l o'):=by
 have z:=(aGh.1 h).1;refine⟨rfl,rfl,rfl,by simp [World.putObj],fun b hb=>?_⟩;by_cases e:b=l
 .subst e;exact .inr ⟨E,D,_,_,h,World.putObj_heap_same z,hm,j⟩
 exact .inl (World.putObj_heap_other e)
theorem vF.new (B:Nat) (W:qD) (o:Obj):vF B W (W.alloc o):=by
 refine⟨rfl,rfl,rfl,by simp,fun b hb=> .inl ?_⟩;exact aGm W o b hb
theorem Sa {e:Ex}{x:Exit}(h:GM x=some e):(x= .normal/\e= .normal)\/(x= .ret/\e= .ret)\/∃id,x= .exit id/\e= .exit id:=by
 cases x<;>simp only[GM,aFO] at h
 .exact .inl ⟨rfl,h.symm⟩
 .exact .inr (.inr ⟨_,rfl,h.symm⟩)
 .cases h
 .exact .inr (.inl ⟨rfl,h.symm⟩)
 .cases h
 cases h
def a68:Ex->Option Code
 | .normal=>none
 | .ret=>some .ret
 | .exit id=>some (.exit id)
theorem Sb {once:Bool}{P:Program}{gf:Nat}{u:Ty}{ι:Type}{pre:u.den->Prop}{items:u.den->List ι}{vl:ι->q8}(k7:YD once P gf u pre items vl) {sl:ι->List qQ}(ky: ∀it g w,vJ g w (sl it) (vl it))
  {fo:Operand}{ps:Array Tmp}{assign body:Code}{s:St}{Q:Ex->St->Prop}{c:Nat}{k0:qB}(hf:uC s.env fo=(.val .clo (some (gf,[(c,0)])),k0)) {xc:u.den}{toks:pY}(hc:qS s.H c=some (.cells u xc toks)) (qn:pre xc)
  {σ ρ:Type}{f:ι->σ->Option (σ⊕ρ)}{x0:σ}{y:σ⊕ρ}(hy:B4 f (items xc) x0=some y)
  (E0:List (Nat×qQ)) (E1:ι->List (Nat×qQ)) (encH:σ->List qP) (encA:ι->σ->List qP) (np':Nat) (k:wL) (hk:xI s.np k.ids=true) (h0:s.keep k=⟨E0,rC 0 (encH x0),rI (encH x0),s.N,s.np⟩)
  (kt:k.ids.all (fun q=>decide (q.2≠c))=true\/c<s.np/\(∀g w cs g2 w2 cs2,Rd g w u xc cs->Rd g2 w2 u xc cs2->cs=cs2)/\(∃toksK,∀x,qS (rC 0 (encH x)) c=some (.cells u xc toksK))\/c<s.np/\once=true) (hM:KD np' E0=true) (hI:s.np<=np') (hx: ∀x,np'<=rI (encH x)) (ko: ∀x,((encH x).take np').all (fun b=>match b with| .dead=>false|_=>true)=true)
  (hA: ∀it x,(encA it x).take np'=(encH x).take np') (kk: ∀it x,np'<=rI (encA it x))
  (k4: ∀it,ps.toList.length=(sl it).length) (v3:(ps.toList.all fun p=>decide (p<s.N))=true)
  (hK: ∀it x w,f it x=some w->(∀z,w= .inr z->y= .inr z)->Ev true P assign ⟨KE E0 ps.toList (sl it),rC 0 (encH x),rI (encH x),s.N,np'⟩ (qA ⟨E1 it,rC 0 (encA it x),rI (encA it x),s.N,np'⟩)/\
   Ev true P body ⟨E1 it,rC 0 (encA it x),rI (encA it x),s.N,np'⟩ (qF encH E0 s.N s.np np' w Q))
  (kn: ∀x,y= .inl x->Q .normal ⟨E0,rC 0 (encH x),rI (encH x),s.N,s.np⟩):Ev false P (.rangeFunc fo ps assign body) s Q:=by
 intro ro v2 A L g0 w0 g a w B hB hr hg hn;have hN:ro=none:=by cases ro<;>first|rfl|cases v2
 subst hN;have k8:=B3 hr.env fo;rw[hf] at k8;obtain⟨p,hW,z0⟩: ∃p,g.J c=some p/\a.eval fo= .func (.func gf) #[] #[.pointer (some ⟨p.1,p.2,none⟩)]:=by
  rcases k8.1 with⟨E,_⟩ |⟨_,vs,⟨p,vs',h4,O,h6⟩,h3⟩
  .cases E
  rw[show vs'=[] from h6] at O;subst O;simp only[aGD,and_true] at h3;exact⟨p,h4,h3⟩
 obtain⟨p',cs,k5,h9,kF,v0,y1,y0⟩:=hr.heap.blk c _ hc;rw[hW] at k5;obtain rfl:=aFU k5;obtain⟨K,U,y2,_⟩:=kc hr hg hn k hk;have q0:c<s.np->(uP g s.np k.ids).J c=some p:=fun ha=>by
  show (if c<s.np then g.J c else _)=_;rw[aFP ha];exact hW
 obtain⟨b0,o0,n0,cI,inv0,ql⟩: ∃b0 o0 n0 cI,FA B A L g0 w0 g w b0 o0 n0 cI E0 a.tmps a.defers (uP g s.np k.ids) w (rC 0 (encH x0))/\∀{g1:Gh}{W:qD}{x:σ}{dd:List Deferred},FA B A L g0 w0 g w b0 o0 n0 cI E0 a.tmps dd g1 W (rC 0 (encH x))->(c<s.np->g1.J c=some p)->once=false->W.rangeAt p.1 p.2 cs:=by
  rcases kt with z2|⟨ha,hu,toksK,z3⟩ |⟨ha,v4⟩
  .have hP: ∀o,p.2<=o->o<p.2+u.cells->¬zF (uP g s.np k.ids) (s.keep k).H p.1 o:=by
    rintro o E F ⟨i,blk,h3,h4⟩;have k9:qS (RU s k (xI s.np k.ids)).H i=some blk:=h3;rw[hk] at k9;obtain⟨o',O,rfl⟩:=K8 k9;obtain⟨c1,h6,h7⟩:=(N0 hk O fun c1 z4=>hr.heap.blk o' c1 z4).2 _ _ h4;exact hr.heap.dis o' c c1 _ p.1 o (aGt (aGK.1 z2 _ O)) h6 hc h7 ⟨p,hW,rfl,E,F⟩
   rw[h0] at K U hP;exact⟨p.1,p.2,u.cells,cs,⟨K.env,K.heap,U,fun b o h=>⟨h,rfl⟩,kF,t8 h9,fun qs=>by
    obtain⟨v,hv⟩:=aFS.1 (v0.1 0 qs).1;exact S1 hv,hP,hr.def_⟩,fun h _ _=>h.rng⟩
  .rw[h0] at K U;refine⟨0,0,0,[],⟨K.env,K.heap,U,fun b o h=>⟨h,rfl⟩,fun j v h=>by simp at h,rfl,fun h=>absurd h pT,fun o E F=>by omega,K.def_⟩,fun h F _=>?_⟩;obtain⟨p2,cs2,h3,h4,O,_⟩:=h.heap.blk c _ (z3 _);rw[F ha] at h3;obtain rfl:=aFU h3;rw[hu _ _ _ _ _ _ h9 h4];exact O
  rw[h0] at K U;exact⟨0,0,0,[],⟨K.env,K.heap,U,fun b o h=>⟨h,rfl⟩,fun j v h=>by simp at h,rfl,fun h=>absurd h pT,fun o E F=>by omega,K.def_⟩,fun _ _ h=>by rw[v4] at h;cases h⟩
 rw[h0] at K U;have z9:NG<=w.heap.size:=hr.heap.tab.1.1;have y4:w0.heap.size<=w.heap.size:=hg.fr.size;refine wpIn_rangeFunc fun fn _=>?_;obtain⟨rec,G⟩: ∃rec:LoopState->Option Code->Loop,rec=fun st pe=>{state:=st,pending:=pe,fn,tmps:=a.tmps,params:=ps,assign,body,defers:=w.heap.size}:=⟨_,rfl⟩;obtain⟨W1,hh⟩: ∃W1,(w.alloc (.deferred (some []))).alloc (.loop (rec .ready none))=W1:=⟨_,rfl⟩;have yt:W1.heap[w.heap.size+1]? =some (.loop (rec .ready none)):=by
  rw[<-hh];have:=World.alloc_heap_new (w.alloc (.deferred (some []))) (.loop (rec .ready none));rwa [World.size_alloc] at this
 have yy:W1.heap[w.heap.size]? =some (.deferred (some [])):=by
  rw[<-hh];exact(aGm _ _ _ pV).trans (World.alloc_heap_new w _)
 have t1:vF w0.heap.size w W1:=by rw[<-hh];exact(vF.new _ _ _).trans (vF.new _ _ _)
 obtain⟨ds,h8⟩: ∃ds:List Deferred,{target:= .collected w.heap.size,args:= #[]}::a.defers=ds:=⟨_,rfl⟩;have z1:AL B W1 ds:=by
  rw[<-h8];refine⟨List.nodup_cons.2 ⟨fun hm=>?_,hr.def_.1⟩,fun d hd=>?_⟩
  .obtain⟨D,E,_,_,h4⟩:=hr.def_.2 _ hm;have O:w.heap.size=D:=by injection E with E;injection E
   have:=(aGh.1 h4).1;omega
  rcases aF1.1 hd with rfl|hd
  .exact⟨_,rfl,pT,z9,yy⟩
  obtain⟨D,E,F,h3,h4⟩:=hr.def_.2 _ hd;have hX:=(aGh.1 h4).1;refine⟨D,E,F,h3,?_⟩;rw[<-hh];exact(aGm _ _ D pW).trans ((aGm _ _ D hX).trans h4)
 let l:=w.heap.size+1
 let J:Nat->qD->Prop:=fun i W=> ∃g1 x,B4 f ((items xc).drop i) x=some y/\FA B A L g0 w0 g w b0 o0 n0 cI E0 a.tmps ds g1 W (rC 0 (encH x))/\
  (∀j,rI (encH x)<=j->g1.J j=none/\∀n,g1.cur j n=none)/\W.heap[l]? =some (.loop (rec .ready none))/\(c<s.np->g1.J c=some p)
 let Jx:qD->Prop:=fun W=> ∃g1 Bl e cd z,a68 e=some cd/\y= .inr z/\Q e ⟨E0,rC 0 Bl,rI Bl,s.N,s.np⟩/\FA B A L g0 w0 g w b0 o0 n0 cI E0 a.tmps ds g1 W (rC 0 Bl)/\
  (∀j,rI Bl<=j->g1.J j=none/\∀n,g1.cur j n=none)/\s.np<=rI Bl/\W.heap[l]? =some (.loop (rec .done (some cd)))
 have tbel: ∀{W W':qD},Below W.heap.size W W'->vF w0.heap.size W W':=fun hb=>⟨hb.os,hb.tape,hb.output,hb.size,fun b h=> .inl (hb.block b h)⟩;have Z: ∀{W W':qD}{D:Nat}{ob:Obj},Below W.heap.size W W'->W.heap[D]? =some ob->W'.heap[D]? =some ob:=fun hb h=>(hb.block _ (aGh.1 h).1).trans h;have yL: ∀i W W',J i W->Below W.heap.size W W'->J i W':=fun i W W' ⟨g1,x,E,F,h3,h4,O⟩ hb=>⟨g1,x,E,F.turn (tbel hb) (F.defs.same fun _ h=>Z hb h),h3,Z hb h4,O⟩;have vv: ∀W W',Jx W->Below W.heap.size W W'->Jx W':=fun W W' ⟨g1,Bl,e,cd,z,E,F,h3,h4,O,h6,h7⟩ hb=>⟨g1,Bl,e,cd,z,E,F,h3,h4.turn (tbel hb) (h4.defs.same fun _ h=>Z hb h),O,h6,Z hb h7⟩;have hG: ∀i it V W,(items xc)[i]? =some it->J i V->Below V.heap.size V W->YieldAt Fence.wide 0 P l (vl it).toArray W fun e W'=>((e= .returned (.bool true)/\J (i+1) W')\/(e= .returned (.bool false)/\Jx W'))/\
   ∀D,V.heap.size<=D->D<W.heap.size->W'.heap[D]? =W.heap[D]? :=by
  rintro i it V W hi ⟨g1,x,hF,invV,nb,k6,zz⟩ hE;have inv:=invV.turn (tbel hE) (invV.defs.same fun _ h=>Z hE h);have hl:=Z hE k6;have y3:l<V.heap.size:=(aGh.1 k6).1;have hQ: ∀D,V.heap.size<=D->∀o,¬zF g1 (rC 0 (encH x)) D o:=fun D hD o ⟨i,blk,E,F⟩=>by
   have:=MP (invV.heap.blk i blk E) F;omega
  have v9:i<(items xc).length:=(aF5.1 hi).1;have kl:(items xc).drop i=it::(items xc).drop (i+1):=by
   rw[aGs v9];congr 1;exact(aF5.1 hi).2
  rw[kl] at hF;obtain⟨wv,hw,vr,hC⟩:=a67 hF;obtain⟨evA,evB⟩:=hK it x wv hw hC;have vy:(vl it).toArray.size=ps.size:=by
   rw[aGT,(Y0 (ky it g1 W)).1,<-k4 it,aGP]
  have kx:=run_yield (P:=P) (args:=(vl it).toArray) hl (by rw[G];exact vy);rw[G] at kx;refine⟨fn,_,assign,body,kx,roundIn_of_wpIn trivial ?_⟩;have hz:(ps.zip (vl it).toArray).foldl (fun tmps (t,v)=>tmps.setIfInBounds t v) a.tmps=(ps.toList.zip (vl it)).foldl (fun t (q:Nat×qE)=>t.setIfInBounds q.1 q.2) a.tmps:=by
   rw[<-aHU,Array.toList_zip]
  rw[hz];obtain⟨vt,v1⟩:=Ry inv.env (fun q hq=>by rw[hr.size];exact aGt (aGK.1 v3 q hq)) (ky it g1 W) (k4 it);have I:((encH x).take np').length=np':=by
   rw[aGy];have:=hx x;rw[Y1] at this;omega
  have X: ∀i b,((encH x).take np')[i]? =some b->qS (rC 0 (encH x)) i=some b:=fun i b h=>by
   rw[y8];exact(aGQ (by have:=(aF5.1 h).1;omega)).symm.trans h
  have Y: ∀i b,((encH x).take np')[i]? =some b->qS (rC 0 (encH x)) i=some b/\b≠.dead:=fun i b h=>⟨X i b h,fun e=>by
   have:=aGK.1 (ko x) b (List.mem_of_getElem? h);subst e;cases this⟩
  have hV: ∀i,i<((encH x).take np').length->∀b,qS (rC 0 (encH x)) i=some b->((encH x).take np')[i]? =some b:=fun i hi b h=>by
   rw[y8] at h;exact(aGQ pT).trans h
  have gs:=tR.start inv.heap Y hV;have rA:vE W.heap.size g1 W ⟨KE E0 ps.toList (sl it),rC 0 (encH x),rI (encH x),s.N,np'⟩ {tmps:=(ps.toList.zip (vl it)).foldl (fun t (q:Nat×qE)=>t.setIfInBounds q.1 q.2) a.tmps,defers:=[]}:=⟨vt,inv.heap,v1.trans hr.size,nb,Ow _ _,hx x⟩;have hR:L.length<=((encH x).take np').length:=by rw[I,<-hn];exact hI
  refine aHB (evA (some l) rfl _ _ g1 W g1 _ W _ (aGc _) rA gs I.symm) fun e a1 wa hp=>?_;obtain⟨e',g2,s2,e1,e2,e3,e4,e5⟩:=hp;rcases Sa e1 with⟨rfl,rfl⟩ |⟨rfl,rfl⟩ |⟨id,rfl,rfl⟩
  .obtain⟨kA,hY⟩:=e2;obtain⟨g3,k1,k2,k3,_⟩:=K9 e3 e4 e5 kA;rw[hY] at k1 k2;have inva:=inv.inner k2 k1.heap hM I.symm hR (fun i hi b h=>X i b h);have ht:=Rz inv.heap k2 hl rfl;refine⟨_,run_beginRound ht (by rw[G]),?_⟩;obtain⟨Wb,he⟩: ∃Wb,wa.putObj l (.loop {rec .ready none with state:= .busy})=Wb:=⟨_,rfl⟩
   have tb:vF w0.heap.size wa Wb:=by rw[<-he];exact vF.put ht (by show w0.heap.size<=w.heap.size+1;omega) (by show NG<=w.heap.size+1;omega) rfl rfl
   have hX:=(aGh.1 ht).1;have other: ∀{W:qD}{o o':Obj}{D:Nat},W.heap[l]? =some (.loop (rec .ready none))\/W.heap[l]? =some (.loop {rec .ready none with state:= .busy})->W.heap[D]? =some (.deferred (some []))->(W.putObj l o').heap[D]? =some (.deferred (some [])):=by
    intro W o o' D E F;rw[World.putObj_heap_other (fun e=>by subst e;rcases E with E|E<;>(rw[E] at F;cases F))]
    exact F
   have invb:=inva.turn tb (inva.defs.same fun D hD=>by rw[<-he];exact other (o:= .loop (rec .ready none)) (.inl ht) hD);have v5:Wb.heap[l]? =some (.loop {rec .ready none with state:= .busy}):=by rw[<-he];exact World.putObj_heap_same hX
   have hY: ∀D,V.heap.size<=D->D<W.heap.size->Wb.heap[D]? =W.heap[D]? :=fun D E F=>by
    rw[<-he,World.putObj_heap_other pT];exact k2.fr.blk D F (hQ D E)
   rw[he];have kd: ∀i,i<np'->qS (rC 0 (encA it x)) i=qS (rC 0 (encH x)) i:=fun i hi=>by
    rw[y8,y8,<-aGQ hi,hA it x,aGQ hi]
   have vb: ∀i b,((encH x).take np')[i]? =some b->i<np':=fun i b h=>by
    have:=(aF5.1 h).1;omega
   have gsb:=tR.start invb.heap (fun i b h=>by rw[kd i (vb i b h)];exact Y i b h) (fun i hi b h=>hV i hi b (by rw[<-kd i pT];exact h));have rB:vE W.heap.size g3 Wb ⟨E1 it,rC 0 (encA it x),rI (encA it x),s.N,np'⟩ a1:=⟨fun t=>EC (tb.le k1.heap.sl) (k1.env t),invb.heap,k1.size,k1.nb,k1.def_.same fun D hD=>by rw[<-he];exact other (o:= .loop (rec .ready none)) (.inl ht) hD,kk it x⟩;have z5:W.heap.size<=Wb.heap.size:=aGL k2.fr.size tb.size;refine aHB (evB (some l) rfl _ _ g3 Wb g3 a1 Wb _ z5 rB gsb I.symm) fun e a2 wc hp=>?_;obtain⟨e',g4,s4,e1,e2,e3,e4,e5⟩:=hp;have fin: ∀(kB:wL) (Bl:List qP),s4.keep kB=⟨[],rC 0 Bl,rI Bl,s.N,np'⟩->∀jump:Option Code,∃g5,FA B A L g0 w0 g w b0 o0 n0 cI E0 a.tmps ds g5 (wc.putObj l (.loop (rec (if jump.isNone then .ready else .done) jump))) (rC 0 Bl)/\
     (∀j,rI Bl<=j->g5.J j=none/\∀n,g5.cur j n=none)/\np'<=rI Bl/\(wc.putObj l (.loop (rec (if jump.isNone then .ready else .done) jump))).heap[l]? =some (.loop (rec (if jump.isNone then .ready else .done) jump))/\
     (Instr.endRound l jump).run P wc= .ok (.bool jump.isNone) (wc.putObj l (.loop (rec (if jump.isNone then .ready else .done) jump)))/\(c<s.np->g5.J c=some p)/\
     ∀D,V.heap.size<=D->D<W.heap.size->(wc.putObj l (.loop (rec (if jump.isNone then .ready else .done) jump))).heap[D]? =W.heap[D]? :=by
    intro kB Bl R jump;obtain⟨g5,j1,j2,j3,_⟩:=K9 e3 e4 e5 kB;rw[R] at j1 j2;have invc:=invb.inner j2 j1.heap hM I.symm hR (fun i hi b h=>by rw[kd i pT];exact X i b h);have hJ:=Rz invb.heap j2 v5 rfl;have va:=(aGh.1 hJ).1;have tc:vF w0.heap.size wc (wc.putObj l (.loop (rec (if jump.isNone then .ready else .done) jump))):=vF.put hJ (by show w0.heap.size<=w.heap.size+1;omega) (by show NG<=w.heap.size+1;omega) rfl rfl;refine⟨g5,invc.turn tc (invc.defs.same fun D hD=>other (o:= .loop (rec .ready none)) (.inr hJ) hD),j1.nb,j1.np,World.putObj_heap_same va,?_,fun ha=>j2.J c p pT (k2.J c p pT (zz ha)),fun D E F=>?_⟩
    .have:=run_endRound (P:=P) jump hJ;rw[this,G]
    rw[World.putObj_heap_other pT,j2.fr.blk D pT (fun o ⟨i,blk,h3,h4⟩=>by
     rcases k2.perm i blk D o h3 h4 with O|O
     .omega
     exact hQ D E o O),hY D E F]
   rcases Sa e1 with⟨rfl,rfl⟩ |⟨rfl,rfl⟩ |⟨id,rfl,rfl⟩
   .obtain⟨kB,x',rfl,R⟩:=e2;obtain⟨g5,q1,q2,q3,q4,q5,q6,q7⟩:=fin kB _ R none;exact⟨_,_,q5,.inl ⟨rfl,g5,x',vr x' rfl,q1,q2,q4,q6⟩,q7⟩
   .obtain⟨kB,Bl,R,⟨z,rfl⟩,hq⟩:=e2;obtain⟨g5,q1,q2,q3,q4,q5,q6,q7⟩:=fin kB _ R (some .ret);exact⟨_,_,q5,.inr ⟨rfl,g5,Bl,.ret,.ret,z,rfl,hC z rfl,hq,q1,q2,aGL hI q3,q4⟩,q7⟩
   obtain⟨kB,Bl,R,⟨z,rfl⟩,hq⟩:=e2;obtain⟨g5,q1,q2,q3,q4,q5,q6,q7⟩:=fin kB _ R (some (.exit id));exact⟨_,_,q5,.inr ⟨rfl,g5,Bl,.exit id,.exit id,z,rfl,hC z rfl,hq,q1,q2,aGL hI q3,q4⟩,q7⟩
  .exact e2.elim
  exact e2.elim
 refine⟨l,[{target:= .collected w.heap.size,args:= #[]}],W1,{target:= .fn (.func gf) #[.pointer (some ⟨p.1,p.2,none⟩)],args:= #[.func (.yield l) #[] #[]]},W1,gf,#[.func (.yield l) #[] #[]]++ #[.pointer (some ⟨p.1,p.2,none⟩)],W1,?_,?_,fun _ _=>trivial,?_,fun h=>(by cases h),?_⟩
 .rw[<-hh,G];exact run_enterLoop_outer _ _ _ _ _
 .simp only[resolve,z0];simp [go_sem]
 .simp [invoke,go_sem,k7.1]
 have inv1:=inv0.turn t1 z1;have qm:W1.rangeAt p.1 p.2 cs:=fun j v hj=>by
  have E:=kF j v hj;have F:p.1<w.heap.size:=S1 E;rw[<-E,<-hh];exact aGf (a:=⟨p.1,p.2+j,none⟩) ((aGm _ _ p.1 pW).trans (aGm _ _ p.1 F))
 refine(Pf (ro:=none) (n:=0-1) (k7.2 l p.1 p.2 xc cs g w J Jx qn h9 (fun i W ⟨g1,x,_,F,_,_,O⟩=>⟨ql F O,fun b o hb=>(F.sld b o hb).2⟩) yL vv (fun i W ⟨g1,x,_,F,_⟩=>F.heap.tab.1) hG W1 ⟨_,x0,hy,inv1,K.nb,yt,q0⟩ qm)).mono ?_;have hS: ∀{W:qD}{r:Loop},W.heap[l]? =some (.loop r)->∀{ds0:List Deferred},AL B W ds0->AL B (W.putObj l (.loop {r with state:= .exhausted})) ds0:=by
  intro W r E ds0 F;refine F.same fun D hD=>?_;rw[World.putObj_heap_other (fun e=>by subst e;rw[E] at hD;cases hD)];exact hD
 rintro e W2 ⟨⟨v,rfl⟩,(⟨g1,x,E,F,h3,h4,_⟩ |⟨g1,Bl,e,cd,z,E,F,h3,h4,O,h6,h7⟩)⟩
 .rw[aGN] at E;have vx:y= .inl x:=(aFU E).symm;have M:=F.turn (vF.put (o':= .loop {rec .ready none with state:= .exhausted}) h4 (by show w0.heap.size<=w.heap.size+1;omega) (by show NG<=w.heap.size+1;omega) rfl rfl) (hS h4 F.defs)
  refine⟨none,W2.putObj l (.loop {rec .ready none with state:= .exhausted}),by have:=run_endLoop (P:=P) h4 (by rw[G];simp);rw[G] at this|-;exact this,?_⟩
  refine⟨.normal,g1,_,rfl,kn x vx,⟨M.env,M.heap,hr.size,h3,?_,aGL hI (hx x)⟩,M.good,hn⟩;have:=M.defs;rw[<-h8] at this;exact this
 have M:=h4.turn (vF.put (o':= .loop {rec .done (some cd) with state:= .exhausted}) h7 (by show w0.heap.size<=w.heap.size+1;omega) (by show NG<=w.heap.size+1;omega) rfl rfl) (hS h7 h4.defs)
 refine⟨some cd,W2.putObj l (.loop {rec .done (some cd) with state:= .exhausted}),by have:=run_endLoop (P:=P) h7 (by rw[G];simp);rw[G] at this|-;exact this,?_⟩
 have hU:=M.defs;rw[<-h8] at hU;have hL:vE B g1 (W2.putObj l (.loop {rec .done (some cd) with state:= .exhausted})) ⟨E0,rC 0 Bl,rI Bl,s.N,s.np⟩ {a with defers:=[{target:= .collected w.heap.size,args:= #[]}]++a.defers}:=⟨M.env,M.heap,hr.size,O,hU,h6⟩
 cases e with
 |normal=>cases E
 |ret=>
  obtain rfl:=aFU E;exact wpIn_ret ⟨.ret,g1,_,rfl,h3,hL,M.good,hn⟩
 |exit id=>
  obtain rfl:=aFU E;exact wpIn_exit ⟨.exit id,g1,_,rfl,h3,hL,M.good,hn⟩
theorem a69 {P:Program}{gf:Nat}{u:Ty}{ι:Type}{pre:u.den->Prop}{items:u.den->List ι}{vl:ι->q8}(R:YC P gf u pre items vl) {sl:ι->List qQ}(I: ∀it g w,vJ g w (sl it) (vl it))
  {fo:Operand}{ps:Array Tmp}{assign body:Code}{s:St}{Q:Ex->St->Prop}{c:Nat}{k0:qB}(hf:uC s.env fo=(.val .clo (some (gf,[(c,0)])),k0)) {xc:u.den}{toks:pY}(Y:qS s.H c=some (.cells u xc toks)) (F:pre xc)
  {σ ρ:Type}{f:ι->σ->Option (σ⊕ρ)}{x0:σ}{y:σ⊕ρ}(V:B4 f (items xc) x0=some y)
  (E0:List (Nat×qQ)) (E1:ι->List (Nat×qQ)) (encH:σ->List qP) (np':Nat) (k:wL) (X:xI s.np k.ids=true) (h0:s.keep k=⟨E0,rC 0 (encH x0),rI (encH x0),s.N,s.np⟩)
  (U:k.ids.all (fun q=>decide (q.2≠c))=true) (G:KD np' E0=true) (O:s.np<=np') (j: ∀x,np'<=rI (encH x)) (E: ∀x,((encH x).take np').all (fun b=>match b with| .dead=>false|_=>true)=true)
  (K: ∀it,ps.toList.length=(sl it).length) (M:(ps.toList.all fun p=>decide (p<s.N))=true)
  (h: ∀it x w,f it x=some w->(∀z,w= .inr z->y= .inr z)->Ev true P assign ⟨KE E0 ps.toList (sl it),rC 0 (encH x),rI (encH x),s.N,np'⟩ (qA ⟨E1 it,rC 0 (encH x),rI (encH x),s.N,np'⟩)/\
   Ev true P body ⟨E1 it,rC 0 (encH x),rI (encH x),s.N,np'⟩ (qF encH E0 s.N s.np np' w Q))
  (D: ∀x,y= .inl x->Q .normal ⟨E0,rC 0 (encH x),rI (encH x),s.N,s.np⟩):Ev false P (.rangeFunc fo ps assign body) s Q:=
 Sb R.zero I hf Y F V E0 E1 encH (fun _=>encH) np' k X h0 (.inl U) G O j E (fun _ _=>rfl) (fun _=>j) K M h D
theorem a7a {P:Program}{gf:Nat}{u:Ty}{ι:Type}{pre:u.den->Prop}{items:u.den->List ι}{vl:ι->q8}(U:YD true P gf u pre items vl) {sl:ι->List qQ}(K: ∀it g w,vJ g w (sl it) (vl it))
  {fo:Operand}{ps:Array Tmp}{assign body:Code}{s:St}{Q:Ex->St->Prop}{c:Nat}{k0:qB}(hf:uC s.env fo=(.val .clo (some (gf,[(c,0)])),k0)) {xc:u.den}{toks:pY}(Z:qS s.H c=some (.cells u xc toks)) (F:pre xc)
  {σ ρ:Type}{f:ι->σ->Option (σ⊕ρ)}{x0:σ}{y:σ⊕ρ}(X:B4 f (items xc) x0=some y)
  (E0:List (Nat×qQ)) (E1:ι->List (Nat×qQ)) (encH:σ->List qP) (encA:ι->σ->List qP) (np':Nat) (k:wL) (Y:xI s.np k.ids=true) (h0:s.keep k=⟨E0,rC 0 (encH x0),rI (encH x0),s.N,s.np⟩)
  (V:c<s.np) (G:KD np' E0=true) (R:s.np<=np') (I: ∀x,np'<=rI (encH x)) (E: ∀x,((encH x).take np').all (fun b=>match b with| .dead=>false|_=>true)=true)
  (hA: ∀it x,(encA it x).take np'=(encH x).take np') (j: ∀it x,np'<=rI (encA it x))
  (M: ∀it,ps.toList.length=(sl it).length) (O:(ps.toList.all fun p=>decide (p<s.N))=true)
  (h: ∀it x w,f it x=some w->(∀z,w= .inr z->y= .inr z)->Ev true P assign ⟨KE E0 ps.toList (sl it),rC 0 (encH x),rI (encH x),s.N,np'⟩ (qA ⟨E1 it,rC 0 (encA it x),rI (encA it x),s.N,np'⟩)/\
   Ev true P body ⟨E1 it,rC 0 (encA it x),rI (encA it x),s.N,np'⟩ (qF encH E0 s.N s.np np' w Q))
  (D: ∀x,y= .inl x->Q .normal ⟨E0,rC 0 (encH x),rI (encH x),s.N,s.np⟩):Ev false P (.rangeFunc fo ps assign body) s Q:=
 Sb U K hf Z F X E0 E1 encH encA np' k Y h0 (.inr (.inr ⟨V,rfl⟩)) G R I E hA j M O h D
section
variable {σ ρ:Type}{encH:σ->List qP}{E0:List (Nat×qQ)}{N np np':Nat}{w:σ⊕ρ}{Q:Ex->St->Prop}{st s:St}
theorem Sc (k:wL) (h:s.keep k=st):qA st .normal s:=⟨k,h⟩
theorem Sd (k:wL) (x:σ) (hw:w= .inl x) (h:s.keep k=⟨[],rC 0 (encH x),rI (encH x),N,np'⟩):qF encH E0 N np np' w Q .normal s:=⟨k,x,hw,h⟩
end
end Go.Proofs.YtcpbaddnmpeipaaGreatDoor.Vc
namespace Go.Proofs.YtcpbaddnmpeipaaGreatDoor
open Go.RowKit Go.Shelf Vc
open Tryz
section
attribute [local go_sem] Oper.semAt_some
def DD (d:(Ty.pair .str (.pair (.list .str) (.pair .str .unit))).den):List (Int×pP):=
 (0,d.1)::((List.range d.2.1.length).map fun j:Nat=>((j:Int)+1,d.2.1.getD j []))++[((d.2.1.length:Int)+1,d.2.2.1)]
def SN (it:Int×pP):q8:=[.int .i64 it.1,.string ⟨it.2.toArray⟩]
@[go_sem] def Se (it:Int×pP):List qQ:=[(.val (.int .i64) it.1,none),(.val .str it.2,none)]
theorem a7b (it:Int×pP) (g:Gh) (w:qD):vJ g w (Se it) (SN it):=⟨_,_,rfl,⟨wN _ _ _ _,trivial⟩,_,_,rfl,⟨DC _ _ _,trivial⟩,rfl⟩
theorem a7c (d:(Ty.pair .str (.pair (.list .str) (.pair .str .unit))).den):(DD d).length=d.2.1.length+2:=by simp [DD]
theorem a7d (d:(Ty.pair .str (.pair (.list .str) (.pair .str .unit))).den):(DD d)[0]? =some (0,d.1):=by simp [DD]
theorem a7e (d:(Ty.pair .str (.pair (.list .str) (.pair .str .unit))).den) {j:Nat}(h:j<d.2.1.length):(DD d)[j+1]? =some ((j:Int)+1,d.2.1.getD j []):=by
 simp [DD,aF9,h]
theorem a7f (d:(Ty.pair .str (.pair (.list .str) (.pair .str .unit))).den):(DD d)[d.2.1.length+1]? =some ((d.2.1.length:Int)+1,d.2.2.1):=by
 simp [DD]
theorem a7g:YC prog 77 (.pair .str (.pair (.list .str) (.pair .str .unit))) (fun d=>d.2.1.length<=4611686018427387904) DD SN:=by
 refine⟨fun _ _=>rfl,?_⟩;intro l b o d cs g W0 J Jx hpre hR hrd hJd hJxd hJt hY W h0;replace hY:=fun i it W h1 h2=>a65 (hY i it W W h1 h2 (Below.refl _ _)) (R':=fun e W'=>(e= .returned (.bool true)/\J (i+1) W')\/(e= .returned (.bool false)/\Jx W')) (fun _ _ h=>h.1);obtain⟨c1,c2,rfl,hh,c3,c4,rfl,hl,c5,c6,rfl,ht,hu⟩:=hR;rw[show c1=[.string ⟨d.1.toArray⟩] from hh] at hrd;rw[show c5=[.string ⟨d.2.2.1.toArray⟩] from ht,show c6=[] from hu] at hrd;obtain⟨a,cap,rfl,hcap,hel⟩:=hl;have r0: ∀i W,J i W->W.cell? ⟨b,o,none⟩=some (.string ⟨d.1.toArray⟩):=fun i W h=>by simpa using(hrd i W h).1 0 _ rfl
 have r1: ∀i W,J i W->W.cell? ⟨b,o+1,none⟩=some (.slice a d.2.1.length cap):=fun i W h=>(hrd i W h).1 1 _ rfl;have r2: ∀i W,J i W->W.cell? ⟨b,o+2,none⟩=some (.string ⟨d.2.2.1.toArray⟩):=fun i W h=>(hrd i W h).1 2 _ rfl;have re: ∀j,j<d.2.1.length->∃b' o',a=some ⟨b',o',none⟩/\∀i W,J i W->W.cell? ⟨b',o'+j,none⟩=some (.string ⟨(d.2.1.getD j []).toArray⟩):=by
  intro j hj;rcases hel with h|⟨b',o',h1,h2⟩
  .rw[h] at hj;cases hj
  refine⟨b',o',h1,fun i W h=>?_⟩;have hg:d.2.1[j]? =some (d.2.1.getD j []):=by rw[aGb,aFW hj];rfl
  obtain⟨cs,k1,k2,k3,k4⟩:=MT h2 hg;rw[show cs=[.string ⟨(d.2.1.getD j []).toArray⟩] from k4] at k2;have k5:=k2 0 _ rfl;have k6:=k3 0 pU;rw[aG0,show j*Ty.str.cells=j from aHy j] at k5 k6;rw[(hrd i W h).2 _ _ k6];exact k5
 have q0:=a7d d;have qm:=fun j=>a7e d (j:=j);have ql:=a7f d;have qn:=a7c d;generalize hn:d.2.1.length=n at*;refine(callsIn_wide (n:=0)).1 (callsIn_of_wp func77 rfl trivial ?_);simp only[Tryz.ntmps77,aGT,aFV,aF8,Nat.reduceAdd,Nat.reduceSub,Array.replicate_succ,Array.replicate_zero,List.push_toArray,List.append_toArray,List.nil_append,List.cons_append];have c0:=r0 0 W h0;obtain⟨fn,tmps,assign,body,hy,hQ⟩:=hY 0 _ W q0 h0;dsimp only[SN] at hy
 gi_wp2
 refine⟨rfl,hQ.mono ?_⟩;clear hQ hy;rintro e W1 (⟨rfl,hJ1⟩ |⟨rfl,hJx⟩)
 .have s1:=r1 _ W1 hJ1
  gi_wp2
  gi_loopw [13] (fun i wr=> ∃k:Nat,k<=n/\i= .int .i64 k/\J (k+1) wr) (fun i _=>n- (RowKit.intOf i).toNat)
  case atStart=>exact⟨0,aGS _,rfl,hJ1⟩
  case round=>
   obtain⟨k,hk,rfl,hJs⟩:=hrel;by_cases hlt:k<n
   .obtain⟨b',o',rfl,hce⟩:=re k hlt;have hc':=hce _ _ hJs;have hq:=qm k hlt;clear re qm ql q0 hce;generalize d.2.1.getD k []=x at hc' hq;obtain⟨fn,tmps,assign,body,hy,hQ⟩:=hY _ _ wr hq hJs;dsimp only[SN] at hy
    gi_wp2
    refine⟨rfl,hQ.mono ?_⟩;clear hQ hy;rintro e W2 (⟨rfl,hJ2⟩ |⟨rfl,hJx⟩)
    .gi_wp2
     go_roundw
     case rel=>exact⟨k+1,pT,by simp,hJ2⟩
     case measure=>
      show n- (k+1)<n-k;omega
    gi_wp2
    refine bodyPost_ret (results_none rfl _ _ _) rfl ?_;exact⟨⟨_,rfl⟩,.inr hJx⟩
   obtain rfl:k=n:=by omega
   have s1:=r1 _ _ hJs;have s2:=r2 _ _ hJs;obtain⟨fn,tmps,assign,body,hy,hQ⟩:=hY _ _ wr ql hJs;dsimp only[SN] at hy
   gi_wp2
   refine⟨rfl,hQ.mono ?_⟩;clear hQ hy;rintro e W2 (⟨rfl,hJ2⟩ |⟨rfl,hJx⟩)
   .gi_wp2
    go_end0
    exact⟨⟨_,rfl⟩,.inl (by rw[qn];exact hJ2)⟩
   gi_wp2
   go_end0
   exact⟨⟨_,rfl⟩,.inr hJx⟩
 gi_wp2
 refine bodyPost_ret (results_none rfl _ _ _) rfl ?_;exact⟨⟨_,rfl⟩,.inr hJx⟩
theorem PH: ∀(s:pP) (c:UInt8),Lib.indexByte s c<s.length/\ -1<=Lib.indexByte s c
 |[],_=>by simp [Lib.indexByte]
 |b::l,c=>by
  have:=PH l c;unfold Lib.indexByte;split
  .simp
  split
  .simp;omega
  simp only[aFV];omega
end
section
attribute [local go_sem] Oper.semAt_some
abbrev wO:Type:=(Ty.pair .str (.pair .str .unit)).den
def SO (s:(Ty.list (.pair .str (.pair .str .unit))).den):List wO:=s
def lv (it:wO):q8:=[.agg #[.string ⟨it.1.toArray⟩,.string ⟨it.2.1.toArray⟩]]
@[go_sem] def Sf (it:wO):List qQ:=[(.val (.pair .str (.pair .str .unit)) it,none)]
theorem a7h (it:wO) (g:Gh) (w:qD):vJ g w (Sf it) (lv it):=
 ⟨_,_,rfl,⟨.inl ⟨rfl,[_,_],rfl,[_],[_],rfl,rfl,[_],[],rfl,rfl,rfl⟩,trivial⟩,rfl⟩
theorem a7i:YD true prog 186 (.list (.pair .str (.pair .str .unit))) (fun d=>List.length d<=4611686018427387904) SO lv:=by
 refine⟨fun _ _=>rfl,?_⟩;intro l b o (d:List wO) cs g W0 J Jx hpre hR hrd hJd hJxd hJt hY W h0 hra;obtain⟨a,cap,rfl,hcap,hel⟩:=hR;have hpre:d.length<=4611686018427387904:=hpre;have c0:W.cell? ⟨b,o,none⟩=some (.slice a d.length cap):=by simpa using hra 0 _ rfl
 have re: ∀j,j<d.length->∃b' o',a=some ⟨b',o',none⟩/\∀i W,J i W->W.cell? ⟨b',o'+j*2,none⟩=some (.string ⟨(d.getD j ([],[],())).1.toArray⟩)/\W.cell? ⟨b',o'+j*2+1,none⟩=some (.string ⟨(d.getD j ([],[],())).2.1.toArray⟩):=by
  intro j hj;rcases hel with h|⟨b',o',h1,h2⟩
  .rw[h] at hj;cases hj
  refine⟨b',o',h1,fun i W h=>?_⟩;have hg:d[j]? =some (d.getD j ([],[],())):=by rw[aGb,aFW hj];rfl
  obtain⟨cs,k1,k2,k3,k4⟩:=MT h2 hg;generalize d.getD j ([],[],())=x at k4;obtain⟨c3,c4,rfl,e1,c5,c6,rfl,e2,e3⟩:=k4;rw[show c3=[.string ⟨x.1.toArray⟩] from e1,show c5=[.string ⟨x.2.1.toArray⟩] from e2,show c6=[] from e3] at k2;have k5:=k2 0 _ rfl;have k6:=k2 1 _ rfl;have k7:=k3 0 pU;have k8:=k3 1 pU;rw[aG0] at k5 k7;exact⟨((hrd i W h).2 _ _ k7).trans k5,((hrd i W h).2 _ _ k8).trans k6⟩
 have qm: ∀j,j<d.length->(SO d)[j]? =some (d.getD j ([],[],())):=fun j hj=>by
  show d[j]? =_;rw[aGb,aFW hj];rfl
 have qn:(SO d).length=d.length:=rfl;generalize hn:d.length=n at*;refine(callsIn_wide (n:=0)).1 (callsIn_of_wp func186 rfl trivial ?_);simp only[Tryz.ntmps186,aGT,aFV,aF8,Nat.reduceAdd,Nat.reduceSub,Array.replicate_succ,Array.replicate_zero,List.push_toArray,List.append_toArray,List.nil_append,List.cons_append]
 gi_wp2
 gi_loopw [7] (fun p wr=> ∃k:Nat,k<=n/\p= .int .i64 k/\J k wr) (fun p _=>n- (RowKit.intOf p).toNat)
 case atStart=>exact⟨0,aGS _,rfl,h0⟩
 case round=>
  obtain⟨k,hk,rfl,hJs⟩:=hrel;by_cases hlt:k<n
  .obtain⟨b',o',rfl,hce⟩:=re k hlt;obtain⟨hc1,hc2⟩:=hce _ _ hJs;have hq:=qm k hlt;clear re qm hce;generalize d.getD k ([],[],())=x at hc1 hc2 hq;have hb2:Below wr.heap.size wr (wr.alloc (.cells #[.string ⟨x.1.toArray⟩,.string ⟨x.2.1.toArray⟩] 110)):=(Below.refl _ _).alloc (aGc _) _;obtain⟨fn,tmps,assign,body,hy,hQ⟩:=hY _ _ _ _ hq hJs hb2;dsimp only[lv] at hy
   gi_wp2
   refine⟨rfl,hQ.mono ?_⟩;clear hQ hy;rintro e W2 ⟨h12,-⟩;rcases h12 with⟨rfl,hJ2⟩ |⟨rfl,hJx⟩
   .gi_wp2
    go_roundw
    case rel=>exact⟨k+1,pT,by simp,hJ2⟩
    case measure=>
     show n- (k+1)<n-k;omega
   gi_wp2
   refine bodyPost_ret (results_none rfl _ _ _) rfl ?_;exact⟨⟨_,rfl⟩,.inr hJx⟩
  obtain rfl:k=n:=by omega
  gi_wp2
  go_end0
  exact⟨⟨_,rfl⟩,.inl (by rw[qn];exact hJs)⟩
end
end Go.Proofs.YtcpbaddnmpeipaaGreatDoor
namespace Go.Proofs.YtcpbaddnmpeipaaGreatDoor
open Vc Go.RowKit
def GP (g:Gh) (k n:Nat) (v:qE):Gh:={g with cur:=fun i m=>if i=k then(if m=n then some v else none) else g.cur i m}
theorem EG (g:Gh) (k n:Nat) (v:qE):(GP g k n v).cur k n=some v:=by simp [GP]
theorem lw (g:Gh) (k n:Nat) (v:qE) {m:Nat}(h:n<m):(GP g k n v).cur k m=none:=by
 simp only[GP,aHp];rw[aFQ pT]
theorem a7j {g:Gh}{w w':qD}{e:TypeId}{l l':pQ}{n m b cap:Nat}{cur':Array qE}{side:List Prop}
  (hH:sO g w (rC 0 [.row e .str l n])) (hcur:g.cur 0 n=some (.slice (some ⟨b,0,none⟩) n cap))
  (hcm:cap<=maxLen) (hmc:m<=cap) (hl':l'.length=m)
  (hnew:w'.heap[b]? =some (.cells cur' e (0,0))) (hcs':cur'.size=cap) (htk:cur'.toList.take m=l'.map Go.Proofs.encStr) (hgr:w.grownBy w' (some b)):
  ∃g',GK g w [.row e .str l n] ⟨side,[(.own 1 m,none)],[.dead,.row e .str l' m]⟩ g' w' (.slice (some ⟨b,0,none⟩) m cap):=by
 have hg0:qS (rC 0 [qP.row e .str l n]) 0=some (.row e .str l n):=rfl;obtain⟨hl,v,xs,hc2,hown,hF,hnone,hseal⟩:=hH.blk 0 _ hg0;rw[hcur] at hc2;obtain rfl:=aFU hc2;have hb0: ∀o,zF g (rC 0 [qP.row e .str l n]) b o:=fun o=>⟨0,_,hg0,_,hcur,rfl⟩;have hNG:NG<=b:=hH.tab.2 0 _ b 0 hg0 ⟨_,hcur,rfl⟩;have hS: ∀b' o,g.S b' o->b'≠b:=fun b' o h e1=>hseal b rfl o (e1▸h);have hcell: ∀b' o,g.S b' o->w'.cell? ⟨b',o,none⟩=w.cell? ⟨b',o,none⟩:=fun b' o h=>aGf (a:=⟨b',o,none⟩) (hgr.block b' (hH.sl b' o h) (fun e1=>hS b' o h (aFU e1)));refine⟨GP g 1 m (.slice (some ⟨b,0,none⟩) m cap),fun b' o h=>⟨h,hcell b' o h⟩,⟨fun i blk h=>?_,fun i j bi bj b' o hij hi hj ho hp=>?_,fun b' o h=>aGq (hH.sl b' o h) hgr.size,JN hH.tab.1 hgr.size fun b' h=>hgr.block b' (aGq h hH.tab.1.1) (fun e1=>by have:=aFU e1;omega),fun i blk b' o h ho=>?_⟩,⟨⟨EG ..,.inr ⟨b,cap,rfl,hmc⟩⟩,trivial⟩,⟨hgr.os,hgr.tape,hgr.output,hgr.size,fun b' hb hn=>hgr.block b' hb fun e1=>hn 0 (by rw[aFU e1];exact hb0 0),fun b' o hb hn=>?_,fun b' o h=> .inl h,fun b' s h=>?_⟩,fun i blk b' o h ho=>?_,fun _ _ _ _ _=>rfl,fun i t x ts u y us h=>?_,fun i p hi h=>h,fun i q u hi h=>?_⟩
 .match i,h with
  |0,h=>cases h;trivial
  |1,h=>
   cases h;refine⟨hl',_,l'.map Go.Proofs.encStr,EG ..,⟨by simp [hl',Ty.cells],.inr ⟨b,cap,cur',rfl,aGS _,hnew,hmc,hcm,by simpa[Ty.cells] using hcs',by simpa[Ty.cells] using htk⟩⟩,lp _,fun q hq=>lw g 1 m _ hq,fun b' hb o hs=>?_⟩;cases hb;exact hseal b rfl o hs
  |i+2,h=>simp [rC,qS] at h
 .match i,j,hi,hj with
  |0,_,hi,_=>cases hi;exact ho
  |_,0,_,hj=>cases hj;exact hp
  |1,1,_,_=>exact hij rfl
  |i+2,_,hi,_=>simp [rC,qS] at hi
  |1,j+2,_,hj=>simp [rC,qS] at hj
 .match i,h with
  |0,h=>cases h;exact ho.elim
  |1,h=>
   cases h;obtain⟨v,h1,h2⟩:=ho;rw[EG] at h1;obtain rfl:=aFU h1;cases h2;exact hNG
  |i+2,h=>simp [rC,qS] at h
 .have hne:b'≠b:=fun e1=>hn (e1▸hb0 o);have:=hgr.block b' hb (fun e1=>hne (aFU e1));exact⟨aGf (a:=⟨b',o,none⟩) this,aGF (a:=⟨b',o,none⟩) this⟩
 .by_cases e1:b'=b
  .exact .inr fun o=>e1▸hb0 o
  exact .inl ((CQ (hgr.block b' (CP h) (fun e2=>e1 (aFU e2)))).trans h)
 .match i,h with
  |0,h=>cases h;exact ho.elim
  |1,h=>
   cases h;obtain⟨v,h1,h2⟩:=ho;rw[EG] at h1;obtain rfl:=aFU h1;cases h2;exact .inr (hb0 o)
  |i+2,h=>simp at h
 .match i,h with
  |0,h=>cases h
  |i+1,h=>simp at h
 match i,hi with
 |0,_=>simpa[GP] using h
theorem a7k {g:Gh}{w:qD}{e:TypeId}{l:pQ}{side:List Prop}
  (hH:sO g w (rC 0 [.row e .str l 0])) {v:qE}(hcur:g.cur 0 0=some v):
  ∃g',GK g w [.row e .str l 0] ⟨side,[(.own 1 0,none)],[.dead,.row e .str [] 0]⟩ g' w v:=by
 have hg0:qS (rC 0 [qP.row e .str l 0]) 0=some (.row e .str l 0):=rfl;obtain⟨hl,v',xs,hc2,hown,hF,hnone,hseal⟩:=hH.blk 0 _ hg0;rw[hcur] at hc2;obtain rfl:=aFU hc2;have hb0: ∀b o,v.ownBlock=some b->zF g (rC 0 [qP.row e .str l 0]) b o:=fun b o h=>⟨0,_,hg0,_,hcur,h⟩;have hv:(v= .slice none 0 0/\0=0)\/∃b cap,v= .slice (some ⟨b,0,none⟩) 0 cap/\0<=cap:=by
  rcases hown.2 with⟨h1,h2⟩ |⟨b,cap,cur,h1,_,_,h2,_⟩
  .exact .inl ⟨h1,rfl⟩
  exact .inr ⟨b,cap,h1,h2⟩
 refine⟨GP g 1 0 v,fun b' o h=>⟨h,rfl⟩,⟨fun i blk h=>?_,fun i j bi bj b' o hij hi hj ho hp=>?_,hH.sl,hH.tab.1,fun i blk b' o h ho=>?_⟩,⟨⟨EG ..,hv⟩,trivial⟩,Fr.refl _ _ _,fun i blk b' o h ho=>?_,fun _ _ _ _ _=>rfl,fun i t x ts u y us h=>?_,fun i p hi h=>h,fun i q u hi h=>?_⟩
 .match i,h with
  |0,h=>cases h;trivial
  |1,h=>
   cases h;have hx:xs=[]:=by
    have:=hown.1;simpa using this
   subst hx;exact⟨rfl,v,[],EG ..,hown,rfl,fun q hq=>lw g 1 0 _ hq,hseal⟩
  |i+2,h=>simp [rC,qS] at h
 .match i,j,hi,hj with
  |0,_,hi,_=>cases hi;exact ho
  |_,0,_,hj=>cases hj;exact hp
  |1,1,_,_=>exact hij rfl
  |i+2,_,hi,_=>simp [rC,qS] at hi
  |1,j+2,_,hj=>simp [rC,qS] at hj
 .match i,h with
  |0,h=>cases h;exact ho.elim
  |1,h=>
   cases h;obtain⟨v',h1,h2⟩:=ho;rw[EG] at h1;obtain rfl:=aFU h1;exact hH.tab.2 0 _ b' o hg0 ⟨_,hcur,h2⟩
  |i+2,h=>simp [rC,qS] at h
 .match i,h with
  |0,h=>cases h;exact ho.elim
  |1,h=>
   cases h;obtain⟨v',h1,h2⟩:=ho;rw[EG] at h1;obtain rfl:=aFU h1;exact .inr (hb0 b' o h2)
  |i+2,h=>simp at h
 .match i,h with
  |0,h=>cases h
  |i+1,h=>simp at h
 match i,hi with
 |0,_=>simpa[GP] using h
end Go.Proofs.YtcpbaddnmpeipaaGreatDoor
namespace Go.Proofs
open Go.RowKit Go.Lib
open Tryz
def Tryz.lays219_ren:Go.Shelf.Ren:=⟨fun|219=>110|217=>139|225=>140|224=>141|267=>142|266=>174|314=>175|n=>n,fun|9=>9|3=>3|4=>4|5=>5|46=>176|146=>203|51=>202|n=>n,fun|1=>0|n=>n⟩
theorem Tryz.lays219:Go.Proofs.Lays.n219 prog Tryz.lays219_ren:={
 mixed:=by kernel_rfl
 f217:=Tryz.func139.trans (aGd some qH)
 f219:=Tryz.func110.trans (aGd some qH)
 f224:=Tryz.func141.trans (aGd some qH)
 f225:=Tryz.func140.trans (aGd some qH)
 f266:=Tryz.func174.trans (aGd some qH)
 f267:=Tryz.func142.trans (aGd some qH)
 f314:=Tryz.func175.trans (aGd some qH)
 t3:=Tryz.underlying3
 a3:=Tryz.isAgg3
 z3:=Tryz.sizeOf3
 v3:=Tryz.zeroValue3
 t4:=Tryz.underlying4
 a4:=Tryz.isAgg4
 z4:=Tryz.sizeOf4
 v4:=Tryz.zeroValue4
 t5:=Tryz.underlying5
 a5:=Tryz.isAgg5
 z5:=Tryz.sizeOf5
 v5:=Tryz.zeroValue5
 t9:=Tryz.underlying9
 a9:=Tryz.isAgg9
 z9:=Tryz.sizeOf9
 v9:=Tryz.zeroValue9
 t46:=Tryz.underlying176
 a46:=Tryz.isAgg176
 z46:=Tryz.sizeOf176
 v46:=Tryz.zeroValue176
 t51:=Tryz.underlying202
 a51:=Tryz.isAgg202
 z51:=Tryz.sizeOf202
 v51:=Tryz.zeroValue202
 t146:=Tryz.underlying203
 a146:=Tryz.isAgg203
 z146:=Tryz.sizeOf203
 v146:=Tryz.zeroValue203
 g1:=by kernel_rfl}
def Tryz.lays156_ren:Go.Shelf.Ren:=⟨fun|156=>72|165=>104|166=>52|169=>53|240=>78|241=>135|276=>109|277=>172|n=>n,fun|31=>23|9=>9|3=>3|4=>4|0=>0|20=>20|72=>82|76=>88|70=>79|37=>80|75=>87|127=>115|164=>146|5=>5|80=>90|n=>n,fun|n=>n⟩
theorem Tryz.lays156:Go.Proofs.Lays.n156 prog Tryz.lays156_ren:={
 mixed:=by kernel_rfl
 f156:=Tryz.func72.trans (aGd some qH)
 f165:=Tryz.func104.trans (aGd some qH)
 f166:=Tryz.func52.trans (aGd some qH)
 f169:=Tryz.func53.trans (aGd some qH)
 f240:=Tryz.func78.trans (aGd some qH)
 f241:=Tryz.func135.trans (aGd some qH)
 f276:=Tryz.func109.trans (aGd some qH)
 f277:=Tryz.func172.trans (aGd some qH)
 t0:=Tryz.underlying0
 a0:=Tryz.isAgg0
 z0:=Tryz.sizeOf0
 v0:=Tryz.zeroValue0
 t3:=Tryz.underlying3
 a3:=Tryz.isAgg3
 z3:=Tryz.sizeOf3
 v3:=Tryz.zeroValue3
 t4:=Tryz.underlying4
 a4:=Tryz.isAgg4
 z4:=Tryz.sizeOf4
 v4:=Tryz.zeroValue4
 t9:=Tryz.underlying9
 a9:=Tryz.isAgg9
 z9:=Tryz.sizeOf9
 v9:=Tryz.zeroValue9
 t20:=Tryz.underlying20
 a20:=Tryz.isAgg20
 z20:=Tryz.sizeOf20
 v20:=Tryz.zeroValue20
 t31:=Tryz.underlying23
 a31:=Tryz.isAgg23
 z31:=Tryz.sizeOf23
 v31:=Tryz.zeroValue23
 t37:=Tryz.underlying80
 a37:=Tryz.isAgg80
 z37:=Tryz.sizeOf80
 v37:=Tryz.zeroValue80
 t70:=Tryz.underlying79
 a70:=Tryz.isAgg79
 z70:=Tryz.sizeOf79
 v70:=Tryz.zeroValue79
 t72:=Tryz.underlying82
 a72:=Tryz.isAgg82
 z72:=Tryz.sizeOf82
 v72:=Tryz.zeroValue82
 t75:=Tryz.underlying87
 a75:=Tryz.isAgg87
 z75:=Tryz.sizeOf87
 v75:=Tryz.zeroValue87
 t76:=Tryz.underlying88
 a76:=Tryz.isAgg88
 z76:=Tryz.sizeOf88
 v76:=Tryz.zeroValue88
 t127:=Tryz.underlying115
 a127:=Tryz.isAgg115
 z127:=Tryz.sizeOf115
 v127:=Tryz.zeroValue115
 t164:=Tryz.underlying146
 a164:=Tryz.isAgg146
 z164:=Tryz.sizeOf146
 v164:=Tryz.zeroValue146}
def Tryz.lays194_ren:Go.Shelf.Ren:=⟨fun|194=>164|n=>n,fun|31=>23|9=>9|3=>3|4=>4|0=>0|n=>n,fun|n=>n⟩
theorem Tryz.lays194:Go.Proofs.Lays.n194 prog Tryz.lays194_ren:={
 mixed:=by kernel_rfl
 f194:=Tryz.func164.trans (aGd some qH)
 t0:=Tryz.underlying0
 a0:=Tryz.isAgg0
 z0:=Tryz.sizeOf0
 v0:=Tryz.zeroValue0
 t3:=Tryz.underlying3
 a3:=Tryz.isAgg3
 z3:=Tryz.sizeOf3
 v3:=Tryz.zeroValue3
 t4:=Tryz.underlying4
 a4:=Tryz.isAgg4
 z4:=Tryz.sizeOf4
 v4:=Tryz.zeroValue4
 t9:=Tryz.underlying9
 a9:=Tryz.isAgg9
 z9:=Tryz.sizeOf9
 v9:=Tryz.zeroValue9
 t31:=Tryz.underlying23
 a31:=Tryz.isAgg23
 z31:=Tryz.sizeOf23
 v31:=Tryz.zeroValue23}
def Tryz.lays153_ren:Go.Shelf.Ren:=⟨fun|153=>146|152=>177|226=>178|227=>112|228=>143|137=>133|119=>199|224=>141|225=>140|217=>139|266=>174|n=>n,fun|9=>9|3=>3|4=>4|5=>5|21=>21|117=>152|116=>151|0=>0|46=>176|124=>155|n=>n,fun|n=>n⟩
theorem Tryz.lays153:Go.Proofs.Lays.n153 prog Tryz.lays153_ren:={
 mixed:=by kernel_rfl
 f119:=Tryz.func199.trans (aGd some qH)
 f137:=Tryz.func133.trans (aGd some qH)
 f152:=Tryz.func177.trans (aGd some qH)
 f153:=Tryz.func146.trans (aGd some qH)
 f217:=Tryz.func139.trans (aGd some qH)
 f224:=Tryz.func141.trans (aGd some qH)
 f225:=Tryz.func140.trans (aGd some qH)
 f226:=Tryz.func178.trans (aGd some qH)
 f227:=Tryz.func112.trans (aGd some qH)
 f228:=Tryz.func143.trans (aGd some qH)
 f266:=Tryz.func174.trans (aGd some qH)
 t0:=Tryz.underlying0
 a0:=Tryz.isAgg0
 z0:=Tryz.sizeOf0
 v0:=Tryz.zeroValue0
 t3:=Tryz.underlying3
 a3:=Tryz.isAgg3
 z3:=Tryz.sizeOf3
 v3:=Tryz.zeroValue3
 t4:=Tryz.underlying4
 a4:=Tryz.isAgg4
 z4:=Tryz.sizeOf4
 v4:=Tryz.zeroValue4
 t5:=Tryz.underlying5
 a5:=Tryz.isAgg5
 z5:=Tryz.sizeOf5
 v5:=Tryz.zeroValue5
 t9:=Tryz.underlying9
 a9:=Tryz.isAgg9
 z9:=Tryz.sizeOf9
 v9:=Tryz.zeroValue9
 t21:=Tryz.underlying21
 a21:=Tryz.isAgg21
 z21:=Tryz.sizeOf21
 v21:=Tryz.zeroValue21
 t46:=Tryz.underlying176
 a46:=Tryz.isAgg176
 z46:=Tryz.sizeOf176
 v46:=Tryz.zeroValue176
 t116:=Tryz.underlying151
 a116:=Tryz.isAgg151
 z116:=Tryz.sizeOf151
 t117:=Tryz.underlying152
 a117:=Tryz.isAgg152
 z117:=Tryz.sizeOf152
 v117:=Tryz.zeroValue152
 t124:=Tryz.underlying155
 a124:=Tryz.isAgg155
 z124:=Tryz.sizeOf155
 v124:=Tryz.zeroValue155}
theorem Tryz.builderExtraJ:Builder.Extra prog Tryz.lays156_ren:={
 sizeBuilder:=by kernel_rfl
 liesBuilder:=by kernel_rfl
 t5:=Tryz.underlying5
 a5:=Tryz.isAgg5
 z5:=Tryz.sizeOf5
 v5:=Tryz.zeroValue5
 infoByte:=by kernel_rfl
 cellsByte:=by kernel_rfl
 sizeByte:=by kernel_rfl
 neB5:=by decide}
def Tryz.lays106_ren:Go.Shelf.Ren:=⟨fun|106=>153|213=>187|265=>205|n=>n,fun|9=>9|3=>3|n=>n,fun|n=>n⟩
theorem Tryz.lays106:Go.Proofs.Lays.n106 prog Tryz.lays106_ren:={
 mixed:=by kernel_rfl
 f106:=Tryz.func153.trans (aGd some qH)
 f213:=Tryz.func187.trans (aGd some qH)
 f265:=Tryz.func205.trans (aGd some qH)
 t3:=Tryz.underlying3
 a3:=Tryz.isAgg3
 z3:=Tryz.sizeOf3
 v3:=Tryz.zeroValue3
 t9:=Tryz.underlying9
 a9:=Tryz.isAgg9
 z9:=Tryz.sizeOf9
 v9:=Tryz.zeroValue9}
end Go.Proofs
namespace Go.Proofs.YtcpbaddnmpeipaaGreatDoor
open Vc Go.RowKit
open Tryz
theorem a7l {g:Gh}{w:qD}{e:TypeId}{l:pQ}{n:Nat}{v:qE}(hH:sO g w (rC 0 [.row e .str l n])) (hv:rX g w (.own 0 n,none) v):
  l.length=n/\g.cur 0 n=some v/\((v= .slice none 0 0/\n=0)\/∃b cap cur,v= .slice (some ⟨b,0,none⟩) n cap/\w.heap[b]? =some (.cells cur e (0,0))/\n<=cap/\cap<=maxLen/\cur.size=cap/\Go.Sort.Holds Go.Proofs.encStr w b 0 l.toArray/\b<w.heap.size):=by
 have hg0:qS (rC 0 [qP.row e .str l n]) 0=some (.row e .str l n):=rfl;obtain⟨hl,v',xs,hcur,hown,hF,hnone,hseal⟩:=hH.blk 0 _ hg0;have hva:v=v':=by
  have:=hv.1.1;rw[hcur] at this;exact(aFU this).symm
 subst hva;subst hl;refine⟨rfl,hcur,?_⟩;obtain⟨hx,⟨rfl,h0⟩ |⟨b,cap,cur,rfl,hb0,hbk,hnc,hcm,hcs,htk⟩⟩:=hown
 .exact .inl ⟨rfl,h0⟩
 have hxs:=ln hF;subst hxs;have hc1:(Ty.str).cells=1:=rfl;rw[hc1,aHy] at hcs htk;refine .inr ⟨b,cap,cur,rfl,hbk,hnc,hcm,hcs,?_,?_⟩
 .intro j hj;have hj':j<l.length:=by simpa using hj
  refine⟨?_,Lib.frozen_of_heap hbk _⟩;rw[Lib.cell_of_heap hbk,aGk];have h2:(cur.toList.take l.length)[j]? =(l.map Go.Proofs.encStr)[j]? :=by rw[htk]
  rw[aGQ hj',aGX] at h2;rw[h2];simp [hj']
 rcases aG6 b w.heap.size with h|h
 .exact h
 rw[Array.getElem?_eq_none h] at hbk;cases hbk
theorem a7m {g:Gh}{w:qD}{e:TypeId}{l l':pQ}{n q b cap:Nat}{cur:Array qE}{side:List Prop}{pad:pQ}
  (hH:sO g w (rC 0 [.row e .str l n])) (hcur:g.cur 0 n=some (.slice (some ⟨b,0,none⟩) n cap)) (hbk:w.heap[b]? =some (.cells cur e (0,0))) (hcs:cur.size=cap)
  (hcm:cap<=maxLen) (hp:l'.length+pad.length<=cap):
  ∃g',GK g w [.row e .str l n] ⟨side,[(.own 1 l'.length,none)],[.dead,.row e .str l' l'.length]⟩ g' (Go.Sort.putRow Go.Proofs.encStr (Go.Sort.ahead w q) b 0 (l'++pad).toArray) (.slice (some ⟨b,0,none⟩) l'.length cap):=by
 refine a7j (cur':=Go.Sort.putCells Go.Proofs.encStr 0 (l'++pad).toArray cur) hH hcur hcm pT rfl ?_ (by simpa[Go.Sort.putCells] using hcs) ?_ ⟨rfl,rfl,rfl,by simp,fun k hk hne=>?_⟩
 .simp [Go.Sort.putRow,Go.Sort.mapBlock,aGY,hbk,Go.Sort.onCells]
 .have h1:=Rq (l'++pad) cur (by rw[aFR];omega);have h2:=aGd (List.take l'.length) h1;rw[List.take_take,aFR,Nat.min_eq_left (Nat.le_add_right _ _),List.map_append,aHC pV] at h2;exact h2.trans (List.take_of_length_le pV)
 have hkb:b≠k:=fun h=>hne (by rw[h]);simp [Go.Sort.putRow,Go.Sort.mapBlock,aGY,hkb]
@[go_sem] def YE:List qQ->List qP->Option r5
 |[(.own 0 n,none)],[.row 9 .str l n2]=>some ⟨[n=n2,n2<=9223372036854775807],[(.own 1 (List.length (Lib.compact l)),none)],[.dead,.row 9 .str (Lib.compact l) (List.length (Lib.compact l))]⟩
 |_,_=>none
theorem Sg:xJ prog 164 YE:=by
 refine⟨fun _ _=>rfl,fun g w args vals L r hH ha hC hs=>?_⟩;unfold YE at hC;split at hC
 .rename_i n l n2;cases hC;obtain rfl:n=n2:=hs _ pV;have hn:=hs (n<=9223372036854775807) pV;clear hs;obtain⟨va,_,rfl,ra,hv⟩:=ha;cases hv;obtain⟨hl,hcur,⟨rfl,rfl⟩ |⟨b,cap,cur,rfl,hbk,hnc,hcm,hcs,hho,hb⟩⟩:=a7l hH ra
  .obtain rfl:l=[]:=aGJ.1 hl;refine(Any.slices_Compact_string_empty Tryz.lays194 none 0 w).mono ?_;rintro en w' ⟨rfl,rfl⟩;obtain⟨g',hg⟩:=a7k (side:=[]) hH hcur;exact⟨_,g',rfl,hg.shut,hg.heap,hg.ret,hg.fr,hg.perm,hg.J,hg.ty,hg.Jt,hg.cur⟩
  subst hl;refine(Any.slices_Compact_string Tryz.lays194 b 0 cap l w hho hn hnc).mono ?_;rintro en w' ⟨rfl,q,rfl⟩;obtain⟨g',hg⟩:=a7m (side:=[]) (q:=q) (l':=Lib.compact l) (pad:=List.replicate (l.length- (Lib.compact l).length) []) hH hcur hbk hcs hcm (by have:=Lib.compact_length_le l;simp;omega);exact⟨_,g',rfl,hg.shut,hg.heap,hg.ret,hg.fr,hg.perm,hg.J,hg.ty,hg.Jt,hg.cur⟩
 cases hC
@[go_sem] def YF:List qQ->List qP->Option r5
 |[(.val .str O,none),(.val .str Z,none)],[]=>some ⟨[List.length O<4294967281],[(.val (.int .i64) (GO O Z),none)],[]⟩
 |_,_=>none
theorem Sh:xJ prog 110 YF:=by
 refine IJ (fun _ _=>rfl) fun g w args vals L r hT ha hC hs=>?_;unfold YF at hC;split at hC
 .rename_i s c;cases hC;have h1:=hs _ aGa;obtain⟨va,_,rfl,ra,vb,_,rfl,rb,hv⟩:=ha;obtain rfl:=x7 ra.1;obtain rfl:=x7 rb.1;cases hv;obtain⟨m,hm⟩:=hT.2.2.1;exact⟨rfl,rfl,(Y5 (Any.stringslite_Index Tryz.lays219 ⟨List.toArray s⟩ ⟨List.toArray c⟩ m w h1 hm)).mono fun e w' ⟨he,hb⟩=>⟨_,he,hb,wN _ _ _ _,trivial⟩⟩
 cases hC
def y9 (l:pQ) (sep:pP):pP:=Lib.join l sep
@[go_sem] def YG:List qQ->List qP->Option r5
 |[(.val (.list .str) l,none),(.val .str c,none)],[]=>some ⟨[List.length l<=140737488355328/\List.length (y9 l c)<=140737488355328],[(.val .str (y9 l c),none)],[]⟩
 |_,_=>none
theorem Si:xJ prog 72 YG:=by
 refine IJ (fun _ _=>rfl) fun g w args vals L r hT ha hC hs=>?_;unfold YG at hC;split at hC
 .rename_i l c;cases hC;obtain⟨h1,h2⟩:=hs _ aGa;obtain⟨va,_,rfl,ra,vb,_,rfl,rb,hv⟩:=ha;obtain⟨a,cap,rfl,hcap,hlist⟩:=F4 ra.1;obtain rfl:=x7 rb.1;cases hv;refine⟨rfl,rfl,?_⟩;unfold y9 at h2;have hxm:(l.map fun x=>(⟨x.toArray⟩:ByteArray)).map (·.data.toList)=l:=by
   rw[List.map_map];exact(List.map_congr_left fun x _=>rfl).trans (List.map_id l)
  rcases l with _|⟨x,_|⟨y,r⟩⟩
  .exact(Y5 (Any.strings_Join_none Tryz.lays156 Tryz.builderExtraJ a cap ⟨List.toArray c⟩ w)).mono fun e w' ⟨he,hb⟩=>⟨_,he,hb,DC _ _ _,trivial⟩
  .rcases hlist with h|⟨b,o,rfl,hL⟩
   .cases h
   obtain⟨cs,k1,k2,k3,k4⟩:=MT hL (i:=0) (x:=x) rfl;rw[show cs=[.string ⟨List.toArray x⟩] from k4] at k2;have k5:=k2 0 _ rfl;rw[Nat.zero_mul,aG0] at k5;exact(Y5 (Any.strings_Join_one Tryz.lays156 Tryz.builderExtraJ b o cap ⟨List.toArray x⟩ ⟨List.toArray c⟩ w k5)).mono fun e w' ⟨he,hb⟩=>⟨_,he,hb,(by rw[show y9 [x] c=x from Lib.join_one x c];exact DC _ _ _),trivial⟩
  rcases hlist with h|⟨b,o,rfl,hL⟩
  .cases h
  have hc: ∀(j:Nat) z,((x::y::r).map fun x=>(⟨List.toArray x⟩:ByteArray))[j]? =some z->w.cell? ⟨b,o+j,none⟩=some (.string z):=by
   intro j z hz;rw[List.getElem?_map] at hz;obtain⟨u,hu,rfl⟩:=aF6.1 hz;obtain⟨cs,k1,k2,k3,k4⟩:=MT hL hu;rw[show cs=[.string ⟨List.toArray u⟩] from k4] at k2;have k5:=k2 0 _ rfl;rw[aG0,show j*Ty.str.cells=j from aHy j] at k5;exact k5
  have h0:=hc 0 _ rfl;have:=Any.strings_Join_many Tryz.lays156 Tryz.builderExtraJ b o cap ((x::y::r).map fun x=>(⟨List.toArray x⟩:ByteArray)) ⟨List.toArray c⟩ w hc (World.block_lt_of_cell? _ _ h0) pV (by simpa using h1) (by simpa using hcap) (by rw[hxm];exact h2);rw[hxm] at this;rw[aGV] at this;exact this.mono fun e w' ⟨he,hb⟩=>⟨_,he,hb,DC _ _ _,trivial⟩
 cases hC
end Go.Proofs.YtcpbaddnmpeipaaGreatDoor
namespace Go.Proofs
open Go.RowKit Go.Lib Go.Shelf
def Tryz.sortFld_ren:Go.Shelf.Ren:=⟨fun|6=>185|15=>192|14=>204|28=>217|29=>218|20=>228|21=>229|22=>230|23=>231|24=>232|25=>233|26=>234|27=>235|46=>249|47=>237|48=>238|49=>250|50=>251|57=>256|n=>n,fun|22=>24|24=>110|25=>188|3=>3|39=>176|0=>0|53=>202|55=>241|4=>4|46=>234|45=>233|50=>54|5=>5|9=>9|66=>255|70=>259|76=>268|77=>140|n=>n,fun|n=>n⟩
theorem Tryz.sortFld:Go.Proofs.SlLaysF0.n6 Tryz.prog Tryz.sortFld_ren:={
 mixed:=by kernel_rfl
 f6:=⟨Tryz.f185.name,pU,Tryz.func185.trans (aGd some qH)⟩
 f14:=⟨Tryz.f204.name,pU,Tryz.func204.trans (aGd some qH)⟩
 f15:=Tryz.func192.trans (aGd some qH)
 f20:=⟨Tryz.f228.name,pU,Tryz.func228.trans (aGd some qH)⟩
 f21:=⟨Tryz.f229.name,pU,Tryz.func229.trans (aGd some qH)⟩
 f22:=⟨Tryz.f230.name,pU,Tryz.func230.trans (aGd some qH)⟩
 f23:=⟨Tryz.f231.name,pU,Tryz.func231.trans (aGd some qH)⟩
 f24:=⟨Tryz.f232.name,pU,Tryz.func232.trans (aGd some qH)⟩
 f25:=⟨Tryz.f233.name,pU,Tryz.func233.trans (aGd some qH)⟩
 f26:=⟨Tryz.f234.name,pU,Tryz.func234.trans (aGd some qH)⟩
 f27:=⟨Tryz.f235.name,pU,Tryz.func235.trans (aGd some qH)⟩
 f28:=Tryz.func217.trans (aGd some qH)
 f29:=Tryz.func218.trans (aGd some qH)
 f46:=⟨Tryz.f249.name,pU,Tryz.func249.trans (aGd some qH)⟩
 f47:=Tryz.func237.trans (aGd some qH)
 f48:=Tryz.func238.trans (aGd some qH)
 f49:=⟨Tryz.f250.name,pU,Tryz.func250.trans (aGd some qH)⟩
 f50:=⟨Tryz.f251.name,pU,Tryz.func251.trans (aGd some qH)⟩
 f57:=⟨Tryz.f256.name,pU,Tryz.func256.trans (aGd some qH)⟩
 t0:=Tryz.underlying0
 a0:=Tryz.isAgg0
 z0:=Tryz.sizeOf0
 v0:=Tryz.zeroValue0
 t3:=Tryz.underlying3
 a3:=Tryz.isAgg3
 z3:=Tryz.sizeOf3
 v3:=Tryz.zeroValue3
 t4:=Tryz.underlying4
 a4:=Tryz.isAgg4
 z4:=Tryz.sizeOf4
 v4:=Tryz.zeroValue4
 t5:=Tryz.underlying5
 a5:=Tryz.isAgg5
 z5:=Tryz.sizeOf5
 v5:=Tryz.zeroValue5
 t9:=Tryz.underlying9
 a9:=Tryz.isAgg9
 z9:=Tryz.sizeOf9
 v9:=Tryz.zeroValue9
 t22:=Tryz.underlying24
 a22:=Tryz.isAgg24
 z22:=Tryz.sizeOf24
 v22:=Tryz.zeroValue24
 t25:=Tryz.underlying188
 a25:=Tryz.isAgg188
 z25:=Tryz.sizeOf188
 v25:=Tryz.zeroValue188
 t39:=Tryz.underlying176
 a39:=Tryz.isAgg176
 z39:=Tryz.sizeOf176
 v39:=Tryz.zeroValue176
 t45:=Tryz.underlying233
 a45:=Tryz.isAgg233
 z45:=Tryz.sizeOf233
 v45:=Tryz.zeroValue233
 t46:=Tryz.underlying234
 a46:=Tryz.isAgg234
 z46:=Tryz.sizeOf234
 v46:=Tryz.zeroValue234
 t50:=Tryz.underlying54
 a50:=Tryz.isAgg54
 z50:=Tryz.sizeOf54
 v50:=Tryz.zeroValue54
 t53:=Tryz.underlying202
 a53:=Tryz.isAgg202
 z53:=Tryz.sizeOf202
 v53:=Tryz.zeroValue202
 t55:=Tryz.underlying241
 a55:=Tryz.isAgg241
 z55:=Tryz.sizeOf241
 v55:=Tryz.zeroValue241
 t66:=Tryz.underlying255
 a66:=Tryz.isAgg255
 z66:=Tryz.sizeOf255
 v66:=Tryz.zeroValue255
 t70:=Tryz.underlying259
 a70:=Tryz.isAgg259
 z70:=Tryz.sizeOf259
 v70:=Tryz.zeroValue259
 t76:=Tryz.underlying268
 a76:=Tryz.isAgg268
 z76:=Tryz.sizeOf268
 v76:=Tryz.zeroValue268
 t77:=Tryz.underlying140
 a77:=Tryz.isAgg140
 z77:=Tryz.sizeOf140
 v77:=Tryz.zeroValue140}
end Go.Proofs
namespace Go.Proofs.YtcpbaddnmpeipaaGreatDoor
open Vc Go.RowKit Go.Sort
def EH (x y:wO):Int:=Lib.compareBytes x.1 y.1
theorem lx: ∀(a b:pP),Lib.compareBytes a b<0↔a<b
 |[],[]=>by simp [Lib.compareBytes]
 |[],_::_=>by simp [Lib.compareBytes]
 |_::_,[]=>by simp [Lib.compareBytes]
 |a::u,b::bs=>by
  rw[List.cons_lt_cons_iff];unfold Lib.compareBytes;by_cases h1:a<b
  .simp [h1]
  by_cases h2:b<a
  .have: ¬a=b:=fun e=>by subst e;exact h1 h2
   simp [h1,h2,this]
  have:a=b:=UInt8.le_antisymm (by simpa using h2) (by simpa using h1);subst this;simp only[h1,aHW,false_or,true_and];exact lx u bs
theorem ly (x y:wO):ltOf EH x y=decide (x.1<y.1):=by
 unfold ltOf EH;rw[aHq];exact lx _ _
theorem Sj:SWO (ltOf EH) where
 irrefl x:=by rw[ly];simp [List.lt_irrefl]
 trans x y z h1 h2:=by
  rw[ly,aFY] at*;exact List.lt_trans h1 h2
 ntrans x y z h1 h2:=by
  rw[ly,aGu,List.not_lt] at*;exact List.le_trans h2 h1
def N6 (x:wO):q8:=[.string ⟨x.1.toArray⟩,.string ⟨x.2.1.toArray⟩]
def yU:List wO->q8
 |[]=>[]
 |x::l=> .string ⟨x.1.toArray⟩:: .string ⟨x.2.1.toArray⟩::yU l
theorem KF: ∀l:List wO,(yU l).length=l.length*2
 |[]=>rfl
 |x::l=>by simp only[yU,aFV,KF l];omega
theorem Sk: ∀(l:List wO) (t:Nat),t<l.length*2->(yU l)[t]? =(N6 (l.getD (t/2) default))[t%2]?
 |[],t,h=>by simp at h
 |x::l,0,_=>rfl
 |x::l,1,_=>rfl
 |x::l,t+2,h=>by
  have h':t<l.length*2:=by simp only[aFV] at h;omega
  have e1:(t+2) /2=t/2+1:=by omega
  have e2:(t+2) %2=t%2:=by omega
  rw[e1,e2];simp only[yU,aGC,List.getD_cons_succ];exact Sk l t h'
theorem Sl (l:List wO):flatK N6 2 l.toArray=(yU l).toArray:=by
 refine ext_get! (by simp [KF]) fun t ht=>?_;have ht':t<l.length*2:=by simpa using ht
 rw[get_flatK _ _ _ t (by simpa using ht')];have hq:t<(yU l).length:=by rw[KF];exact ht'
 have h1:=Sk l t ht';have e1:(yU l).toArray[t]! =(yU l)[t]:=by simp [hq]
 rw[e1];rw[aFW hq] at h1;have e2:l.toArray[t/2]! =l.getD (t/2) default:=by simp [aGb]
 rw[e2];have h2:t%2<(N6 (l.getD (t/2) default)).length:=by show _<2;omega
 rw[aFW h2] at h1;rw[getElem!_pos (N6 (l.getD (t/2) default)) (t%2) h2];exact(aFU h1).symm
theorem YH {g:Gh}{w:qD}: ∀{l:List wO}{xs:q8},uI (Rd g w (.pair .str (.pair .str .unit))) 2 l xs->xs=yU l
 |[],_,h=>h
 |x::l,_,⟨c1,c2,e,_,h2,h3⟩=>by
  obtain⟨d1,d2,e1,k1,d3,d4,e2,k2,k3⟩:=h2;rw[e,e1,e2,show d1=_ from k1,show d3=_ from k2,show d4=_ from k3,YH h3];rfl
theorem YI {g:Gh}{w:qD}: ∀(l:List wO),uI (Rd g w (.pair .str (.pair .str .unit))) 2 l (yU l)
 |[]=>rfl
 |x::l=>⟨[.string ⟨x.1.toArray⟩,.string ⟨x.2.1.toArray⟩],_,rfl,rfl,⟨[_],[_],rfl,rfl,[_],[],rfl,rfl,rfl⟩,YI l⟩
theorem a7n (s:q8) (cur:Array qE) (h:s.length<=cur.size):(Go.Sort.putCells id 0 s.toArray cur).toList.take s.length=s:=by
 apply List.ext_getElem
 .simp [Go.Sort.putCells];omega
 intro i h1 h2;simp only[Go.Sort.putCells,List.getElem_take,Array.getElem_toList,Array.getElem_mapIdx];rw[aFP (by simp;exact h2)];simp [h2]
theorem a7o (x y:wO) (W:qD):Calls Tryz.prog 152 #[.agg #[.string ⟨x.1.toArray⟩,.string ⟨x.2.1.toArray⟩],.agg #[.string ⟨y.1.toArray⟩,.string ⟨y.2.1.toArray⟩]] W fun e w'=>e= .returned (.int .i64 (EH x y))/\∃q os',w'=grow (W.drewN q) os':=by
 have hcon:=fun W'=>Any.strings_Compare Tryz.lays106 ⟨x.1.toArray⟩ ⟨y.1.toArray⟩ W';change ∀W',Calls Tryz.prog 153 _ _ _ at hcon;have e0:Lib.compareBytes (⟨x.1.toArray⟩:ByteArray).data.toList (⟨y.1.toArray⟩:ByteArray).data.toList=EH x y:=rfl;rw[e0] at hcon;generalize EH x y=r at hcon|-
 go_enter Tryz.func152,Tryz.ntmps152
 go_wp2_with (go_at_call 153;refine(hcon _).mono ?_;rintro e w' ⟨rfl,rfl⟩)
 go_ret
 exact⟨rfl,0,_,by rw[alloc_eq_grow,alloc_eq_grow,grow_grow];rfl⟩
def vX (l:List wO):List wO:=(pdq (ltOf EH) l.toArray 0 l.length (Lib.bitLen l.length) true true).toList
theorem Sm (l:List wO):PermIn 0 l.length l.toArray (vX l).toArray/\SortedIn (ltOf EH) 0 l.length (vX l).toArray:=by
 have h:=pdq_sorts (ltOf EH) Sj l.toArray 0 l.length (Lib.bitLen l.length) true true (aGS _) pV (Or.inl rfl);unfold vX;exact⟨h.1,h.2⟩
theorem YJ (l:List wO):(vX l).length=l.length:=by
 have:=(Sm l).1.1;simpa using this
theorem a7p {g:Gh}{w:qD}{e:TypeId}{l:List wO}{v:qE}{xs:q8}(hown:w.ownsRow 0 e 2 v l.length xs) (hF:uI (Rd g w (.pair .str (.pair .str .unit))) 2 l xs) (hn:l.length<4611686018427387904):
  Calls Tryz.prog 185 #[v,.func (.func 152) #[] #[]] w (fun en w'=>en= .returned (.tuple #[])/\w'.ownsRow 0 e 2 v l.length (yU (vX l))/\w.grownBy w' v.ownBlock):=by
 have hlen:=YJ l;have hxs:=YH hF;subst hxs;obtain⟨hx,⟨rfl,h0⟩ |⟨b,cap,cur,rfl,hb0,hbk,hnc,hcm,hcs,htk⟩⟩:=hown
 .obtain rfl:l=[]:=aGJ.1 h0;have e0:vX []=[]:=aGJ.1 hlen;rw[e0];refine(AnyF.slices_SortFunc_none Tryz.sortFld none 0 (.func (.func 152) #[] #[]) w).mono ?_;rintro en w' ⟨rfl,rfl⟩;exact⟨rfl,⟨rfl,.inl ⟨rfl,rfl⟩⟩,rfl,rfl,rfl,aGc _,fun _ _ _=>rfl⟩
 have hbl:b<w.heap.size:=by
  rcases aG6 b w.heap.size with h|h
  .exact h
  rw[Array.getElem?_eq_none h] at hbk;cases hbk
 have hfl:=KF l;have hH:HoldsK N6 2 w b 0 l.toArray:=by
  unfold HoldsK;rw[Sl];intro j hj;have hj':j<(yU l).length:=by simpa using hj
  refine⟨?_,Lib.frozen_of_heap hbk _⟩;rw[Lib.cell_of_heap hbk,aGk];have h2:(cur.toList.take (l.length*2))[j]? =(yU l)[j]? :=by rw[htk]
  rw[aGQ pT,aGX] at h2;rw[h2];simp [hj']
 have eg: ∀args w,(callFunc 152 args).run Tryz.prog w= .ok (.enter 152 args) w:=fun _ _=>rfl;refine(AnyQ.slices_SortFunc_eq Tryz.sortFld 2 Tryz.isAgg110 Tryz.sizeOf110 N6 (fun _=>rfl) (fun x v hv=>by simp [N6] at hv;rcases hv with rfl|rfl<;>rfl) EH Sj 152 #[] b 0 cap l.toArray w eg (fun _ _ _ _ x y=>a7o x y _) hH hbl (by simpa using hn)).mono ?_
 rintro en w' ⟨rfl,m,os,hw⟩;have hd:pdq (ltOf EH) l.toArray 0 l.toArray.size (Lib.bitLen l.toArray.size) true true=(vX l).toArray:=by
  unfold vX;simp
 rw[hd] at hw;unfold sortWorldK putRowK at hw;rw[Sl] at hw;subst hw;have hsz:(yU (vX l)).length<=cur.size:=by rw[KF,hlen,hcs];exact aHa 2 hnc
 have hnew:(grow (putRow id (Go.Sort.ahead w m) b 0 (yU (vX l)).toArray) os).heap[b]? =some (.cells (putCells id 0 (yU (vX l)).toArray cur) e (0,0)):=by
  rw[heap_grow_old _ _ (by simpa using hbl)];simp [putRow,mapBlock,aGY,hbk,onCells]
 refine⟨rfl,⟨by rw[KF,hlen],.inr ⟨b,cap,_,rfl,hb0,hnew,hnc,hcm,?_,?_⟩⟩,rfl,rfl,rfl,by simp,fun k hk hne=>?_⟩
 .simpa[putCells] using hcs
 .have:=a7n (yU (vX l)) cur hsz;rwa [KF,hlen] at this
 rw[heap_grow_old _ _ (by simpa using hk)];have hkb:b≠k:=fun h=>hne (by rw[h];rfl);simp [putRow,mapBlock,aGY,hkb]
@[go_sem] def lz:List qQ->List qP->Option r5
 |[(.own 0 n,none),(.val .clo (some (152,[])),none)],[.row e (.pair .str (.pair .str .unit)) l n2]=>some ⟨[n=n2,List.length l<4611686018427387904],[],[.row e (.pair .str (.pair .str .unit)) (vX l) n2]⟩
 |_,_=>none
theorem a7q {g:Gh}{k n:Nat}{v:qE}(h:g.cur k n=some v):g.tok k n v=g:=by
 have:(fun k' n'=>if k'=k/\n'=n then some v else g.cur k' n')=g.cur:=by
  funext k' n';split
  .rename_i e;rw[e.1,e.2,h]
  rfl
 show ({g with cur:=_}:Gh)=g
 cases g;simp only at this;simp only[this]
theorem a7r:xJ Tryz.prog 185 lz:=by
 refine⟨fun _ _=>rfl,fun g w args vals L r hH ha hC hs=>?_⟩;unfold lz at hC;split at hC
 .rename_i n e l n2;cases hC;obtain rfl:n=n2:=hs _ pV;have hn:=hs (List.length l<4611686018427387904) pV;clear hs;obtain⟨va,_,rfl,ra,vb,_,rfl,rb,hv⟩:=ha;cases hv;obtain rfl:vb= .func (.func 152) #[] #[]:=by
   rcases rb.1 with⟨h1,_⟩ |⟨_,vs,h2,h3⟩
   .cases h1
   rw[show vs=[] from h2] at h3;simpa using h3
  have hg0:qS (rC 0 [qP.row e (.pair .str (.pair .str .unit)) l n]) 0=some (.row e (.pair .str (.pair .str .unit)) l n):=rfl;obtain⟨hl,v,xs,hcur,hown,hF,hnone,hseal⟩:=hH.blk 0 _ hg0;subst hl;have hva:va=v:=by
   have:=ra.1.1;rw[hcur] at this;exact(aFU this).symm
  subst hva;have hlen:=YJ l;refine(a7p hown hF hn).mono ?_;rintro en w' ⟨rfl,k1,k3⟩;have hownk: ∀b,va.ownBlock=some b->∀o,t7 g (rC 0 [qP.row e (.pair .str (.pair .str .unit)) l (List.length l)]) [0] b o:=fun b hb o=>⟨0,_,by simp,hg0,va,hcur,hb⟩;have hE:=rU.row (side:=[]) (rds:=[]) (s:=(.tup [],none)) (val:= .tuple #[]) (v:=va) (xs:=yU (vX l)) (l:=vX l) hH hlen k1 (YI _) hnone (fun u hu=>by rw[hcur] at hu;exact(aFU hu).symm) (.inr ⟨va.ownBlock,k3,hownk⟩) (fun b o hS=>by
   have hne:va.ownBlock≠some b:=fun e=>hseal b e o hS;exact aGf (a:=⟨b,o,none⟩) (k3.block b (hH.sl b o hS) (fun e=>hne e.symm))) hseal (fun b hb=> .inr (hownk b hb)) ⟨⟨[],rfl,rfl⟩,trivial⟩
  rw[a7q hcur] at hE;refine⟨_,g,rfl,Rs hE ?_ ?_ rfl ?_ ?_ ?_⟩
  .intro i;cases i with
   |zero=>rfl
   |succ i=>rfl
  .intro i hi;simp only[qU,aF1,aHj,or_false] at hi;subst hi;exact Nat.zero_lt_one
  .intro i blk b o hi ho;cases i with
   |zero=>
    cases hi;obtain⟨u,hu,hub⟩:=ho;exact .inr ⟨0,_,hg0,u,hu,hub⟩
   |succ i=>cases hi
  .intro i t x ts u y us hi hi2;cases i with
   |zero=>cases hi
   |succ i=>cases hi
  exact⟨[],rfl,rfl⟩
 cases hC
end Go.Proofs.YtcpbaddnmpeipaaGreatDoor
namespace Go.Proofs.YtcpbaddnmpeipaaGreatDoor
open Vc
open Tryz
namespace Bs
noncomputable section
@[go_sem] abbrev tE:Ty:=(.pair .str (.pair .str (.pair .str (.pair (.list .str) (.pair (.list .str) (.pair (.int .i64) (.pair (.list (.pair .str (.pair .str .unit))) .unit)))))))
@[go_sem] abbrev DE:Ty:=(.pair .str (.pair (.list .str) (.pair (.list (.pair .str (.pair .str .unit))) (.pair (.list tE) .unit))))
@[go_sem] abbrev BR:Ty:=(.pair .str (.pair (.list .str) (.pair .str .unit)))
@[go_sem] abbrev x9:Ty:=(.pair .mref (.pair (.list (.int .u8)) .unit))
abbrev r9:Type:=(pP×(pP×Unit))
abbrev sQ:Type:=(pP×(pP×(pP×(pQ×(pQ×(Int×((List r9)×Unit)))))))
abbrev IK:Type:=(pP×(pQ×(pP×Unit)))
abbrev sN:Type:=(pP×(pQ×((List r9)×((List sQ)×Unit))))
@[go_sem] abbrev YK:Nat×TI:=(24,⟨(.list (.pair .str (.pair .str .unit))),110,32,true,[]⟩)
theorem Sn:tU prog YK.1 YK.2:=⟨qH,(show _/\_/\_ from⟨qH,qH,qH⟩)⟩
@[go_sem] abbrev BS:Nat×TI:=(110,⟨(.pair .str (.pair .str .unit)),0,1,false,[]⟩)
theorem FB:tU prog BS.1 BS.2:=⟨qH,(show ((_/\∃_,_/\_)\/_)/\_ from⟨.inl ⟨rfl,_,Tryz.underlying110,(show _/\_/\_/\_ from⟨rfl,qH,qH,(show _/\_/\_/\_ from⟨rfl,qH,qH,trivial⟩)⟩)⟩,(fun _=>⟨qH,1,pU,(.struct rfl Tryz.underlying110 qH (.cons pU rfl qH qH (.str Tryz.underlying9) (.cons pU rfl qH qH (.str Tryz.underlying9) .nil)))⟩)⟩)⟩
@[go_sem] abbrev wX:Nat×TI:=(24,⟨(.list (.pair .str (.pair .str .unit))),110,32,false,[]⟩)
theorem yV:tU prog wX.1 wX.2:=⟨qH,(show _/\_/\_ from⟨qH,qH,qH⟩)⟩
theorem rL:Tryz.prog.follows .mixedOrders=true:=by kernel_rfl
@[go_sem] abbrev N7:Nat×rM:=(133,⟨[.v,.v],Y6,[],[],none⟩)
theorem SP:rS prog N7:=⟨Rn,fun _ h=>by cases h⟩
@[go_sem] abbrev SQ:Nat×rM:=(80,⟨[.v,.v],Y7,[],[],none⟩)
theorem ma:rS prog SQ:=⟨Ro,fun _ h=>by cases h⟩
@[go_sem] abbrev YL:Nat×rM:=(168,⟨[.v],Y8,[],[],none⟩)
theorem So:rS prog YL:=⟨Rp,fun _ h=>by cases h⟩
@[go_sem] abbrev YM:Nat×rM:=(110,⟨[.v,.v],YF,[],[],none⟩)
theorem Sp:rS prog YM:=⟨Sh,fun _ h=>by cases h⟩
@[go_sem] abbrev YN:Nat×rM:=(72,⟨[.v,.v],YG,[],[],none⟩)
theorem Sq:rS prog YN:=⟨Si,fun _ h=>by cases h⟩
@[go_sem] abbrev PI:Nat×rM:=(78,⟨[.p x9 [1]],Y9,[],[],none⟩)
theorem YO:rS prog PI:=⟨Rt,fun _ h=>by cases h⟩
@[go_sem] abbrev N8:Nat×rM:=(53,⟨[.p x9 [1]],YA,[],[],none⟩)
theorem SR:rS prog N8:=⟨Rw,fun _ h=>by cases h⟩
@[go_sem] abbrev Sr:Nat×rM:=(185,⟨[.r,.v],lz,[],[],none⟩)
theorem a7s:rS prog Sr:=⟨a7r,fun _ h=>by cases h⟩
@[go_sem] abbrev SS:Nat×rM:=(164,⟨[.r],YE,[],[],none⟩)
theorem Ss:rS prog SS:=⟨Sg,fun _ h=>by cases h⟩
@[go_sem] abbrev ST:Nat×rM:=(163,⟨[.v],ll,[],[],some lm⟩)
theorem Su:rS prog ST:=Rr
end
end Bs
namespace Bs
noncomputable section
def slices_AppendSeq_api_Field_api_Field_F1_step1:wO->(List r9)->Option ((List r9)⊕(List r9)):=fun O Z=>if ((Z.length)+([O]:List r9).length)*32<=140737488355328 then some (.inl (Z++([O]:List r9))) else none
def slices_AppendSeq_api_Field_api_Field_F1 (O:(List r9)):Option (List r9):=if List.length O<=4611686018427387904 then uB (B4 (slices_AppendSeq_api_Field_api_Field_F1_step1) (SO O) ([]:List r9)) fun Z=>some (Z) else none
section
variable (O:(List r9))
abbrev mb:List qQ:=[(.nilS,none),(.val .clo (some (186,[(0,0)])),none)]
abbrev mc:List qP:=[.cells (.list (.pair .str (.pair .str .unit))) O []]
@[go_sem] def md:r5:=⟨[((slices_AppendSeq_api_Field_api_Field_F1 O)).isSome=true],[(.own 1 ((val (slices_AppendSeq_api_Field_api_Field_F1 O)).length),none)],[.cells (.list (.pair .str (.pair .str .unit))) O [],.row 110 (.pair .str (.pair .str .unit)) (val (slices_AppendSeq_api_Field_api_Field_F1 O)) ((val (slices_AppendSeq_api_Field_api_Field_F1 O)).length)]⟩
def Sv:List qQ->List qP->Option r5:=s9 (V:=(List r9)) (fun x=>mb) (mc) fun x=>md x
@[go_sem] def aDV:Sv (no_index mb) (no_index (mc O))=some (md O):=sB (fun a0 b0 h1 h2=>by cases h1;cases h2;rfl) O
end
@[go_sem] abbrev mf:Nat×rM:=(203,⟨[.v,.f [((.list (.pair .str (.pair .str .unit))),[])]],Sv,[],[0],none⟩)
def mg:rJ prog [YK] (rK []):=⟨⟨Sn,trivial⟩,rZ,rL⟩
def YP:rJ prog [YK,BS] (rK []):=⟨⟨Sn,⟨FB,trivial⟩⟩,mg.Γ,rL⟩
def Sw:rS prog mf:=by
 refine sC mg func203 (c:=_) rfl (N:=13) qH (ts:=[(4,none)]) rfl (fun _ _=>rfl) ?_;intro O hs hrow;dsimp only[mb,mc,md,s7,rC,rI,rN,s8,Nat.reduceAdd] at hs hrow|-;have hz:=hs;obtain⟨z0,d⟩:=aFS.1 hz
 try rw[sH d]
 clear hz hs;unfold slices_AppendSeq_api_Field_api_Field_F1 at d;refine qO mg ?_;refine qY (qO YP ?_);refine sF ?_;obtain⟨hgF2,d⟩:=qT d;obtain⟨y1,hy1,d⟩:=w8 d;refine a7a a7i a7h qI qI hgF2 hy1 [(2,.val .ref (some (1,0)),none)] (fun Z=>[(2,.val .ref (some (1,0)),none),(5,.val .ref (some (3,0)),none)]) (fun x=>[.cells (.list (.pair .str (.pair .str .unit))) O [],.cells (.rl 110 (.pair .str (.pair .str .unit))) (some (2,(x.length))) [],.row 110 (.pair .str (.pair .str .unit)) x (x.length)]) (fun Z x=>[.cells (.list (.pair .str (.pair .str .unit))) O [],.cells (.rl 110 (.pair .str (.pair .str .unit))) (some (2,(x.length))) [],.row 110 (.pair .str (.pair .str .unit)) x (x.length),.cells (.pair .str (.pair .str .unit)) Z []]) 2 ⟨[2],[(0,0),(1,1),(2,2)]⟩ qI qI (aHd qI) qI (aHd qI) (fun _=>aHd rfl) (fun _=>by rfl) (fun _ _=>by rfl) (fun _ _=>aHd rfl) (fun _=>rfl) qI ?_ ?_
 .intro Z aA w1 e g;refine⟨?_,?_⟩
  .dsimp only[KE,Sf,uN,rC,rI,Nat.reduceAdd,List.toList_toArray];refine rT YP ?_;exact Sc ⟨[2,5],[(0,0),(1,1),(2,2),(3,3)]⟩ qI
  unfold slices_AppendSeq_api_Field_api_Field_F1_step1 at e;dsimp only[rC,rI,Nat.reduceAdd] at e|-;refine sF ?_;obtain⟨X,e⟩:=qT e;refine rT YP ?_ (hp:=by exact⟨qG,X⟩)
  refine sM ?_;cases e;exact Sd ⟨[],[(0,0),(1,1),(2,2)]⟩ _ rfl qI
 rintro aA rfl;dsimp only[rC,rI,Nat.reduceAdd] at d|-;refine sM (qW (qO YP ?_));refine qZ ?_;cases d;exact pR [(0,0),(1,2)]
def slices_Collect_api_Field_api_Field_F1 (O:(List r9)):Option (List r9):=(slices_AppendSeq_api_Field_api_Field_F1 O).bind fun Z=>some (Z)
section
variable (O:(List r9))
abbrev mh:List qQ:=[(.val .clo (some (186,[(0,0)])),none)]
abbrev mi:List qP:=[.cells (.list (.pair .str (.pair .str .unit))) O []]
@[go_sem] def mj:r5:=⟨[((slices_Collect_api_Field_api_Field_F1 O)).isSome=true],[(.own 1 ((val (slices_Collect_api_Field_api_Field_F1 O)).length),none)],[.cells (.list (.pair .str (.pair .str .unit))) O [],.row 110 (.pair .str (.pair .str .unit)) (val (slices_Collect_api_Field_api_Field_F1 O)) ((val (slices_Collect_api_Field_api_Field_F1 O)).length)]⟩
def Sx:List qQ->List qP->Option r5:=s9 (V:=(List r9)) (fun x=>mh) (mi) fun x=>mj x
@[go_sem] def aDW:Sx (no_index mh) (no_index (mi O))=some (mj O):=sB (fun a0 b0 h1 h2=>by cases h1;cases h2;rfl) O
end
@[go_sem] abbrev Sy:Nat×rM:=(184,⟨[.f [((.list (.pair .str (.pair .str .unit))),[])]],Sx,[],[0],none⟩)
def Sz:rJ prog [wX] (rK [mf]):=⟨⟨yV,trivial⟩,r7 Sw rZ,rL⟩
def a7t:rJ prog [] (rK [mf]):=⟨trivial,r7 Sw rZ,rL⟩
def a7u:rS prog Sy:=by
 refine sC Sz func184 (c:=_) rfl (N:=5) qH (ts:=[(2,none)]) rfl (fun _ _=>rfl) ?_;intro O hs hrow;dsimp only[mh,mi,mj,s7,rC,rI,rN,s8,Nat.reduceAdd] at hs hrow|-;have hz:=hs;obtain⟨z0,d⟩:=aFS.1 hz
 try rw[sH d]
 clear hz hs;unfold slices_Collect_api_Field_api_Field_F1 at d;refine qO Sz ?_;obtain⟨Z,hv1,hw1,d⟩:=rW d
 try simp only[go_sem] at hw1
 refine qO a7t ?_ (hp:=by exact⟨qG,(rV hv1)⟩) (h:=by simp only[go_sem,hw1];rfl)
 refine qZ ?_;cases d;exact pR [(0,0),(1,66)]
def Ta (O:(List r9)):Unit:=()
section
variable (O:(List r9))
abbrev ml:List qQ:=[(.val (.list (.pair .str (.pair .str .unit))) O,none)]
abbrev mm:List qP:=[]
@[go_sem] def mn:r5:=⟨[],[(.val .clo (some (186,[(0,0)])),none)],[.cells (.list (.pair .str (.pair .str .unit))) O []]⟩
def Tb:List qQ->List qP->Option r5:=s9 (V:=(List r9)) (ml) (fun x=>mm) fun x=>mn x
@[go_sem] def aDX:Tb (no_index (ml O)) (no_index mm)=some (mn O):=sB (fun a0 b0 h1 h2=>by cases h1;cases h2;rfl) O
end
@[go_sem] abbrev Tc:Nat×rM:=(151,⟨[.v],Tb,[],[],none⟩)
def mo:rJ prog [wX] (rK []):=⟨⟨yV,trivial⟩,rZ,rL⟩
def a7v:rS prog Tc:=by
 refine sC mo func151 (c:=_) rfl (N:=4) qH (ts:=[(2,none)]) rfl (fun _ _=>rfl) ?_;intro O hs hrow;dsimp only[ml,mm,mn,s7,rC,rI,rN,s8,Nat.reduceAdd] at hs hrow|-;obtain⟨z0,d⟩: ∃z,(Ta O)=z:=⟨_,rfl⟩
 try rw[d]
 unfold Ta at d;refine qO mo ?_;refine qO mo ?_;refine qZ ?_;cases d;exact pR [(0,0)]
def slices_SortedFunc_api_Field_api_Field_F1_blocks_sortedF1 (O:(List r9)):Option ((List r9)×Nat):=(slices_Collect_api_Field_api_Field_F1 O).bind fun Z=>if List.length Z<4611686018427387904 then some (((vX Z),(Z.length))) else none
section
variable (O:(List r9))
abbrev mq:List qQ:=[(.val .clo (some (186,[(0,0)])),none),(.val .clo (some (152,[])),none)]
abbrev mr:List qP:=[.cells (.list (.pair .str (.pair .str .unit))) O []]
@[go_sem] def ms:r5:=⟨[((slices_SortedFunc_api_Field_api_Field_F1_blocks_sortedF1 O)).isSome=true],[(.own 1 ((val (slices_SortedFunc_api_Field_api_Field_F1_blocks_sortedF1 O)).2),none)],[.cells (.list (.pair .str (.pair .str .unit))) O [],.row 110 (.pair .str (.pair .str .unit)) ((val (slices_SortedFunc_api_Field_api_Field_F1_blocks_sortedF1 O)).1) ((val (slices_SortedFunc_api_Field_api_Field_F1_blocks_sortedF1 O)).2)]⟩
def Td:List qQ->List qP->Option r5:=s9 (V:=(List r9)) (fun x=>mq) (mr) fun x=>ms x
@[go_sem] def aDY:Td (no_index mq) (no_index (mr O))=some (ms O):=sB (fun a0 b0 h1 h2=>by cases h1;cases h2;rfl) O
end
@[go_sem] abbrev Te:Nat×rM:=(150,⟨[.f [((.list (.pair .str (.pair .str .unit))),[])],.v],Td,[],[0],none⟩)
def SU:rJ prog [wX] (rK [Sy,Sr]):=⟨⟨yV,trivial⟩,r7 a7u (r7 a7s rZ),rL⟩
def a7w:rS prog Te:=by
 refine sC SU func150 (c:=_) rfl (N:=12) qH (ts:=[(4,none)]) rfl (fun _ _=>rfl) ?_;intro O hs hrow;dsimp only[mq,mr,ms,s7,rC,rI,rN,s8,Nat.reduceAdd] at hs hrow|-;have hz:=hs;obtain⟨z0,d⟩:=aFS.1 hz
 try rw[sH d]
 clear hz hs;unfold slices_SortedFunc_api_Field_api_Field_F1_blocks_sortedF1 at d;refine qO SU ?_;obtain⟨Z,hv1,hw1,d⟩:=rW d
 try simp only[go_sem] at hw1
 refine qO SU ?_ (hp:=by exact⟨qG,(rV hv1)⟩) (h:=by simp only[go_sem,hw1];rfl)
 obtain⟨X,d⟩:=qT d;refine qO SU ?_ (hp:=by exact⟨qG,X⟩)
 refine qO SU ?_;refine qZ ?_;cases d;exact pR [(0,0),(1,66)]
def blocks_sorted (O:(List r9)):Option ((List r9)×Nat):=(slices_SortedFunc_api_Field_api_Field_F1_blocks_sortedF1 O).bind fun Z=>some ((Z.1,Z.2))
section
variable (O:(List r9))
abbrev mu:List qQ:=[(.val (.list (.pair .str (.pair .str .unit))) O,none)]
abbrev mv:List qP:=[]
@[go_sem] def mw:r5:=⟨[((blocks_sorted O)).isSome=true],[(.own 0 ((val (blocks_sorted O)).2),none)],[.row 110 (.pair .str (.pair .str .unit)) ((val (blocks_sorted O)).1) ((val (blocks_sorted O)).2)]⟩
def Tf:List qQ->List qP->Option r5:=s9 (V:=(List r9)) (mu) (fun x=>mv) fun x=>mw x
@[go_sem] def blocks_sortedC_eq:Tf (no_index (mu O)) (no_index mv)=some (mw O):=sB (fun a0 b0 h1 h2=>by cases h1;cases h2;rfl) O
end
@[go_sem] abbrev a7x:Nat×rM:=(116,⟨[.v],Tf,[],[],none⟩)
def mz:rJ prog [wX] (rK [Tc,Te]):=⟨⟨yV,trivial⟩,r7 a7v (r7 a7w rZ),rL⟩
def blocks_sorted_con:rS prog a7x:=by
 refine sC mz func116 (c:=_) rfl (N:=6) qH (ts:=[(2,none)]) rfl (fun _ _=>rfl) ?_;intro O hs hrow;dsimp only[mu,mv,mw,s7,rC,rI,rN,s8,Nat.reduceAdd] at hs hrow|-;have hz:=hs;obtain⟨z0,d⟩:=aFS.1 hz
 try rw[sH d]
 clear hz hs;unfold blocks_sorted at d;refine qO mz ?_;obtain⟨Z,hv1,hw1,d⟩:=rW d
 try simp only[go_sem] at hw1
 refine qO mz ?_ (hp:=by exact⟨qG,(rV hv1)⟩) (h:=by simp only[go_sem,hw1];rfl)
 refine qZ ?_;cases d;exact pR [(0,97)]
attribute [irreducible] slices_AppendSeq_api_Field_api_Field_F1 slices_Collect_api_Field_api_Field_F1 slices_SortedFunc_api_Field_api_Field_F1_blocks_sortedF1 blocks_sorted
end
end Bs
end Go.Proofs.YtcpbaddnmpeipaaGreatDoor
section
end
namespace Go.Proofs.YtcpbaddnmpeipaaGreatDoor
open Vc Go.RowKit
open Tryz
abbrev IL:Ty:= .pair .str (.pair .str .unit)
@[go_sem] def YQ (F:List wO->Option (List wO×Nat)):List qQ->List qP->Option r5
 |[(.own 0 n,none)],[.row 110 (.pair .str (.pair .str .unit)) l n2]=>some ⟨[n=n2,(F l).isSome=true],[(.own 1 (val (F l)).2,none)],[.dead,.row 110 (.pair .str (.pair .str .unit)) (val (F l)).1 (val (F l)).2]⟩
 |_,_=>none
theorem a7y {g g1:Gh}{w:qD}{b:Nat}{cur:Array qE}{e:TypeId}(hbk:w.heap[b]? =some (.cells cur e (0,0))) (l:List wO) (htk:cur.toList.take (l.length*2)=yU l) (hS: ∀o,o<l.length*2->g1.S b o):
  zD (Rd g1 w IL) w g1.S 2 b 0 l:=by
 refine K4 (YI l) (fun j u hu=>?_) (fun j hj=>?_)
 .rw[aGk,Lib.cell_of_heap hbk];have hj:j<(yU l).length:=(aF5.1 hu).1;rw[KF] at hj;rw[<-htk,aGQ hj,aGX] at hu;exact hu
 rw[aGk];exact hS j hj
theorem a7z {f:FuncId}{C:List qQ->List qP->Option r5}{F:List wO->Option (List wO×Nat)}(h:xJ prog f C)
  (hC: ∀l,C [(.val (.list IL) l,none)] []=some ⟨[(F l).isSome=true],[(.own 0 (val (F l)).2,none)],[.row 110 IL (val (F l)).1 (val (F l)).2]⟩):xJ prog f (YQ F):=by
 refine⟨h.1,fun g w args vals L r hH ha hC' hs=>?_⟩;unfold YQ at hC';split at hC'
 .rename_i n l n2;cases hC';obtain rfl:n=n2:=hs _ pV;have hsome:=hs ((F l).isSome=true) pV;clear hs;obtain⟨va,_,rfl,ra,hv⟩:=ha;cases hv;have hg0:qS (rC 0 [qP.row 110 IL l n]) 0=some (.row 110 IL l n):=rfl;obtain⟨hl,v,xs,hcur,hown,hF,hnone,hseal⟩:=hH.blk 0 _ hg0;subst hl;have hva:va=v:=by
   have:=ra.1.1;rw[hcur] at this;exact(aFU this).symm
  subst hva;have hxs:=YH hF;subst hxs
  let g1:Gh:=⟨fun b o=>va.ownBlock=some b/\o<l.length*2,fun _=>none,fun _ _=>none⟩
  have hH1:sO g1 w (rC 0 []):=⟨fun _ _ h=>(by cases h),fun _ _ _ _ _ _ _ h=>(by cases h),fun b o h=>MO hown h.1,⟨hH.tab.1,fun _ _ _ _ h=>(by cases h)⟩⟩;have hrd:tJ g1 w (.list IL) l va:=by
   refine .inr ⟨rfl,?_⟩;obtain⟨hx,⟨rfl,h0⟩ |⟨b,cap,cur,rfl,hb0,hbk,hnc,hcm,hcs,htk⟩⟩:=hown
   .obtain rfl:l=[]:=aGJ.1 h0;exact⟨none,0,rfl,aGc _,.inl rfl⟩
   exact⟨some ⟨b,0,none⟩,cap,rfl,hnc,.inr ⟨b,0,rfl,a7y (g:=g) hbk l htk (fun o ho=>⟨rfl,ho⟩)⟩⟩
  have hcall:=h.2 g1 w [(.val (.list IL) l,none)] [va] [] _ hH1 ⟨_,_,rfl,⟨hrd,trivial⟩,rfl⟩ (hC l) (fun p hp=>by simp only[aF7] at hp;rw[hp];exact hsome);refine hcall.mono ?_;rintro en w' ⟨v',g',rfl,ho⟩;have hbel:Below w.heap.size w w':=⟨ho.fr.os,ho.fr.tape,ho.fr.output,ho.fr.size,fun b hb=>ho.fr.blk b hb fun o ⟨i,blk,h1,_⟩=>(by cases h1)⟩;have hret:rX g' w' (.own 0 (val (F l)).2,none) v':=ho.ret;have hg1:qS (rC 0 [qP.row 110 IL (val (F l)).1 (val (F l)).2]) 0=some (.row 110 IL (val (F l)).1 (val (F l)).2):=rfl;obtain⟨kl,v2,xs2,kcur,kown,kF,knone,kseal⟩:=ho.heap.blk 0 _ hg1;have hv2:v2=v':=by
   have:=hret.1.1;rw[kcur] at this;exact aFU this
  subst hv2;have hxs2:=YH kF;subst hxs2;generalize hfl:(val (F l)).1=l' at*;generalize hfn:(val (F l)).2=n' at*;have hnewb: ∀b,v2.ownBlock=some b->w.heap.size<=b:=fun b hb=>by
   rcases ho.perm 0 _ b 0 rfl ⟨v2,kcur,hb⟩ with h1|⟨i,blk,h1,_⟩
   .exact h1
   cases h1
  have hlt: ∀b o,g.S b o->v2.ownBlock≠some b:=fun b o h e1=>by have:=hH.sl b o h;have:=hnewb b e1;omega
  have hshape:=hret.1.2;refine⟨_,GP g 1 n' v2,rfl,fun b' o h=>⟨h,aGf (a:=⟨b',o,none⟩) (hbel.block b' (hH.sl b' o h))⟩,⟨fun i blk h=>?_,fun i j bi bj b' o hij hi hj h1 h2=>?_,fun b' o h=>aGq (hH.sl b' o h) hbel.size,JN hH.tab.1 hbel.size fun b' h=>hbel.block b' (aGq h hH.tab.1.1),fun i blk b' o h h1=>?_⟩,
   ⟨⟨EG ..,hshape⟩,trivial⟩,⟨hbel.os,hbel.tape,hbel.output,hbel.size,fun b hb _=>hbel.block b hb,fun b o hb _=>⟨aGf (a:=⟨b,o,none⟩) (hbel.block b hb),aGF (a:=⟨b,o,none⟩) (hbel.block b hb)⟩,fun b o hS=> .inl hS,fun b s h=> .inl ((CQ (hbel.block b (CP h))).trans h)⟩,fun i blk b' o h h1=>?_,fun _ _ _ _ _=>rfl,fun i t x ts u y us h=>?_,fun i p hi h=>h,fun i q u hi h=>?_⟩
  .match i,h with
   |0,h=>cases h;trivial
   |1,h=>
    cases h;exact⟨kl,v2,_,EG ..,kown,YI _,fun q hq=>lw g 1 n' _ hq,fun b' hb o hs=>hlt b' o hs hb⟩
   |i+2,h=>simp [rC,qS] at h
  .match i,j,hi,hj with
   |0,_,hi,_=>cases hi;exact h1
   |_,0,_,hj=>cases hj;exact h2
   |1,1,_,_=>exact hij rfl
   |i+2,_,hi,_=>simp [rC,qS] at hi
   |1,j+2,_,hj=>simp [rC,qS] at hj
  .match i,h with
   |0,h=>cases h;exact h1.elim
   |1,h=>
    cases h;obtain⟨v,h3,h4⟩:=h1;rw[EG] at h3;obtain rfl:=aFU h3;exact aGL hH.tab.1.1 (hnewb b' h4)
   |i+2,h=>simp [rC,qS] at h
  .match i,h with
   |0,h=>cases h;exact h1.elim
   |1,h=>
    cases h;obtain⟨v,h3,h4⟩:=h1;rw[EG] at h3;obtain rfl:=aFU h3;exact .inl (hnewb b' h4)
   |i+2,h=>simp at h
  .match i,h with
   |0,h=>cases h
   |i+1,h=>simp at h
  match i,hi with
  |0,_=>simpa[GP] using h
 cases hC'
theorem a7A:xJ prog 116 (YQ Bs.blocks_sorted):=
 a7z Bs.blocks_sorted_con.1 (fun l=>Bs.blocks_sortedC_eq l)
end Go.Proofs.YtcpbaddnmpeipaaGreatDoor
namespace Go.Proofs.YtcpbaddnmpeipaaGreatDoor.Vc
open Go.RowKit
section
variable {P:Program}{R:Bool}
theorem a7B {c:Code}{s:St}{Q:Ex->St->Prop}(env':List (Nat×qQ)) (h0: ∀(g:Gh) (w:qD) (i:Nat) (v:qE),rX g w (lk s.env i) v->rX g w (lk env' i) v)
  (h:Ev R P c ⟨env',s.H,s.nb,s.N,s.np⟩ Q):Ev R P c s Q:=by
 intro ro hro A L g0 w0 g a w B hB hr hg hn;exact h ro hro A L g0 w0 g a w B hB ⟨fun i=>h0 _ _ _ _ (hr.env i),hr.heap,hr.size,hr.nb,hr.def_,hr.np⟩ hg hn
@[go_sem] def YR:qQ->qQ
 |(.val .clo (some (f,[])),_)=>(.val .fn (some f),none)
 |(.val .clo none,_)=>(.val .fn none,none)
 |s=>s
@[go_sem] def SV (i:Nat):List (Nat×qQ)->List (Nat×qQ)
 |[]=>[]
 |(j,s)::r=>(j,if j=i then YR s else s)::SV i r
theorem Tg {i:Nat}: ∀{env:List (Nat×qQ)}{j:Nat},lk (SV i env) j=if j=i then YR (lk env j) else lk env j
 |[],j=>by simp only[SV,lk];split<;>rfl
 |(k,s)::r,j=>by
  simp only[SV,lk];split
  .rename_i h;subst h;rfl
  exact Tg
theorem a7C {g:Gh}{w:qD}{s:qQ}{v:qE}(h:rX g w s v):rX g w (YR s) v:=by
 unfold YR;split
 .rename_i f k;refine⟨?_,trivial⟩;rcases h.1 with⟨h1,_⟩ |⟨_,vs,h2,h3⟩
  .cases h1
  rw[show vs=[] from h2] at h3;exact .inr ⟨rfl,h3⟩
 .rename_i k;refine⟨?_,trivial⟩;rcases h.1 with⟨h1,_⟩ |⟨_,h2⟩
  .cases h1
  exact .inr ⟨rfl,h2⟩
 exact h
theorem Th {c:Code}{s:St}{Q:Ex->St->Prop}(i:Nat) (h:Ev R P c ⟨SV i s.env,s.H,s.nb,s.N,s.np⟩ Q):Ev R P c s Q:=by
 refine a7B _ (fun g w j v hv=>?_) h;rw[Tg];split
 .exact a7C hv
 exact hv
@[go_sem] def Ti (q:Nat×(Nat×Nat)×(Nat×Nat)):Nat×Nat×(Nat×Nat)×(Nat×Nat)->Nat×Nat×(Nat×Nat)×(Nat×Nat)
 |(0,_)=>(0,q)
 |(n+1,x)=>(n+1,x)
@[go_sem] def DF (q:Nat×(Nat×Nat)×(Nat×Nat)):(t:Ty)->t.den->t.den
 | .ap,x=>Ti q x
 | .pair a b,x=>(DF q a x.1,DF q b x.2)
 | .bool,x=>x
 | .int _,x=>x
 | .str,x=>x
 | .list _,x=>x
 | .unit,x=>x
 | .ref,x=>x
 | .clo,x=>x
 | .mp,x=>x
 | .mref,x=>x
 | .fn,x=>x
 | .rl _ _,x=>x
theorem a7D {g:Gh}{w:qD}{q:Nat×(Nat×Nat)×(Nat×Nat)}: ∀{x:Nat×Nat×(Nat×Nat)×(Nat×Nat)}{cs:q8},GI g w x cs->GI g w (Ti q x) cs
 |(0,i,(k3,n3),(k4,n4)),cs,h=>by
  obtain⟨a,⟨b1,b2⟩,d1,d2⟩:=q;rcases h with⟨_,h⟩ |⟨h,_⟩
  .exact .inl ⟨rfl,h⟩
  .exact absurd rfl h
 |(n+1,x),cs,h=>h
theorem nc {g:Gh}{w:qD}{q:Nat×(Nat×Nat)×(Nat×Nat)}: ∀{t:Ty}{x:t.den}{cs:q8},Rd g w t x cs->Rd g w t (DF q t x) cs
 | .ap,_,_,h=>a7D h
 | .pair a b,x,cs,⟨c1,c2,e,h1,h2⟩=>⟨c1,c2,e,nc h1,nc h2⟩
 | .bool,_,_,h=>h
 | .int _,_,_,h=>h
 | .str,_,_,h=>h
 | .list _,_,_,h=>h
 | .unit,_,_,h=>h
 | .ref,_,_,h=>h
 | .clo,_,_,h=>h
 | .mp,_,_,h=>h
 | .mref,_,_,h=>h
 | .fn,_,_,h=>h
 | .rl _ _,_,_,h=>h
theorem SW (q:Nat×(Nat×Nat)×(Nat×Nat)) (u:Ty): ∀(t:Ty) (x:t.den) (o:Nat),rH (.list u) t (DF q t x) o=rH (.list u) t x o
 | .pair a b,x,0=>by
  have h: ¬(Ty.pair a b= .list u):=fun h=>by cases h
  unfold rH;rw[aHi h,aHi h];show (if 0<a.cells then rH (.list u) a (DF q a x.1) 0 else rH (.list u) b (DF q b x.2) 0)=_;rw[SW q u a x.1 0,SW q u b x.2 0]
 | .pair a b,x,o+1=>by
  show (if o+1<a.cells then rH (.list u) a (DF q a x.1) (o+1) else rH (.list u) b (DF q b x.2) (o+1-a.cells))=_;rw[SW q u a x.1 (o+1),SW q u b x.2 (o+1-a.cells)];rfl
 | .ap,x,0=>by
  have h: ¬(Ty.ap= .list u):=fun h=>by cases h
  unfold rH;rw[aHi h,aHi h]
 | .ap,x,o+1=>rfl
 | .bool,_,_=>rfl
 | .int _,_,_=>rfl
 | .str,_,_=>rfl
 | .list _,_,_=>rfl
 | .unit,_,_=>rfl
 | .ref,_,_=>rfl
 | .clo,_,_=>rfl
 | .mp,_,_=>rfl
 | .mref,_,_=>rfl
 | .fn,_,_=>rfl
 | .rl _ _,_,_=>rfl
@[go_sem] def Tj (q:Nat×(Nat×Nat)×(Nat×Nat)) (i:Nat):Option qP->List (Nat×qP)->List (Nat×qP)
 |some (.cells t x ts),H=>(i,.cells t (DF q t x) ts)::H
 |_,H=>H
@[go_sem] def PJ (i:Nat) (q:Nat×(Nat×Nat)×(Nat×Nat)) (s:St):St:=⟨s.env,Tj q i (qS s.H i) s.H,s.nb,s.N,s.np⟩
theorem Tk {B:Nat}{A:Nat->Nat->Prop}{L:List qP}{g0 g:Gh}{w0 w:qD}{s:St}{a:Act}(hr:vE B g w s a) (hg:tR A L g0 w0 g w s.H) (i:Nat) (q:Nat×(Nat×Nat)×(Nat×Nat)):
  vE B g w (PJ i q s) a/\tR A L g0 w0 g w (PJ i q s).H:=by
 unfold PJ;cases hb:qS s.H i with
 |none=>exact⟨hr,hg⟩
 |some blk=>
  cases blk with
  |cells t x ts=>
   simp only[Tj];have hget: ∀j b,qS ((i,qP.cells t (DF q t x) ts)::s.H) j=some b->(j=i/\b= .cells t (DF q t x) ts)\/(j≠i/\qS s.H j=some b):=by
    intro j b hjb;simp only[qS] at hjb;split at hjb
    .rename_i e1;exact .inl ⟨e1.symm,(aFU hjb).symm⟩
    rename_i e1;exact .inr ⟨Ne.symm e1,hjb⟩
   have howns: ∀j b bb o,qS ((i,qP.cells t (DF q t x) ts)::s.H) j=some b->sL g j b bb o->∃b0,qS s.H j=some b0/\sL g j b0 bb o:=by
    intro j b bb o hj ho;rcases hget j b hj with⟨rfl,rfl⟩ |⟨_,h1⟩
    .exact⟨_,hb,ho⟩
    exact⟨b,h1,ho⟩
   refine⟨⟨hr.env,⟨fun j b hj=>?_,fun j k bj bk b o hjk h1 h2 o1 o2=>?_,hr.heap.sl,hr.heap.tab.1,fun j blk b o hj ho=>?_⟩,hr.size,hr.nb,hr.def_,hr.np⟩,⟨hg.shut,hg.fr,fun j b bb o hj ho=>?_,hg.J,hg.live,fun j u y us hj hb'=>?_,hg.cur⟩⟩
   .rcases hget j b hj with⟨rfl,rfl⟩ |⟨_,h1⟩
    .obtain⟨p,cs,h1,h2,h3,h4,h5,h6⟩:=hr.heap.blk j _ hb;refine⟨p,cs,h1,nc h2,h3,h4,h5,fun o k hk=>?_⟩;obtain⟨u,l,v,k1,k2,k3⟩:=h6 o k hk;exact⟨u,l,v,(SW q u t x o).trans k1,k2,k3⟩
    exact hr.heap.blk j b h1
   .obtain⟨c1,k1,k2⟩:=howns j bj b o h1 o1;obtain⟨c2,k3,k4⟩:=howns k bk b o h2 o2;exact hr.heap.dis j k c1 c2 b o hjk k1 k3 k2 k4
   .obtain⟨c1,k1,k2⟩:=howns j blk b o hj ho;exact hr.heap.tab.2 j c1 b o k1 k2
   .obtain⟨c1,k1,k2⟩:=howns j b bb o hj ho;exact hg.perm j c1 bb o k1 k2
   .rcases hget j _ hb' with⟨rfl,h1⟩ |⟨_,h1⟩
    .cases h1;exact hg.ty j t x ts hj hb
    .exact hg.ty j u y us hj h1
  |_=>exact⟨hr,hg⟩
theorem a7E {c:Code}{s:St}{Q:Ex->St->Prop}(i:Nat) (q:Nat×(Nat×Nat)×(Nat×Nat)) (h:Ev R P c (PJ i q s) Q):Ev R P c s Q:=by
 intro ro hro A L g0 w0 g a w B hB hr hg hn;obtain⟨h1,h2⟩:=Tk hr hg i q;exact h ro hro A L g0 w0 g a w B hB h1 h2 hn
theorem Tl {c:Code}{s:St}{Q:Ex->St->Prop}(i:Nat) (q:Nat×(Nat×Nat)×(Nat×Nat)) (h:Ev R P c s (fun e s=>Q e (PJ i q s))):Ev R P c s Q:=by
 intro ro hro A L g0 w0 g a w B hB hr hg hn;refine aHB (h ro hro A L g0 w0 g a w B hB hr hg hn) fun x a' w' hp=>?_;obtain⟨e,g',s',h1,h2,h3,h4,h5⟩:=hp;obtain⟨k1,k2⟩:=Tk h3 h4 i q;exact⟨e,g',_,h1,h2,k1,k2,h5⟩
theorem A0 {c:Code}{s:St}{Q:Ex->St->Prop}(i:Nat) (q:Nat×(Nat×Nat)×(Nat×Nat)) {t:Ty}{x x2:t.den}{ts:pY}(hb:qS s.H i=some (.cells t x ts)) (hx:DF q t x=x2)
  (h:Ev R P c ⟨s.env,(i,.cells t x2 ts)::s.H,s.nb,s.N,s.np⟩ Q):Ev R P c s Q:=by
 refine a7E i q ?_;unfold PJ;rw[hb];subst hx;exact h
end
def sI (e:TypeId) (t:Ty) (o:Option (List t.den)) (n:Nat):qP:=match o with
 |some l=> .row e t l n
 |none=> .grow e t.cells n
@[go_sem high] theorem aDZ (e:TypeId) (t:Ty) (l:List t.den) (n:Nat):sI e t (some l) n= .row e t l n:=rfl
@[go_sem high] theorem aD0 (e:TypeId) (t:Ty) (n:Nat):sI e t none n= .grow e t.cells n:=rfl
theorem B5 {e:TypeId}{t:Ty}{o o2:Option (List t.den)}{n n2:Nat}(h:sI e t o n=sI e t o2 n2):o=o2/\n=n2:=by
 cases o<;>cases o2<;>simp only[sI] at h<;>cases h<;>exact⟨rfl,rfl⟩
@[go_sem high] theorem a7F {e:TypeId}{t:Ty}(ht:t.pure=true) (k n:Nat) (a:tC) (o:Option (List t.den)) (m:Nat):
  yJ k n a (some (sI e t o m))=if (!AT k (sP a.ws))=true then some ⟨(.own a.n n,none)::a.args,sI e t o m::a.H,.tok k::a.ws,a.n+1⟩ else none:=by
 cases o<;>simp [sI,yJ,ht]
@[go_sem high] theorem aD1 (W:List rY) (e:TypeId) (t:Ty) (o:Option (List t.den)) (n:Nat):M0 W (sI e t o n)=some (sI e t o n):=by
 cases o<;>rfl
@[go_sem high] theorem a7G (base m c:Nat) (W:List rY) {e:TypeId}{t:Ty}(ht:t.pure=true) (o:Option (List t.den)) (n:Nat):zB base m c W (sI e t o n)=some (base+c,sI e t o n):=by
 cases o<;>simp [sI,zB,ht]
@[go_sem high] theorem a7H (k:Nat) {e:TypeId}{t:Ty}(ht:t.pure=true) (o:Option (List t.den)) (n:Nat):wU k (sI e t o n)=some (k,sI e t o n):=by
 cases o<;>simp [sI,wU,ht]
@[go_sem high] theorem a7I (m:pY) {e:TypeId}{t:Ty}(ht:t.pure=true) (o:Option (List t.den)) (n:Nat):zX m (some (sI e t o n))=sI e t o n:=by
 cases o<;>simp [sI,zX,ht]
theorem B6 {α β:Type}{o:Option α}{f:α->Option β}{y:β}(h:o.bind f=some y): ∃x,o=some x/\f x=some y:=by
 cases o with
 |none=>cases h
 |some x=>exact⟨x,rfl,h⟩
theorem B7 {P:Program}{R:Bool}{c:Code}{s:St}{Q:Ex->St->Prop}(k:Nat) {e:TypeId}{t:Ty}{l:List t.den}{n:Nat}(hk:qS s.H k=some (.row e t l n)) (h:l.length=n->Ev R P c s Q):Ev R P c s Q:=by
 intro ro hro A L g0 w0 g a w B hB hr hg hn;exact h (hr.heap.blk k _ hk).1 ro hro A L g0 w0 g a w B hB hr hg hn
@[go_sem high] theorem aD2 (m:pY) (e:TypeId) (o:Option (List (Ty.str.den))) (n:Nat):zX m (some (sI e .str o n))=sI e .str o n:=a7I m rfl o n
@[go_sem high] theorem aD3 (e:TypeId) (k n:Nat) (a:tC) (o:Option (List (Ty.str.den))) (m:Nat):
  yJ k n a (some (sI e .str o m))=if (!AT k (sP a.ws))=true then some ⟨(.own a.n n,none)::a.args,sI e .str o m::a.H,.tok k::a.ws,a.n+1⟩ else none:=a7F rfl k n a o m
@[go_sem high] theorem aD4 (base m c:Nat) (W:List rY) (e:TypeId) (o:Option (List (Ty.str.den))) (n:Nat):zB base m c W (sI e .str o n)=some (base+c,sI e .str o n):=a7G base m c W rfl o n
@[go_sem high] theorem aD5 (k:Nat) (e:TypeId) (o:Option (List (Ty.str.den))) (n:Nat):wU k (sI e .str o n)=some (k,sI e .str o n):=a7H k rfl o n
theorem KG {m:pY}{e:TypeId}{t:Ty}{o:Option (List t.den)}{n:Nat}{r:List qP}(ht:t.pure=true) (h:N2 m r):N2 m (sI e t o n::r):=by
 cases o with
 |none=>exact⟨rfl,h⟩
 |some l=>exact⟨by simp [sI,zX,ht],h⟩
attribute [go_sem] co
end Go.Proofs.YtcpbaddnmpeipaaGreatDoor.Vc
namespace Go.Proofs.YtcpbaddnmpeipaaGreatDoor
open Vc Go.RowKit
open Tryz
theorem a7J (w:qD) (p:Option Addr):Calls prog JM #[.pointer p] w fun e w'=> ∃b,e= .returned (.func (.func JL) #[] #[.pointer (some ⟨b,0,none⟩)])/\w.heap.size<=b/\b<w'.heap.size/\w'.cell? ⟨b,0,none⟩=some (.pointer p)/\Below w.heap.size w w':=by
 show Calls prog 155 #[.pointer p] w _
 go_enter func155,Tryz.ntmps155
 go_wp2
 go_ret
 refine⟨w.heap.size,rfl,aGc _,by simp,?_,(Below.refl _ _).alloc (aGc _) _⟩;exact Lib.cell_of_heap (World.alloc_heap_new w _) 0
theorem a7K (w:qD) (b:Nat) (α:Addr) (y s:pP) (ok:Bool) (hb:w.cell? ⟨b,0,none⟩=some (.pointer (some α))) (hy:w.cell? α=some (.string ⟨y.toArray⟩)) (hf:w.frozen? α=false) (hsp:α.spot=none)
  (hl:((y++s).length:Int)<=9223372036854775807) (hV: ∀w1,Below w.heap.size w w1->Calls prog HV #[.string ⟨(y++s).toArray⟩] w1 fun e w'=>e= .returned (.bool ok)/\Below w1.heap.size w1 w'):
  Calls prog JL #[.string ⟨s.toArray⟩,.pointer (some ⟨b,0,none⟩)] w fun e w'=>e= .returned (.bool ok)/\∃w1,Below w.heap.size w w1/\w'=if ok=true then w1.setCells α.block α.off [.string ⟨(y++s).toArray⟩] else w1:=by
 show Calls prog 188 #[.string ⟨s.toArray⟩,.pointer (some ⟨b,0,none⟩)] w _;obtain⟨ab,ao,asp⟩:=α;obtain rfl:asp=none:=hsp;have hext:((⟨y.toArray⟩:ByteArray)++⟨s.toArray⟩)=⟨(y++s).toArray⟩:=by
  apply ByteArray.ext;simp
 have hVw:=hV w (Below.refl _ _);have hbb:b<w.heap.size:=World.block_lt_of_cell? _ _ hb;have hab:ab<w.heap.size:=World.block_lt_of_cell? _ _ hy;clear hV;cases ok
 .go_enter func188,Tryz.ntmps188
  go_wp2_with (go_at_call 98;refine hVw.mono ?_;rintro e w' ⟨rfl,hbl⟩)
  all_goals first
   |(exfalso;simp at hl;omega)
   |(go_ret;exact⟨rfl,hbl⟩)
 go_enter func188,Tryz.ntmps188
 go_wp2_with (go_at_call 98;refine hVw.mono ?_;rintro e w' ⟨rfl,hbl⟩;have hb':=(aGf (a:=⟨b,0,none⟩) (hbl.block b hbb)).trans hb;have hy':=(aGf (a:=⟨ab,ao,none⟩) (hbl.block ab hab)).trans hy;have hf':=(hbl.frozen (p:=⟨ab,ao,none⟩) hab).trans hf)
 all_goals first
  |(exfalso;simp at hl;omega)
  |(go_ret;exact⟨rfl,_,hbl,rfl⟩)
theorem a7L:Lq prog:=⟨a7J,fun _ _=>rfl,fun _ _=>rfl,a7K⟩
end Go.Proofs.YtcpbaddnmpeipaaGreatDoor
namespace Go.Proofs.YtcpbaddnmpeipaaGreatDoor
open Tryz
section
open Go.Shelf Go.RowKit Go.Lib
variable {P:Program}{ρ:Ren}
def yW:ByteArray:=⟨#[32,9,34]⟩
theorem a7M {r:Int}(h0:128<=r) (h1:r<=1114111) (hv:r<55296\/57343<r): ∃n,1<=n/\n<=3/\(Utf8.encode r).size=n+1/\∃b:UInt8,(Utf8.encode r).data.toList[n]? =some b/\128<=b.toNat:=by
 have hval:Utf8.valid r=true:=by
  unfold Utf8.valid;simp;omega
 have hb: ∀k:Nat,k<64->128<=(UInt8.ofNat (0x80+k)).toNat:=fun k hk=>by
  rw[UInt8.toNat_ofNat'];omega
 unfold Utf8.encode;simp only[hval,aHp];have ha: ¬r.toNat<0x80:=by omega
 rw[aFQ ha];by_cases h2:r.toNat<0x800
 .rw[aFP h2];exact⟨1,pT,pT,rfl,_,rfl,hb _ pT⟩
 rw[aFQ h2];by_cases h3:r.toNat<0x10000
 .rw[aFP h3];exact⟨2,pT,pT,rfl,_,rfl,hb _ pT⟩
 rw[aFQ h3];exact⟨3,pT,pT,rfl,_,rfl,hb _ pT⟩
set_option maxRecDepth 1000000 in
theorem AnyL.IndexRune_err (L:Lays.n152 P ρ) (w:qD):
  Calls P (ρ.f 152) #[.string yW,.int .i32 65533] w fun e w'=>e= .returned (.int .i64 (-1))/\Below w.heap.size w w':=by
 have t3:=L.t3;have a3:=L.a3;have z3:=L.z3;have v3:=L.v3;have t4:=L.t4;have a4:=L.a4;have z4:=L.z4;have v4:=L.v4;have t5:=L.t5;have a5:=L.a5;have z5:=L.z5;have v5:=L.v5;have t9:=L.t9;have a9:=L.a9;have z9:=L.z9;have v9:=L.v9;have t21:=L.t21;have a21:=L.a21;have z21:=L.z21;have v21:=L.v21
 go_enter L.f152,Body.n152_ntmps ρ
 go_wp2
 go_loopg [5,6] 3 (fun g _ _ wx=> ∃i:Nat,i+g=3/\wx=w.iter yW i)
 case atStart=>exact⟨0,pT,rfl⟩
 case round=>
  obtain⟨i,hig,rfl⟩:=hrel;cases gk with
  |zero=>
   obtain rfl:i=3:=by omega
   have hnx:=fun ty=>run_next_end (P:=P) w yW 3 ty pU
   go_wp2
   go_ret
   exact⟨rfl,(Below.refl _ _).alloc (aGc _) _⟩
  |succ g=>
   have hi:i<yW.size:=by show i<3;omega
   obtain⟨x,hx⟩: ∃x:UInt8,yW[i]'hi=x:=⟨_,rfl⟩;have hx128:x.toNat<128:=by
    have:i=0\/i=1\/i=2:=by omega
    rcases this with rfl|rfl|rfl<;>rw[<-hx]
    .exact(by decide:(32:UInt8).toNat<128)
    .exact(by decide:(9:UInt8).toNat<128)
    exact(by decide:(34:UInt8).toNat<128)
   have hxe:(((x.toNat:Nat):Int)==65533)=false:=beq_eq_false_iff_ne.2 pT;have hnx:=fun ty=>run_next_ascii (P:=P) w yW i ty hi (by rw[hx];exact hx128);rw[hx] at hnx;clear hx
   go_wp2
   go_roundg g
   case measure=>omega
   case rel=>exact⟨i+1,pT,rfl⟩
set_option maxRecDepth 1000000 in
theorem AnyL.IndexRune_big (L:Lays.n152 P ρ) (w:qD) (r:Int) (h0:128<=r) (h1:r<=1114111) (hv:r<55296\/57343<r) (hne:r≠65533):
  Calls P (ρ.f 152) #[.string yW,.int .i32 r] w fun e w'=>e= .returned (.int .i64 (-1))/\Below w.heap.size w w':=by
 have t3:=L.t3;have a3:=L.a3;have z3:=L.z3;have v3:=L.v3;have t4:=L.t4;have a4:=L.a4;have z4:=L.z4;have v4:=L.v4;have t5:=L.t5;have a5:=L.a5;have z5:=L.z5;have v5:=L.v5;have t9:=L.t9;have a9:=L.a9;have z9:=L.z9;have v9:=L.v9;have t21:=L.t21;have a21:=L.a21;have z21:=L.z21;have v21:=L.v21;have e137: ∀args w,(callFunc (ρ.f 137) args).run P w= .ok (.enter (ρ.f 137) args) w:=enters_of L.f137 qH rfl;have e119: ∀args w,(callFunc (ρ.f 119) args).run P w= .ok (.enter (ρ.f 119) args) w:=enters_of L.f119 qH rfl;have hval:Lib.validRune r=true:=by unfold Lib.validRune;simp;omega
 obtain⟨n,hn1,hn3,hsz,b,hb,hb128⟩:=a7M h0 h1 hv;have hcv: ∀w,(convert (ρ.t 21) (ρ.t 9) (.int .i32 r)).run P w= .ok (.string (Utf8.encode r)) w:=fun w=>run_convert_int_string w _ _ .i32 r (by rw[t21];rfl) t9;generalize Utf8.encode r=rs at hsz hb hcv;have hsz':(rs.size:Int)=n+1:=by omega
 have hbn: ∀h,rs[n]'h=b:=fun h=>by
  have:=Lib.data_getElem? rs n h;rw[hb] at this;exact(aFU this).symm
 have hne9:((9:Int)==(b.toNat:Int))=false:=beq_eq_false_iff_ne.2 pT;have hne34:((34:Int)==(b.toNat:Int))=false:=beq_eq_false_iff_ne.2 pT;have hix: ∀w,(Instr.index (ρ.t 9) (.string rs) (.int .i64 (n:Int))).run P w= .ok (.int .u8 (b.toNat:Int)) w:=fun w=>by
  rw[run_index_string _ _ _ _ _ t9];rw[aHQ pT];simp [hbn]
 have hl1: ∀w,(Instr.index (ρ.t 9) (.string yW) (.int .i64 1)).run P w= .ok (.int .u8 9) w:=fun w=>by
  rw[run_index_string _ _ _ _ _ t9];rfl
 have hl2: ∀w,(Instr.index (ρ.t 9) (.string yW) (.int .i64 2)).run P w= .ok (.int .u8 34) w:=fun w=>by
  rw[run_index_string _ _ _ _ _ t9];rfl
 have hls:(yW.size:Int)=3:=rfl;clear hb
 go_enter L.f152,Body.n152_ntmps ρ
 go_wp2_with (go_at_fn (ρ.f 119);refine(Any.utf8_ValidRune {L with} _ _).mono ?_;rintro e w' ⟨rfl,hw⟩;rw[hw,hval])
 have mixed:=L.mixed;obtain rfl|rfl|rfl:n=1\/n=2\/n=3:=by omega
 .have hq:((9:Int) != ((rs[1]'pT).toNat:Int))=true:=by rw[hbn];exact bne_iff_ne.2 pT
  have hneg:Lib.indexByte (List.take (yW.size-2) (List.drop 2 yW.data.toList)) b= -1:=by
   have hz: ∀x:UInt8,x.toNat<128->(x==b)=false:=fun x hx=>beq_eq_false_iff_ne.2 fun e=>by rw[e] at hx;omega
   first|rfl|(show Lib.indexByte [34] b= -1;simp [Lib.indexByte,hz 34 pU])
  go_step3
  go_wp2
  refine wp_loop_rounds 1 ?_;rw[rounds_succ]
  go_wp2
  go_step3
  go_wp2
  go_region_o
  all_goals
   go_wp2
   go_region_with_o (go_at_fn (ρ.f 137);refine(Any.strings_IndexByte {L with} _ _ _).mono ?_;rintro e w' ⟨rfl,hw⟩;rw[hw])
   all_goals
    go_wp2
    simp only[Exit.noGoto_ret,go_sem]
    go_ret
    exact⟨rfl,by go_grown⟩
 .have hq:((34:Int) != ((rs[2]'pT).toNat:Int))=true:=by rw[hbn];exact bne_iff_ne.2 pT
  have hneg:Lib.indexByte (List.take (yW.size-3) (List.drop 3 yW.data.toList)) b= -1:=by
   have hz: ∀x:UInt8,x.toNat<128->(x==b)=false:=fun x hx=>beq_eq_false_iff_ne.2 fun e=>by rw[e] at hx;omega
   first|rfl|(show Lib.indexByte [34] b= -1;simp [Lib.indexByte,hz 34 pU])
  go_step3
  go_wp2
  refine wp_loop_rounds 1 ?_;rw[rounds_succ]
  go_wp2
  go_step3
  go_wp2
  go_region_o
  all_goals
   go_wp2
   go_region_with_o (go_at_fn (ρ.f 137);refine(Any.strings_IndexByte {L with} _ _ _).mono ?_;rintro e w' ⟨rfl,hw⟩;rw[hw])
   all_goals
    go_wp2
    simp only[Exit.noGoto_ret,go_sem]
    go_ret
    exact⟨rfl,by go_grown⟩
 go_step3
 go_wp2
 refine wp_loop_rounds 1 ?_;rw[rounds_succ]
 go_wp2
 simp only[Exit.noGoto_ret]
 go_ret
 exact⟨rfl,Below.refl _ _⟩
theorem Tm {s:ByteArray}{j:Nat}{b:UInt8}(h:s.data.toList[j]? =some b):s.get! j=b:=by
 rw[aGX] at h;show s.data[j]! =b;rw[getElem!_def,h]
theorem a7N (s:ByteArray) (i:Nat) (hi:i<s.size) (hb:128<=(s.get! i).toNat): ∃c k:Nat,Utf8.decode s i=(c,k)/\1<=k/\i+k<=s.size/\128<=c/\c<=1114111/\(c<55296\/57343<c)/\
  ∀j,i<=j->j<i+k->128<=(s.get! j).toNat:=by
 have one: ∀j,i<=j->j<i+1->128<=(s.get! j).toNat:=fun j h1 h2=>by
  obtain rfl:j=i:=by omega
  exact hb
 have e65: ∀r,r=(Utf8.runeError,1)->∃c k:Nat,r=(c,k)/\1<=k/\i+k<=s.size/\128<=c/\c<=1114111/\(c<55296\/57343<c)/\∀j,i<=j->j<i+k->128<=(s.get! j).toNat:=
  fun r hr=>⟨65533,1,hr,pT,pT,pT,pT,pT,one⟩
 have hval: ∀c:Nat,Utf8.valid (c:Int)=true->c<=1114111/\(c<55296\/57343<c):=fun c h=>by
  unfold Utf8.valid at h;simp only[aHo,aF0,aFY] at h;omega
 unfold Utf8.decode;simp only[aG0,aF0,aFY,aHr];rw[aFQ pT];by_cases h2:(s.get! i).toNat/32=6/\i+1<s.size/\(s.get! (i+1)).toNat/64=2
 .rw[aFP h2];obtain⟨h2,h3,h4⟩:=h2;split
  .refine⟨_,2,rfl,pT,pT,pT,pT,pT,fun j h5 h6=>?_⟩;obtain rfl|rfl:j=i\/j=i+1:=by omega
   .exact hb
   omega
  exact e65 _ rfl
 rw[aFQ h2];by_cases h3:((s.get! i).toNat/16=14/\i+1<s.size/\(s.get! (i+1)).toNat/64=2)/\i+2<s.size/\(s.get! (i+2)).toNat/64=2
 .rw[aFP h3];obtain⟨⟨h3,h4,h5⟩,h6,h7⟩:=h3;split
  .rename_i hc;have hv:=hval _ hc.2;refine⟨_,3,rfl,pT,pT,pT,hv.1,hv.2,fun j h8 h9=>?_⟩;obtain rfl|rfl|rfl:j=i\/j=i+1\/j=i+2:=by omega
   .exact hb
   .omega
   omega
  exact e65 _ rfl
 rw[aFQ h3];by_cases h4:(((s.get! i).toNat/8=30/\i+1<s.size/\(s.get! (i+1)).toNat/64=2)/\i+2<s.size/\(s.get! (i+2)).toNat/64=2)/\i+3<s.size/\(s.get! (i+3)).toNat/64=2
 .rw[aFP h4];obtain⟨⟨⟨h4,h5,h6⟩,h7,h8⟩,h9,h10⟩:=h4;split
  .rename_i hc;have hv:=hval _ hc.2;refine⟨_,4,rfl,pT,pT,pT,hv.1,hv.2,fun j h11 h12=>?_⟩;obtain rfl|rfl|rfl|rfl:j=i\/j=i+1\/j=i+2\/j=i+3:=by omega
   .exact hb
   .omega
   .omega
   omega
  exact e65 _ rfl
 rw[aFQ h4];exact e65 _ rfl
theorem a7O {P:Program}(w:qD) (r:Nat) (s:ByteArray) (i:Nat) (ty:TypeId) (hh:w.heap[r]? =some (.stringIter s i)) (hi:i<s.size) {c k:Nat}(hd:Utf8.decode s i=(c,k)):
  (Instr.next (.pointer (some ⟨r,0,none⟩)) true ty).run P w= .ok (.tuple #[.bool true,.int .i64 i,.int .i32 c]) {w with heap:=w.heap.setIfInBounds r (.stringIter s (i+k))}:=by
 simp [Instr.next,getObj,setObj,Sem.run,hh,hi,hd,goInt]
theorem a7P {P:Program}(w:qD) (r:Nat) (s:ByteArray) (i:Nat) (ty:TypeId) (hh:w.heap[r]? =some (.stringIter s i)) (hi: ¬i<s.size):
  (Instr.next (.pointer (some ⟨r,0,none⟩)) true ty).run P w= .ok (.tuple #[.bool false]) w:=by
 simp [Instr.next,getObj,Sem.run,hh,hi]
theorem a7Q {l:pP}{i k:Nat}(h:Lib.NoAny l [32,9,34] i) (hb: ∀j,i<=j->j<i+k->∀b,l[j]? =some b->128<=b.toNat):Lib.NoAny l [32,9,34] (i+k):=fun j b hj hs=>by
 by_cases hji:j<i
 .exact h j b hji hs
 have hx:=hb j pT hj b hs;cases hc:([32,9,34]:pP).contains b with
 |false=>rfl
 |true=>
  simp only[List.contains_cons,List.contains_nil,Bool.or_false,aHo,aHr] at hc;rcases hc with rfl|rfl|rfl<;>exact absurd hx pU
theorem a7R {B r:Nat}{a w:qD}{o:Obj}(h:Below B a w) (hr:B<=r):Below B a {w with heap:=w.heap.setIfInBounds r o}:=
 ⟨h.os,h.tape,h.output,by simpa using h.size,fun k hk=>by
  show (w.heap.setIfInBounds r o)[k]? =_;rw[aG9 pT];exact h.block k hk⟩
theorem AnyL.IndexRune_lit (L:Lays.n152 P ρ) (w:qD) (r:Int) (h0:128<=r) (h1:r<=1114111) (hv:r<55296\/57343<r):
  Calls P (ρ.f 152) #[.string yW,.int .i32 r] w fun e w'=>e= .returned (.int .i64 (-1))/\Below w.heap.size w w':=by
 by_cases he:r=65533
 .rw[he];exact AnyL.IndexRune_err L w
 exact AnyL.IndexRune_big L w r h0 h1 hv he
set_option maxRecDepth 1000000 in
theorem AnyL.IndexAny_lit8 (L:Lays.n153 P ρ) (s:ByteArray) (w:qD) (h8:s.size<=8):
  Calls P (ρ.f 153) #[.string s,.string yW] w fun e w'=>e= .returned (.int .i64 (Lib.indexAny s.data.toList [32,9,34]))/\Below w.heap.size w w':=by
 have hemp:yW.toList.isEmpty=false:=by rw[Lib.toList_data];rfl
 have hn1:((yW.size:Int)==1)=false:=rfl;have h8z:decide ((8:Int)<(s.size:Int))=false:=decide_eq_false pT;have t3:=L.t3;have a3:=L.a3;have z3:=L.z3;have v3:=L.v3;have t4:=L.t4;have a4:=L.a4;have z4:=L.z4;have v4:=L.v4;have t5:=L.t5;have a5:=L.a5;have z5:=L.z5;have v5:=L.v5;have t9:=L.t9;have a9:=L.a9;have z9:=L.z9;have v9:=L.v9;have t21:=L.t21;have a21:=L.a21;have z21:=L.z21;have v21:=L.v21;have e152: ∀args w,(callFunc (ρ.f 152) args).run P w= .ok (.enter (ρ.f 152) args) w:=enters_of L.f152 qH rfl;have e226: ∀args w,(callFunc (ρ.f 226) args).run P w= .ok (.enter (ρ.f 226) args) w:=enters_of L.f226 qH rfl
 go_enter L.f153,Body.n153_ntmps ρ
 go_wp2_with (go_at_fn (ρ.f 226);refine(Any.strings_shouldUseASCIISet {L with} _ _).mono ?_;rintro e w' ⟨rfl,hw⟩;rw[hw,h8z])
 go_loopg [9,10] s.size (fun g _ _ wx=> ∃i:Nat,i+g=s.size/\Below w.heap.size w wx/\wx.heap[w.heap.size]? =some (.stringIter s i)/\Lib.NoAny s.data.toList [32,9,34] i)
 case atStart=>exact⟨0,pT,(Below.refl _ _).alloc (aGc _) _,World.iter_heap w s 0,Lib.NoAny.zero _ _⟩
 case round=>
  obtain⟨i,hig,hbel,hheap,hno⟩:=hrel;have HN:Aside (Lib.NoAny s.data.toList [32,9,34] i):=hno;have HB:Aside (Below w.heap.size w _):=hbel;clear hno;have hlt:w.heap.size<wr.heap.size:=by
   rcases aG6 w.heap.size wr.heap.size with h|h
   .exact h
   rw[Array.getElem?_eq_none h] at hheap;cases hheap
  by_cases hi:i<s.size
  .obtain⟨x,hx⟩: ∃x:UInt8,s[i]'hi=x:=⟨_,rfl⟩;have hxl:s.data.toList[i]? =some x:=by rw[<-hx];exact Lib.data_getElem? s i hi
   have hgx:s.get! i=x:=Tm hxl;have key: ∀k c,Utf8.decode s i=(c,k)->∃w1:qD,(∀ty,(Instr.next (.pointer (some ⟨w.heap.size,0,none⟩)) true ty).run P wr= .ok (.tuple #[.bool true,.int .i64 i,.int .i32 c]) w1)/\
     Below w.heap.size w w1/\w1.heap[w.heap.size]? =some (.stringIter s (i+k))/\w.heap.size<w1.heap.size:=fun k c hd=>
    ⟨{wr with heap:=wr.heap.setIfInBounds w.heap.size (.stringIter s (i+k))},fun ty=>a7O wr _ s i ty hheap hi hd,a7R hbel (aGc _),by simp [hlt],by simpa using hlt⟩
   clear hbel hheap hlt;by_cases h128:x.toNat<128
   .obtain⟨w1,hnx,hb1,hh1,hl1⟩:=key 1 x.toNat (by have:=decode_ascii s i hi (by rw[hx];exact h128);rw[this,hx]);clear key;have HX:Aside (s.data.toList[i]? =some x):=hxl;have H1:Aside (Below w.heap.size w w1/\w1.heap[w.heap.size]? =some (.stringIter s (i+1))):=⟨hb1,hh1⟩;have hcon:=Lib.contains_iff_indexByte [32,9,34] x;have hback:((x.toNat:Int)).toNat.toUInt8=x:=by simp
    have hll:yW.data.toList=[32,9,34]:=rfl;clear hxl hgx hx hb1 hh1 hl1;cases hin:([32,9,34]:pP).contains x
    .rw[hin] at hcon;have hlt: ¬((0:Int)<=Lib.indexByte [32,9,34] x):=of_decide_eq_false hcon.symm;clear hcon
     go_wp2_with (go_at_fn (ρ.f 152);refine(Any.strings_IndexRune_ascii {L with} _ _ _ pT pT).mono ?_;rintro e w' ⟨rfl,hw⟩;rw[hw,hback,hll])
     go_roundg (gk-1)
     case measure=>omega
     case rel=>exact⟨i+1,pT,H1.out.1,H1.out.2,HN.out.succ HX.out hin⟩
    rw[hin] at hcon;have hge:(0:Int)<=Lib.indexByte [32,9,34] x:=aGt hcon.symm;clear hcon
    go_wp2_with (go_at_fn (ρ.f 152);refine(Any.strings_IndexRune_ascii {L with} _ _ _ pT pT).mono ?_;rintro e w' ⟨rfl,hw⟩;rw[hw,hback,hll])
    go_ret
    exact⟨by rw[Lib.indexAny_hit HN.out HX.out hin];rfl,H1.out.1⟩
   obtain⟨c,k,hd,hk1,hk2,hc1,hc2,hc3,hall⟩:=a7N s i hi (by rw[hgx];omega);obtain⟨w1,hnx,hb1,hh1,hl1⟩:=key k c hd;clear key;have H1:Aside (Below w.heap.size w w1/\w1.heap[w.heap.size]? =some (.stringIter s (i+k))/\w.heap.size<w1.heap.size):=⟨hb1,hh1,hl1⟩;have HA:Aside (∀j,i<=j->j<i+k->128<=(s.get! j).toNat):=hall;clear hall hxl hgx hx hb1 hh1 hl1 hd
   go_wp2_with (go_at_fn (ρ.f 152);refine(AnyL.IndexRune_lit {L with} _ _ pT pT pT).mono ?_;rintro e w' ⟨rfl,hw⟩)
   go_roundg (gk-k)
   case measure=>omega
   case rel=>exact⟨i+k,pT,H1.out.1.trans (hw.mono (by have:=H1.out.2.2;omega)),by rw[hw.block _ H1.out.2.2];exact H1.out.2.1,a7Q HN.out fun j h1 h2 b hb=>by rw[<-Tm hb];exact HA.out j h1 h2⟩
  have hnx:=fun ty=>a7P (P:=P) wr w.heap.size s i ty hheap hi;clear hbel hheap
  go_wp2
  go_ret
  obtain rfl:i=s.size:=by omega
  exact⟨by rw[Lib.indexAny_none (by rw[<-Lib.size_eq];exact HN.out)];rfl,HB.out⟩
theorem AnyL.IndexAny_lit (L:Lays.n153 P ρ) (h116:(P.info? (ρ.t 116)).map (fun i=>(i.zero,i.size))=some (some (.agg (Array.replicate 256 (.bool false))),256)) (s:ByteArray) (w:qD) (hs:s.size<4294967281):
  Calls P (ρ.f 153) #[.string s,.string yW] w fun e w'=>e= .returned (.int .i64 (Lib.indexAny s.data.toList [32,9,34]))/\Below w.heap.size w w':=by
 by_cases h8:s.size<=8
 .exact AnyL.IndexAny_lit8 L s w h8
 refine(Any.strings_IndexAny_long L (zero_of_info h116).1 (zero_of_info h116).2 s yW w pU pT hs pU (fun j b h=>?_)).mono fun e w' ⟨h1,h2⟩=>⟨h1,?_⟩
 .have hb:b∈([32,9,34]:pP):=List.mem_of_getElem? (show ([32,9,34]:pP)[j]? =some b from h);simp only[aF1,aHj,or_false] at hb;rcases hb with rfl|rfl|rfl<;>decide
 rw[h2];exact((Below.refl _ _).alloc (aGc _) _).alloc pV _
end
open Vc Go.RowKit
def PL (s c:pP):Int:=Lib.indexAny s c
@[go_sem] def nd:List qQ->List qP->Option r5
 |[(.val .str O,none),(.val .str Z,none)],[]=>if Z=[32,9,34] then some ⟨[List.length O<4294967281],[(.val (.int .i64) (PL O Z),none)],[]⟩ else none
 |_,_=>none
theorem a7S:xJ prog 146 nd:=by
 refine IJ (fun _ _=>rfl) fun g w args vals L r hT ha hC hs=>?_;unfold nd at hC;split at hC
 .rename_i s c;split at hC
  .rename_i hc;subst hc;cases hC;have h1:=hs _ aGa;obtain⟨va,_,rfl,ra,vb,_,rfl,rb,hv⟩:=ha;obtain rfl:=x7 ra.1;obtain rfl:=x7 rb.1;cases hv;exact⟨rfl,rfl,(AnyL.IndexAny_lit Tryz.lays153 qH ⟨List.toArray s⟩ w h1).mono fun e w' ⟨he,hb⟩=>⟨_,he,hb,wN _ _ _ _,trivial⟩⟩
  cases hC
 cases hC
end Go.Proofs.YtcpbaddnmpeipaaGreatDoor
namespace Go.Proofs.YtcpbaddnmpeipaaGreatDoor
open Go.RowKit Go.Shelf Go.Lib
theorem a7T {w:qD}(hc:w.cell? ⟨5,15,none⟩=some (.int .u8 4)):
  Calls Tryz.prog 254 #[.int .u64 16] w fun e w'=>e= .returned (.int .i64 4)/\w'=w:=by
 go_enter Tryz.func254,Tryz.ntmps254
 have k0:bits BinOp.and IntKind.u64 16 (IntKind.u64.wrap (-16))=16:=by decide+kernel
 have k1:IntKind.u64.wrap (16*285870213051353865) /288230376151711744=15:=by decide+kernel
 go_wp2
 go_ret
 exact⟨rfl,rfl⟩
theorem Tn {w:qD}(hc:w.cell? ⟨5,15,none⟩=some (.int .u8 4)):
  Calls Tryz.prog 246 #[.int .u64 16] w fun e w'=>e= .returned (.int .i64 4)/\w'=w:=by
 go_enter Tryz.func246,Tryz.ntmps246
 go_wp2_with fail
 refine(a7T hc).mono ?_;rintro e w' ⟨rfl,rfl⟩
 go_wp2
 go_ret
 exact⟨rfl,rfl⟩
theorem To {w:qD}:
  Calls Tryz.prog 245 #[.int .i64 16] w fun e w'=>e= .returned (.bool true)/\w'=w:=by
 have k0:bits BinOp.and IntKind.i64 16 15=0:=by decide+kernel
 go_enter Tryz.func245,Tryz.ntmps245
 go_wp2
 go_ret
 exact⟨rfl,rfl⟩
theorem Tp {w:qD}{a:Addr}{v:qE}(h:w.cell? a=some v):a.block<w.heap.size:=by
 unfold World.cell? at h;split at h
 .rename_i hb;exact(aGh.1 hb).1
 cases h
def N9 (n:Nat):UInt8:=if n<10 then(48+n).toUInt8 else(87+n).toUInt8
theorem a7U (w:qD) (d:UInt8):(convert 80 9 (.slice (some ⟨w.heap.size,64,none⟩) 1 1)).run Tryz.prog (w.alloc (.cells (Tryz.zeroCells264.setIfInBounds 64 (.int .u8 (d.toNat:Int))) 264))= .ok (.string ⟨#[d]⟩) (w.alloc (.cells (Tryz.zeroCells264.setIfInBounds 64 (.int .u8 (d.toNat:Int))) 264)):=by
 refine run_convert_bytes_back _ _ _ 5 ⟨w.heap.size,64,none⟩ 1 [d] Tryz.underlying80 Tryz.underlying5 Tryz.underlying9 fun j hj=>?_;have:j=0:=by simpa using hj
 subst this;simp [Addr.add,aHg]
theorem nf: ∀u:Fin 16,(⟨#[48,49,50,51,52,53,54,55,56,57,97,98,99,100,101,102,103,104,105,106,107,108,109,110,111,112,113,114,115,116,117,118,119,120,121,122]⟩:ByteArray).data[u.val]? =some (N9 u.val):=by decide+kernel
theorem a7V {w:qD}(hc:w.cell? ⟨5,15,none⟩=some (.int .u8 4)) (u:Nat) (hu:u<16):
  Calls Tryz.prog 223 #[.slice none 0 0,.int .u64 u,.int .i64 16,.bool false,.bool false] w fun e w'=>e= .returned (.tuple #[.slice none 0 0,.string ⟨#[N9 u]⟩])/\Below w.heap.size w w':=by
 have hc2:(w.alloc (.cells Tryz.zeroCells264 264)).cell? ⟨5,15,none⟩=some (.int .u8 4):=by
  rw[aGf (a:=⟨5,15,none⟩) (aGm _ _ _ (Tp hc))];exact hc
 go_enter Tryz.func223,Tryz.ntmps223
 go_wp2_with fail
 refine To.mono ?_;rintro e w' ⟨rfl,rfl⟩
 go_wp2_with fail
 refine(Tn hc2).mono ?_;rintro e w' ⟨rfl,rfl⟩
 go_wp2_with fail
 go_rounds 1
 rw[a7U];simp only[Result.andThen];rw[Oper.upon_value]
 go_wp2
 go_ret2
 refine⟨?_,(Below.refl _ _).alloc (aGc _) _⟩;have h:=nf ⟨u,hu⟩;obtain⟨h1,h2⟩:=aGh.1 h;rw[<-h2];rfl
theorem a7W (w:qD) (d e:UInt8):(convert 80 9 (.slice (some ⟨w.heap.size,63,none⟩) 2 2)).run Tryz.prog (w.alloc (.cells ((Tryz.zeroCells264.setIfInBounds 64 (.int .u8 (e.toNat:Int))).setIfInBounds 63 (.int .u8 (d.toNat:Int))) 264))= .ok (.string ⟨#[d,e]⟩) (w.alloc (.cells ((Tryz.zeroCells264.setIfInBounds 64 (.int .u8 (e.toNat:Int))).setIfInBounds 63 (.int .u8 (d.toNat:Int))) 264)):=by
 refine run_convert_bytes_back _ _ _ 5 ⟨w.heap.size,63,none⟩ 2 [d,e] Tryz.underlying80 Tryz.underlying5 Tryz.underlying9 fun j hj=>?_
 match j,hj with
 |0,_=>simp [Addr.add,aHg]
 |1,_=>simp [Addr.add,aHg]
theorem a7X: ∀u:Fin 256,bits BinOp.and IntKind.u64 (u.val:Int) 15=((u.val%16:Nat):Int):=by decide+kernel
theorem a7Y {w:qD}(hc:w.cell? ⟨5,15,none⟩=some (.int .u8 4)) (u:Nat) (hu:16<=u) (hu2:u<256):
  Calls Tryz.prog 223 #[.slice none 0 0,.int .u64 u,.int .i64 16,.bool false,.bool false] w fun e w'=>e= .returned (.tuple #[.slice none 0 0,.string ⟨#[N9 (u/16),N9 (u%16)]⟩])/\Below w.heap.size w w':=by
 have hc2:(w.alloc (.cells Tryz.zeroCells264 264)).cell? ⟨5,15,none⟩=some (.int .u8 4):=by
  rw[aGf (a:=⟨5,15,none⟩) (aGm _ _ _ (Tp hc))];exact hc
 have h15:=a7X ⟨u,hu2⟩;have hm:u%16<16:=Nat.mod_lt _ pU;have hq:u/16<16:=by omega
 have hq2:((u:Int)) /16=((u/16:Nat):Int):=rfl;dsimp only at h15;have H15:=Lib.hid h15;clear h15;obtain⟨m,hmm⟩: ∃m,u%16=m:=⟨_,rfl⟩;obtain⟨q,hqq⟩: ∃q,u/16=q:=⟨_,rfl⟩;rw[hmm] at hm;rw[hqq] at hq hq2;have h15:=H15.out;rw[hmm] at h15;have HM:=Lib.hid hmm;have HQ:=Lib.hid hqq;clear hmm hqq H15
 go_enter Tryz.func223,Tryz.ntmps223
 go_wp2_with fail
 refine To.mono ?_;rintro e w' ⟨rfl,rfl⟩
 go_wp2_with fail
 refine(Tn hc2).mono ?_;rintro e w' ⟨rfl,rfl⟩
 go_wp2_with fail
 go_rounds 2
 rw[a7W];simp only[Result.andThen];rw[Oper.upon_value]
 go_wp2
 go_ret2
 refine⟨?_,(Below.refl _ _).alloc (aGc _) _⟩;have h:=nf ⟨m,hm⟩;obtain⟨h1,h2⟩:=aGh.1 h;have k:=nf ⟨q,hq⟩;obtain⟨k1,k2⟩:=aGh.1 k;rw[HM.out,HQ.out,<-h2,<-k2];rfl
def xL (c _b:Int):pP:=if c<16 then[N9 c.toNat] else[N9 (c.toNat/16),N9 (c.toNat%16)]
theorem fb {w:qD}(hc:w.cell? ⟨5,15,none⟩=some (.int .u8 4)) (u:Nat) (hu2:u<256):
  Calls Tryz.prog 223 #[.slice none 0 0,.int .u64 u,.int .i64 16,.bool false,.bool false] w fun e w'=>e= .returned (.tuple #[.slice none 0 0,.string ⟨(xL u 16).toArray⟩])/\Below w.heap.size w w':=by
 unfold xL;by_cases h:(u:Int)<16
 .rw[aFP h];exact a7V hc u pT
 rw[aFQ h];exact a7Y hc u pT hu2
theorem a7Z {w:qD}(hc:w.cell? ⟨5,15,none⟩=some (.int .u8 4)) (u:Nat) (hu2:u<256):
  Calls Tryz.prog 196 #[.int .i64 u,.int .i64 16] w fun e w'=>e= .returned (.string ⟨(xL u 16).toArray⟩)/\Below w.heap.size w w':=by
 obtain⟨s,hs⟩: ∃s,xL u 16=s:=⟨_,rfl⟩;have hfb:=fb hc u hu2;rw[hs] at hfb|-;clear hs;have hk:IntKind.u64.wrap (u:Int)=u:=by rw[IntKind.wrap_u64];omega
 have hn: ¬(u:Int)<0:=by omega
 go_enter Tryz.func196,Tryz.ntmps196
 go_wp2_with fail
 refine hfb.mono ?_;rintro e w' ⟨rfl,hb⟩
 go_wp2
 go_ret
 exact⟨rfl,hb⟩
theorem Tq {w:qD}(hc:w.cell? ⟨5,15,none⟩=some (.int .u8 4)) (u:Nat) (hu2:u<256):
  Calls Tryz.prog 170 #[.int .i64 u,.int .i64 16] w fun e w'=>e= .returned (.string ⟨(xL u 16).toArray⟩)/\Below w.heap.size w w':=by
 obtain⟨s,hs⟩: ∃s,xL u 16=s:=⟨_,rfl⟩;have hfb:=a7Z hc u hu2;rw[hs] at hfb|-;clear hs
 go_enter Tryz.func170,Tryz.ntmps170
 go_wp2_with fail
 refine hfb.mono ?_;rintro e w' ⟨rfl,hb⟩
 go_wp2
 go_ret
 exact⟨rfl,hb⟩
#print axioms Tq
end Go.Proofs.YtcpbaddnmpeipaaGreatDoor
namespace Go.Proofs
open Go.RowKit Go.Lib
def Tryz.lays105_ren:Go.Shelf.Ren:=⟨fun|105=>171|212=>197|99=>147|165=>104|166=>52|170=>198|169=>53|263=>224|264=>225|206=>179|240=>78|241=>135|276=>109|277=>172|n=>n,fun|9=>9|3=>3|4=>4|20=>20|0=>0|46=>176|109=>222|5=>5|72=>82|76=>88|51=>202|146=>203|53=>241|148=>248|70=>79|37=>80|75=>87|127=>115|164=>146|80=>90|n=>n,fun|n=>n⟩
theorem Tryz.lays105:Go.Proofs.Lays.n105 Tryz.prog Tryz.lays105_ren:={
 mixed:=by kernel_rfl
 f99:=Tryz.func147.trans (aGd some qH)
 f105:=Tryz.func171.trans (aGd some qH)
 f165:=Tryz.func104.trans (aGd some qH)
 f166:=Tryz.func52.trans (aGd some qH)
 f169:=Tryz.func53.trans (aGd some qH)
 f170:=Tryz.func198.trans (aGd some qH)
 f206:=Tryz.func179.trans (aGd some qH)
 f212:=Tryz.func197.trans (aGd some qH)
 f240:=Tryz.func78.trans (aGd some qH)
 f241:=Tryz.func135.trans (aGd some qH)
 f263:=Tryz.func224.trans (aGd some qH)
 f264:=Tryz.func225.trans (aGd some qH)
 f276:=Tryz.func109.trans (aGd some qH)
 f277:=Tryz.func172.trans (aGd some qH)
 t0:=Tryz.underlying0
 a0:=Tryz.isAgg0
 z0:=Tryz.sizeOf0
 v0:=Tryz.zeroValue0
 t3:=Tryz.underlying3
 a3:=Tryz.isAgg3
 z3:=Tryz.sizeOf3
 v3:=Tryz.zeroValue3
 t4:=Tryz.underlying4
 a4:=Tryz.isAgg4
 z4:=Tryz.sizeOf4
 v4:=Tryz.zeroValue4
 t5:=Tryz.underlying5
 a5:=Tryz.isAgg5
 z5:=Tryz.sizeOf5
 v5:=Tryz.zeroValue5
 t9:=Tryz.underlying9
 a9:=Tryz.isAgg9
 z9:=Tryz.sizeOf9
 v9:=Tryz.zeroValue9
 t20:=Tryz.underlying20
 a20:=Tryz.isAgg20
 z20:=Tryz.sizeOf20
 v20:=Tryz.zeroValue20
 t37:=Tryz.underlying80
 a37:=Tryz.isAgg80
 z37:=Tryz.sizeOf80
 v37:=Tryz.zeroValue80
 t46:=Tryz.underlying176
 a46:=Tryz.isAgg176
 z46:=Tryz.sizeOf176
 v46:=Tryz.zeroValue176
 t51:=Tryz.underlying202
 a51:=Tryz.isAgg202
 z51:=Tryz.sizeOf202
 v51:=Tryz.zeroValue202
 t53:=Tryz.underlying241
 a53:=Tryz.isAgg241
 z53:=Tryz.sizeOf241
 v53:=Tryz.zeroValue241
 t70:=Tryz.underlying79
 a70:=Tryz.isAgg79
 z70:=Tryz.sizeOf79
 v70:=Tryz.zeroValue79
 t72:=Tryz.underlying82
 a72:=Tryz.isAgg82
 z72:=Tryz.sizeOf82
 v72:=Tryz.zeroValue82
 t75:=Tryz.underlying87
 a75:=Tryz.isAgg87
 z75:=Tryz.sizeOf87
 v75:=Tryz.zeroValue87
 t76:=Tryz.underlying88
 a76:=Tryz.isAgg88
 z76:=Tryz.sizeOf88
 v76:=Tryz.zeroValue88
 t109:=Tryz.underlying222
 a109:=Tryz.isAgg222
 z109:=Tryz.sizeOf222
 v109:=Tryz.zeroValue222
 t127:=Tryz.underlying115
 a127:=Tryz.isAgg115
 z127:=Tryz.sizeOf115
 v127:=Tryz.zeroValue115
 t146:=Tryz.underlying203
 a146:=Tryz.isAgg203
 z146:=Tryz.sizeOf203
 v146:=Tryz.zeroValue203
 t148:=Tryz.underlying248
 a148:=Tryz.isAgg248
 z148:=Tryz.sizeOf248
 v148:=Tryz.zeroValue248
 t164:=Tryz.underlying146
 a164:=Tryz.isAgg146
 z164:=Tryz.sizeOf146
 v164:=Tryz.zeroValue146}
theorem Tryz.Builder_Extra_105:Builder.Extra Tryz.prog Tryz.lays105_ren:={
 sizeBuilder:=by kernel_rfl
 liesBuilder:=by kernel_rfl
 t5:=Tryz.underlying5
 a5:=Tryz.isAgg5
 z5:=Tryz.sizeOf5
 v5:=Tryz.zeroValue5
 infoByte:=by kernel_rfl
 cellsByte:=by kernel_rfl
 sizeByte:=by kernel_rfl
 neB5:=by decide}
end Go.Proofs
namespace Go.Proofs.YtcpbaddnmpeipaaGreatDoor
open Vc Go.RowKit
def ng (n:Int):Prop:=n=16
instance (n:Int):Decidable (ng n):=inferInstanceAs (Decidable (n=16))
@[go_sem] def nh:List qQ->List qP->Option r5
 |[(.val (.int .i64) O,none),(.val (.int .i64) Z,none)],[]=>some ⟨[0<=O/\O<256/\ng Z],[(.val .str (xL O Z),none)],[]⟩
 |_,_=>none
theorem a71:xJ Tryz.prog 170 nh:=by
 refine IJ (fun _ _=>rfl) fun g w args vals L r hT ha hC hs=>?_;unfold nh at hC;split at hC
 .rename_i c d;cases hC;obtain⟨h1,h2,h3⟩:=hs _ aGa;obtain⟨va,_,rfl,ra,vb,_,rfl,rb,hv⟩:=ha;obtain rfl:=wH ra.1;obtain rfl:=wH rb.1;cases hv;obtain⟨u,rfl⟩: ∃u:Nat,c=((u:Nat):Int):=⟨Int.toNat c,(Int.toNat_of_nonneg h1).symm⟩;have h2:(u:Int)<256:=h2;obtain rfl:d=(16:Int):=h3;have hcell:w.cell? ⟨5,15,none⟩=some (.int .u8 4):=(hT.2.2.2 _ aGa).2;exact⟨rfl,rfl,(Tq hcell u pT).mono fun e w' ⟨he,hb⟩=>⟨_,he,hb,DC _ _ _,trivial⟩⟩
 cases hC
def NA (s:pP) (c:Int):pP:=Lib.repeatL s c.toNat
@[go_sem] def ni:List qQ->List qP->Option r5
 |[(.val .str O,none),(.val (.int .i64) Z,none)],[]=>some ⟨[0<=Z/\Z<=140737488355328/\(List.length O:Int)*Z<=140737488355328],[(.val .str (NA O Z),none)],[]⟩
 |_,_=>none
theorem a73:xJ Tryz.prog 171 ni:=by
 refine IJ (fun _ _=>rfl) fun g w args vals L r hT ha hC hs=>?_;unfold ni at hC;split at hC
 .rename_i s c;cases hC;obtain⟨h1,h2,h3⟩:=hs _ aGa;obtain⟨va,_,rfl,ra,vb,_,rfl,rb,hv⟩:=ha;obtain rfl:=x7 ra.1;obtain rfl:=wH rb.1;cases hv;obtain⟨u,rfl⟩: ∃u:Nat,c=((u:Nat):Int):=⟨Int.toNat c,(Int.toNat_of_nonneg h1).symm⟩;have h2:(u:Int)<=140737488355328:=h2;have h3:((List.length s:Nat):Int)*(u:Int)<=140737488355328:=h3;have h4:List.length s*u<=140737488355328:=by rw[<-Int.natCast_mul] at h3;exact Int.ofNat_le.1 h3
  have h:=Any.strings_Repeat Tryz.lays105 Tryz.Builder_Extra_105 ⟨List.toArray s⟩ u w pT (by show (List.toArray s).size*u<=_;rw[aGT];exact h4);exact⟨rfl,rfl,h.mono fun e w' ⟨he,hb⟩=>⟨_,he,hb,DC _ _ _,trivial⟩⟩
 cases hC
def YS (_c:Int):pP:=[]
@[go_sem] def nj:List qQ->List qP->Option r5
 |[(.val (.int .u8) O,none)],[]=>some ⟨[False],[(.val .str (YS O),none)],[]⟩
 |_,_=>none
theorem a74:xJ Tryz.prog 102 nj:=by
 refine IJ (fun _ _=>rfl) fun g w args vals L r hT ha hC hs=>?_;unfold nj at hC;split at hC
 .cases hC;exact(hs _ aGa).elim
 cases hC
end Go.Proofs.YtcpbaddnmpeipaaGreatDoor
