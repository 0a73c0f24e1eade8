/- Packed by a program of mine (wip/tools/pack.py): the same texts with short names and few blanks. -/
import Derived.ChangeKeysEq
import Derived.KernelRfl
import Derived.Laws.BytesArg
import Derived.Laws.StructEq
import Derived.Lib.AppendStr
import Derived.OrdersIn
import Derived.RangeFuncLeaves
import Derived.RangeFuncNested
import Derived.Scope
import Derived.WalkSpells
import Derived.Test.YtbbpilohihldiaaGreatDoorZ00
set_option linter.unusedVariables false
set_option linter.unusedSimpArgs false
set_option linter.unusedSectionVars false
set_option maxRecDepth 100000
set_option maxHeartbeats 4000000
namespace Go.Proofs.YtbbpilohihldiaaGreatDoor.Vc
open Go.RowKit
theorem a6D {P:Program}{w:World}{r:Nat}{s:ByteArray}{n:Nat}(hb:w.heap[r]? =some (.stringIter s n)):(getObj r).run P w= .ok (.stringIter s n) w:=by
 simp [getObj,Sem.run,hb]
theorem aEP {P:Program}{w:World}{r:Nat}{s:ByteArray}{n:Nat}(o:Obj) (hb:w.heap[r]? =some (.stringIter s n)):(setObj r o).run P w= .ok () {w with heap:=w.heap.setIfInBounds r o}:=by
 simp [setObj,Sem.run,hb]
section
variable {P:Program}{o:Oper}{a:Act}{g:Gh}{w:World}{H:qO}{T:rO}(hT:vK P T) (hH:rH g w H)
include hT hH
theorem qU.newIter {side:List Prop}{rds:List Nat}{base:Nat}{s:List UInt8}(hf:g.J base=none) (hc:g.cur base=fun _=>none):
  qU g w H ⟨side,(.val .ref (some (base,0)),none),[(base,.iter s 0)],rds⟩ (g.var base w.heap.size none) (w.alloc (.stringIter ⟨s.toArray⟩ 0)) (.pointer (some ⟨w.heap.size,0,none⟩)):=by
 have hJ:(g.var base w.heap.size none).J base=some ⟨w.heap.size,0,none⟩:=by simp [Gh.var]
 have le:Le g w (g.var base w.heap.size none) (w.alloc (.stringIter ⟨s.toArray⟩ 0)):=⟨fun _ _ h=>h,fun b o h=>aM7 (a:=⟨b,o,none⟩) (aNg _ _ _ (hH.sl b o h)),fun i p h=>by
  show (if i=base then _ else _)=_;rw[aMK (fun e1=>by rw[e1,hf] at h;cases h)];exact h,fun _ _ _ h=>h⟩
 have fr:Fr (rQ g H (pB [(base,oX.iter s 0)])) w (w.alloc (.stringIter ⟨s.toArray⟩ 0)) g.S (g.var base w.heap.size none).S:=
  ⟨rfl,rfl,rfl,by simp,fun b hb _=>aNg _ _ _ hb,fun b o hb _=>⟨aM7 (a:=⟨b,o,none⟩) (aNg _ _ _ hb),aNF (a:=⟨b,o,none⟩) (aNg _ _ _ hb)⟩,fun b o h=> .inl h,fun b s h=> .inl ((CI (aNg _ _ _ (CH h))).trans h)⟩
 have gho: ∀i,i∉pB [(base,oX.iter s 0)]->(g.var base w.heap.size none).J i=g.J i/\(g.var base w.heap.size none).cur i=g.cur i:=fun i hi=>⟨by
  show (if i=base then _ else _)=_;rw[aMK (fun e1=>hi (by simp [pB,e1]))],rfl⟩
 have get: ∀i blk,i∈pB [(base,oX.iter s 0)]->p9 (pF [(base,oX.iter s 0)] H) i=some blk->i=base/\blk= .iter s 0:=by
  intro i blk hi hg;simp only[pB,aMW] at hi;subst hi;simp only[pF,p9,aOk,aMJ] at hg;exact⟨rfl,hg.symm⟩
 have perm: ∀i blk b o,i∈pB [(base,oX.iter s 0)]->p9 (pF [(base,oX.iter s 0)] H) i=some blk->qP (g.var base w.heap.size none) i blk b o->w.heap.size<=b\/rQ g H (pB [(base,oX.iter s 0)]) b o:=by
  intro i blk b o hi hg ho;obtain⟨rfl,rfl⟩:=get i blk hi hg;obtain⟨p,hp,h1⟩:=ho;rw[hJ] at hp;obtain rfl:=aML hp;exact .inl (aOh h1.symm)
 refine⟨le,⟨.inr ⟨rfl,_,hJ,rfl⟩,trivial⟩,hH.upd le fr perm gho (fun i blk hi hg=> ?_) (fun i j bi bj b o hi hj hij hgi hgj _ _=>hij ((get i bi hi hgi).1.trans (get j bj hj hgj).1.symm)) (fun b o h=>aNm (hH.sl b o h) (by simp)),fr,perm,gho,fun i u' y us h=>by
  simp only[pF,p9] at h;split at h
  ·cases h
  ·exact .inl ⟨y,us,h⟩⟩
 obtain⟨rfl,rfl⟩:=get i blk hi hg;refine⟨⟨w.heap.size,0,none⟩,hJ,rfl,?_,fun o hs=>aOx _ (hH.sl _ _ hs)⟩;show (w.heap.push (.stringIter ⟨s.toArray⟩ 0))[w.heap.size]? =_;rw[aOI]
theorem qU.updIter {side:List Prop}{rds:List Nat}{i:Nat}{s:List UInt8}{n n':Nat}{d:oZ}{val:Value}{p:Pl}(hi:p9 H i=some (.iter s n)) (hp:g.J i=some p) (hp0:p.2=0) (hb:w.heap[p.1]? =some (.stringIter ⟨s.toArray⟩ n)) (hS: ∀o,¬g.S p.1 o) (hd:pW g {w with heap:=w.heap.setIfInBounds p.1 (.stringIter ⟨s.toArray⟩ n')} d val):
  qU g w H ⟨side,d,[(i,.iter s n')],rds⟩ g {w with heap:=w.heap.setIfInBounds p.1 (.stringIter ⟨s.toArray⟩ n')} val:=by
 have hlt:p.1<w.heap.size:=(aNc.1 hb).1;have hoth: ∀b,b≠p.1->(w.heap.setIfInBounds p.1 (.stringIter ⟨s.toArray⟩ n'))[b]? =w.heap[b]? :=fun b hne=>by rw[aN4 (Ne.symm hne)]
 have hown: ∀o,rQ g H (pB [(i,oX.iter s n')]) p.1 o:=fun o=>⟨i,_,by simp [pB],hi,p,hp,rfl⟩;have le:Le g w g {w with heap:=w.heap.setIfInBounds p.1 (.stringIter ⟨s.toArray⟩ n')}:=⟨fun _ _ h=>h,fun b o h=>aM7 (a:=⟨b,o,none⟩) (hoth b (fun e=>hS o (e▸h))),fun _ _ h=>h,fun _ _ _ h=>h⟩
 have fr:Fr (rQ g H (pB [(i,oX.iter s n')])) w {w with heap:=w.heap.setIfInBounds p.1 (.stringIter ⟨s.toArray⟩ n')} g.S g.S:=
  ⟨rfl,rfl,rfl,by simp,fun b _ hn=>hoth b (fun e=>hn 0 (e▸hown 0)),fun b o _ hn=>⟨aM7 (a:=⟨b,o,none⟩) (hoth b (fun e=>hn (e▸hown o))),aNF (a:=⟨b,o,none⟩) (hoth b (fun e=>hn (e▸hown o)))⟩,fun b o h=> .inl h,fun b s h=>(by
   by_cases e:b=p.1
   ·exact .inr fun o=>e▸hown o
   ·exact .inl ((CI (hoth b e)).trans h))⟩
 have get: ∀j blk,j∈pB [(i,oX.iter s n')]->p9 (pF [(i,oX.iter s n')] H) j=some blk->j=i/\blk= .iter s n':=by
  intro j blk hj hg;simp only[pB,aMW] at hj;subst hj;simp only[pF,p9,aOk,aMJ] at hg;exact⟨rfl,hg.symm⟩
 have perm: ∀j blk b o,j∈pB [(i,oX.iter s n')]->p9 (pF [(i,oX.iter s n')] H) j=some blk->qP g j blk b o->w.heap.size<=b\/rQ g H (pB [(i,oX.iter s n')]) b o:=by
  intro j blk b o hj hg ho;obtain⟨rfl,rfl⟩:=get j blk hj hg;obtain⟨q,hq,rfl⟩:=ho;rw[hp] at hq;obtain rfl:=aML hq;exact .inr (hown o)
 refine⟨le,hd,hH.upd le fr perm (fun _ _=>⟨rfl,rfl⟩) (fun j blk hj hg=> ?_) (fun j j' bi bj b o hj hj' hij hgi hgj _ _=>hij ((get j bi hj hgi).1.trans (get j' bj hj' hgj).1.symm)) (fun b o h=>by simpa using hH.sl b o h),fr,perm,fun _ _=>⟨rfl,rfl⟩,fun j u' y us h=>by
  simp only[pF,p9] at h;split at h
  ·cases h
  ·exact .inl ⟨y,us,h⟩⟩
 obtain⟨rfl,rfl⟩:=get j blk hj hg;exact⟨p,hp,hp0,by simp [aOu,hlt],hS⟩
theorem aEQ {t:TypeId}{x:Operand}(ho:o.op= .range t x) {sx:oZ}(hx:pW g w sx (a.eval x)) {base:Nat}{e:pC}(hr:VA base (qC T t) sx=some e) (hf:yQ g base e):pS P o a g w H e:=by
 generalize hst:qC T t=ot at hr;unfold VA at hr;split at hr
 ·rename_i el b ar ls s k;cases hr;have hfr:=hf base (by simp [pB]) (aM2 _);have hv:=xR hx.1;have hu:=(s0 hT hst).2;simp only[wJ] at hu;refine pS.value (v:= .pointer (some ⟨w.heap.size,0,none⟩)) (w':=w.alloc (.stringIter ⟨s.toArray⟩ 0)) ?_ (qU.newIter hT hH hfr.1 (funext hfr.2));unfold execOp;rw[ho];simp only[Instr.range,hv,aMY,aM3 hu,run_newObj,aMT,aM6];rfl
 ·cases hr
theorem aER {x:Operand}{b:Bool}(ho:o.op= .next x b) {sx:oZ}(hx:pW g w sx (a.eval x)) {e:pC}(hr:Q0 H b sx=some e):pS P o a g w H e:=by
 unfold Q0 at hr;split at hr
 ·rename_i i k;unfold VB at hr;split at hr
  ·rename_i s n hb;cases hr;obtain⟨p,hp,hp0,hh,hS⟩:=hH.blk i _ hb;obtain⟨q,hq,hv⟩:=xT hx.1;rw[hp] at hq;obtain rfl:=aML hq;rw[hp0] at hv;by_cases hl:n<s.length
   ·have hsz:n<(⟨s.toArray⟩:ByteArray).size:=by simpa[ByteArray.size] using hl
    refine pS.value (v:= .tuple #[.bool true,.int .i64 (n:Int),.int .i32 (tM s n)]) (w':={w with heap:=w.heap.setIfInBounds p.1 (.stringIter ⟨s.toArray⟩ (yK s n))}) ?_ (qU.updIter hT hH hb hp hp0 hh hS ⟨⟨fun _=>rfl,fun h=>absurd hl (of_decide_eq_false h)⟩,trivial⟩)
    unfold execOp;rw[ho];have hrn:yK s n=n+(Utf8.decode ⟨s.toArray⟩ n).2:=by unfold yK V9;rw[aMI hl]
    simp only[Instr.next,hv,aMY,a6D hh,aMT,hsz,aOk,aEP _ hh,aM6,hrn];rfl
   ·have hsz: ¬n<(⟨s.toArray⟩:ByteArray).size:=by simpa[ByteArray.size] using hl
    have hrn:yK s n=n:=by unfold yK;rw[aMK hl]
    have hw:({w with heap:=w.heap.setIfInBounds p.1 (.stringIter ⟨s.toArray⟩ (yK s n))}:World)=w:=by
     rw[hrn];have:w.heap.setIfInBounds p.1 (.stringIter ⟨s.toArray⟩ n)=w.heap:=by
      obtain⟨h1,h2⟩:=aNc.1 hh;apply Array.ext_getElem?;intro j;rw[aOu];split
      ·rename_i hj;subst hj;first|rw[hh] |rw[aMI h1,hh]
      ·rfl
     rw[this]
    refine pS.value (v:= .tuple #[.bool false]) (w':={w with heap:=w.heap.setIfInBounds p.1 (.stringIter ⟨s.toArray⟩ (yK s n))}) ?_ (qU.updIter hT hH hb hp hp0 hh hS ⟨⟨fun h=>absurd (aNq h) hl,fun _=>rfl⟩,trivial⟩)
    rw[hw];unfold execOp;rw[ho];simp only[Instr.next,hv,aMY,a6D hh,aMT,hsz,aOS,aM6]
  ·cases hr
 ·cases hr
end
def pG:Nat->List oX->qO
 |_,[]=>[]
 |c,b::L=>(c,b)::pG (c+1) L
theorem QK: ∀(L:List oX) (c i:Nat),p9 (pG c L) i=if c<=i then L[i-c]? else none
 |[],c,i=>by simp [pG,p9]
 |b::L,c,i=>by
  simp only[pG,p9];by_cases h:c=i
  ·subst h;simp
  ·rw[aMK h,QK L (c+1) i];by_cases h2:c<=i
   ·rw[aMI h2,aMI (by omega)];obtain⟨d,hd⟩: ∃d,i-c=d+1:=⟨i-c-1,by omega⟩;rw[hd,aNk];congr 1;omega
   ·rw[aMK h2,aMK (by omega)]
theorem wB (L:List oX) (i:Nat):p9 (pG 0 L) i=L[i]? :=by rw[QK];simp
def xU (g:Gh) (H:qO) (b o:Nat):Prop:= ∃i blk,p9 H i=some blk/\qP g i blk b o
def uB (g:Gh) (w:World):List oZ->List Value->Prop
 |[],vs=>vs=[]
 |s::ss,vs=> ∃v vs',vs=v::vs'/\pW g w s v/\uB g w ss vs'
def MQ (g:Gh) (w:World):List oZ->Value->Prop
 |[s],v=>pW g w s v
 |l,v=> ∃vs:List Value,v= .tuple vs.toArray/\uB g w l vs
structure HV (g:Gh) (w:World) (L:List oX) (r:pD) (g':Gh) (w':World) (v:Value):Prop where
 shut: ∀b o,g.S b o->g'.S b o/\w'.cell? ⟨b,o,none⟩=w.cell? ⟨b,o,none⟩
 heap:rH g' w' (pG 0 r.H)
 ret:MQ g' w' r.ret v
 fr:Fr (xU g (pG 0 L)) w w' g.S g'.S
 perm: ∀i blk b o,r.H[i]? =some blk->qP g' i blk b o->w.heap.size<=b\/xU g (pG 0 L) b o
 J: ∀(i:Nat) t x ts,L[i]? =some (.cells t x ts)->g'.J i=g.J i
 ty: ∀(i:Nat) t x ts u y us,L[i]? =some (.cells t x ts)->r.H[i]? =some (.cells u y us)->u=t
 Jt: ∀i p,i<L.length->g.J i=some p->g'.J i=some p
 cur: ∀i n u,i<L.length->g.cur i n=some u->g'.cur i n=some u
def B7 (P:Program) (f:FuncId) (C:List oZ->List oX->Option pD):Prop:=
 (∀args w,(callFunc f args).run P w= .ok (.enter f args) w)/\
 ∀(g:Gh) (w:World) (args:List oZ) (vals:List Value) (L:List oX) (r:pD),rH g w (pG 0 L)->uB g w args vals->C args L=some r->(∀p∈r.side,p)->
  Calls P f vals.toArray w (fun e w'=> ∃v g',e= .returned v/\HV g w L r g' w' v)
def QL (P:Program) (f:FuncId) (F:(t:Ty)->List t.den->Option (List t.den)):Prop:=
 ∀(g:Gh) (w:World) (e:TypeId) (t:Ty) (l l':List t.den) (v:Value) (n:Nat) (xs:List Value),H6 w->w.ownsRow 0 e t.cells v n xs->sC (Rd g w t) t.cells l xs->l.length=n->n<4611686018427387904->F t l=some l'->
  Calls P f #[v] w (fun en w'=>en= .returned (.tuple #[])/\l'.length=n/\∃xs',w'.ownsRow 0 e t.cells v n xs'/\sC (Rd g w t) t.cells l' xs'/\w.grownBy w' v.ownBlock)
def CM (P:Program) (Γ:sZ):Prop:= ∀f s,Γ f=some s->B7 P f s.C/\∀F,s.row=some F->QL P f F
theorem a6E {g:Gh}{w:World}{t:Ty}{x:t.den}{v:Value}{k:Option Nat}(h:pW g w (.val t x,k) v):pW g w (.val t x,EB t k) v:=by
 refine⟨h.1,?_⟩;cases t with
 |list u=>exact h.2
 |_=>trivial
theorem QM {g g':Gh}{w:World}(hS:g'.S=g.S) {t:Ty}(hp:t.pure=true) {x:t.den}{v:Value}{k k':Option Nat}(h:pW g w (.val t x,k) v) (hk: ∀c,k=some c->∃c',k'=some c'/\∀n u,g.cur c n=some u->g'.cur c' n=some u) (hk0:k=none->k'=none):pW g' w (.val t x,k') v:=by
 have hv:rZ g' w t x v:=h.1.imp (fun⟨a,cs,e,q⟩=>⟨a,cs,e,uJ hS hp q⟩) (fun⟨a,q⟩=>⟨a,uJ hS hp q⟩);refine⟨hv,?_⟩;cases k with
 |none=>rw[hk0 rfl];trivial
 |some c=>
  obtain⟨c',rfl,h2⟩:=hk c rfl;have h1:=h.2;cases t with
  |list u=>exact h2 _ _ h1
  |pair a b=>exact h1
  |_=>exact h1.elim
section
variable {P:Program}{o:Oper}{a:Act}{g:Gh}{w:World}{H:qO}{T:rO}{Γ:sZ}(hT:vK P T) (hΓ:CM P Γ) (hH:rH g w H)
include hT hΓ hH
theorem WB {ti:Option TI}{s:oZ}{v:Value}(h:pW g w s v):pW g w (LQ ti s) v:=by
 unfold LQ;split
 ·have:v= .slice none 0 0:=h.1;subst this;exact⟨.inr ⟨rfl,none,0,rfl,aM2 _,.inl rfl⟩,trivial⟩
 ·exact h
theorem a6F {ρ:Operand->oZ}: ∀{xs:List Operand}{ts:List TypeId},xs.length=ts.length->(∀x∈xs,pW g w (ρ x) (a.eval x))->uB g w (EG T ρ xs ts) (xs.map a.eval)
 |[],[],_,_=>rfl
 |x::xs,t::ts,h,hx=>⟨_,_,rfl,WB hT hΓ hH (hx x (by simp)),a6F (by simpa using h) (fun y hy=>hx y (by simp [hy]))⟩
theorem aES {l m:List oZ}{vs us:List Value}(h:uB g w l vs) (k:uB g w m us):uB g w (l++m) (vs++us):=by
 induction l generalizing vs with
 |nil=>rw[show vs=[] from h];exact k
 |cons s l ih=>
  obtain⟨v,vs',rfl,h1,h2⟩:=h;exact⟨v,_,rfl,h1,ih h2⟩
theorem a6G: ∀{caps:List (Nat×Nat)}{vs:List Value},wA g caps vs->uB g w (V4 caps) vs
 |[],_,h=>h
 |(i,o)::caps,_,⟨p,vs',h1,h2,h3⟩=>⟨_,_,h2,⟨.inr ⟨rfl,p,h1,rfl⟩,trivial⟩,a6G h3⟩
end
theorem a6H {P:Program}{o:Oper}{a:Act}{f:FuncId}{fop:Operand}{args:Array Operand}{tys:Array TypeId}(ho:o.op= .call ⟨.value fop,args,tys⟩) {caps:List Value}(hf:a.eval fop= .func (.func f) #[] caps.toArray)
  (hen: ∀args w,(callFunc f args).run P w= .ok (.enter f args) w) {w:World}{K:Act->World->Prop}{Q:Exit->Act->World->Prop}
  (h:Calls P f ((args.toList.map a.eval)++caps).toArray w (fun e w'=> ∃v,e= .returned v/\K (a.put o.dst v) w')):o.wp P a w K Q:=by
 unfold Oper.wp;have:(execOp a.eval o).run P w= .ok (.enter f ((args.toList.map a.eval)++caps).toArray) w:=by
  unfold execOp;rw[ho];simp only[resolve,hf,Deferred.ofValue,aMY,aM6,aMT,invoke];rw[hen];congr 2;apply aNS.1;simp
 rw[this];unfold Oper.upon;refine h.mono fun e w' ⟨v,he,hk⟩=> ?_;subst he;exact hk
def uM (g:Gh):Option pT->Option Pl
 |some (.box i _ _ _ o)=>(g.J i).map fun p=>⟨p.1,p.2+o,p.3⟩
 |some (.tok k)=>g.J k
 |none=>none
def AB (g:Gh):Option pT->Nat->Option Value
 |some (.tok k),n=>g.cur k n
 |_,_=>none
def tV (g:Gh) (ws:List pT):Gh:=⟨g.S,fun c=>uM g ws[c]?,fun c n=>AB g ws[c]? n⟩
def QN (H:qO) (ws:List pT):pT->oX->Prop
 | .box i u x toks o,.cells t y ts=>p9 H i=some (.cells u x toks)/\pO t u x o=some y/\∀q n,(q,n)∈ts->∃k,ws[n]? =some (.tok k)/\vI toks (o+q)=some k/\q<t.cells
 | .tok k,.grow e c m=>p9 H k=some (.grow e c m)
 | .tok k,.map s t l=>p9 H k=some (.map s t l)/\s.pure=true/\t.pure=true
 | .tok k,.row e t l n=>p9 H k=some (.row e t l n)/\t.pure=true
 |_,_=>False
structure EM (H:qO) (ws:List pT) (L:List oX):Prop where
 len:ws.length=L.length
 ok: ∀(c:Nat) wh b,ws[c]? =some wh->L[c]? =some b->QN H ws wh b
 nodup:(rD ws).Nodup
def WC (ws:List pT) (t:Ty) (x y:t.den):Prop:=(t.pure=true/\y=x)\/BP ws t x=some y
def QO (H:qO) (ws:List pT):pT->oX->Prop
 | .box i u x toks o,.cells t y ts=>p9 H i=some (.cells u x toks)/\(∃y0,pO t u x o=some y0/\WC ws t y0 y)/\∀q n,(q,n)∈ts->∃k,ws[n]? =some (.tok k)/\vI toks (o+q)=some k/\q<t.cells
 | .tok k,.grow e c m=>p9 H k=some (.grow e c m)
 | .tok k,.map s t l=>p9 H k=some (.map s t l)/\s.pure=true/\t.pure=true
 | .tok k,.row e t l n=>p9 H k=some (.row e t l n)/\t.pure=true
 |_,_=>False
theorem QP {i o:Nat}: ∀{ws:List pT}{c0:Nat}{c q:Nat},ED i o ws c0=some (c,q)->∃d u x toks oc,c=c0+d/\ws[d]? =some (.box i u x toks oc)/\o=oc+q
 |[],_,_,_,h=>by simp [ED] at h
 | .box j u x toks oc::r,c0,c,q,h=>by
  simp only[ED] at h;split at h
  ·rename_i hc;simp only[aMJ,aM9] at h;obtain⟨rfl,rfl⟩:=h;obtain⟨rfl,h2⟩:=hc;exact⟨0,u,x,toks,oc,rfl,rfl,by omega⟩
  ·obtain⟨d,u',x',toks',oc',h1,h2,h3⟩:=QP h;exact⟨d+1,u',x',toks',oc',by omega,by simpa using h2,h3⟩
 | .tok k::r,c0,c,q,h=>by
  simp only[ED] at h;obtain⟨d,u',x',toks',oc',h1,h2,h3⟩:=QP h;exact⟨d+1,u',x',toks',oc',by omega,by simpa using h2,h3⟩
theorem JR {i:Nat}: ∀{ws:List pT}{c0 c:Nat},uO i ws c0=some c->∃d,c=c0+d/\ws[d]? =some (.tok i)
 |[],_,_,h=>by simp [uO] at h
 | .tok j::r,c0,c,h=>by
  simp only[uO] at h;split at h
  ·rename_i hc;simp only[aMJ] at h;subst h;subst hc;exact⟨0,rfl,rfl⟩
  ·obtain⟨d,h1,h2⟩:=JR h;exact⟨d+1,by omega,by simpa using h2⟩
 | .box _ _ _ _ _::r,c0,c,h=>by
  simp only[uO] at h;obtain⟨d,h1,h2⟩:=JR h;exact⟨d+1,by omega,by simpa using h2⟩
theorem WD {α β:Type}{a:Option α}{b:Option β}{p:α×β}(h:HC a b=some p):a=some p.1/\b=some p.2:=by
 cases a<;>cases b<;>simp [HC] at h
 subst h;exact⟨rfl,rfl⟩
theorem aET {x y:Option (Nat×List (Nat×Nat))}(h:LR x=some y):y=x/\∀f l,x=some (f,l)->l=[]:=by
 unfold LR at h;split at h
 ·cases h;exact⟨rfl,fun _ _ h=>by cases h⟩
 ·cases h;exact⟨rfl,fun _ _ h=>by cases h;rfl⟩
 ·cases h
theorem aEU {g g':Gh}{x:Option (Nat×List (Nat×Nat))}{cs:List Value}(hx: ∀f l,x=some (f,l)->l=[]) (h:MB g x cs):MB g' x cs:=by
 cases x with
 |none=>exact h
 |some q=>
  obtain⟨f,l⟩:=q;obtain rfl:=hx f l rfl;exact h
theorem QQ {g g':Gh}{w:World}(hS:g'.S=g.S) (f:(t:Ty)->t.den->Option t.den)
  (hp: ∀a b x,f (.pair a b) x=HC (if a.pure=true then some x.1 else f a x.1) (if b.pure=true then some x.2 else f b x.2))
  (hl: ∀t x,f (.list t) x=if t.pure=true then some x else none) (hb: ∀x,f .bool x=some x) (hi: ∀k x,f (.int k) x=some x) (hs: ∀x,f .str x=some x) (hu: ∀x,f .unit x=some x) (hfn: ∀x,f .fn x=some x) (hrl: ∀e t x y cs,f (.rl e t) x=some y->BR g x cs->BR g' y cs) (hmr: ∀x y cs,f .mref x=some y->MC g x cs->MC g' y cs)
  (hr: ∀x y cs,f .ref x=some y->MA g x cs->MA g' y cs) (hm: ∀x y cs,f .mp x=some y->JK g x cs->JK g' y cs) (hc: ∀x,f .clo x=LR x):
  ∀{t:Ty}{x y:t.den}{cs:List Value},Rd g w t x cs->f t x=some y->Rd g' w t y cs
 | .bool,_,_,_,r,h=>by rw[hb] at h;cases h;exact r
 | .int _,_,_,_,r,h=>by rw[hi] at h;cases h;exact r
 | .str,_,_,_,r,h=>by rw[hs] at h;cases h;exact r
 | .unit,_,_,_,r,h=>by rw[hu] at h;cases h;exact r
 | .rl e t,x,y,_,r,h=>hrl e t x y _ h r
 | .fn,_,_,_,r,h=>by rw[hfn] at h;cases h;exact r
 | .mref,x,y,_,r,h=>hmr x y _ h r
 | .list t,x,y,_,r,h=>by
  rw[hl] at h;split at h
  ·rename_i hpu;cases h;exact uJ hS (t:= .list t) (by simpa[Ty.pure] using hpu) r
  ·cases h
 | .ref,x,y,_,r,h=>hr x y _ h r
 | .clo,x,y,_,r,h=>by
  rw[hc] at h;obtain⟨rfl,h2⟩:=aET h;exact aEU h2 r
 | .mp,x,y,_,r,h=>hm x y _ h r
 | .pair a b,x,y,_,⟨c1,c2,e,r1,r2⟩,h=>by
  rw[hp] at h;obtain⟨h1,h2⟩:=WD h;refine⟨c1,c2,e,?_,?_⟩
  ·split at h1
   ·rename_i hpu;exact(aML h1)▸uJ hS hpu r1
   ·exact QQ hS f hp hl hb hi hs hu hfn hrl hmr hr hm hc r1 h1
  ·split at h2
   ·rename_i hpu;exact(aML h2)▸uJ hS hpu r2
   ·exact QQ hS f hp hl hb hi hs hu hfn hrl hmr hr hm hc r2 h2
theorem WE (f:(t:Ty)->t.den->Option t.den)
  (hp: ∀a b x,f (.pair a b) x=HC (if a.pure=true then some x.1 else f a x.1) (if b.pure=true then some x.2 else f b x.2))
  (hl: ∀t x,f (.list t) x=if t.pure=true then some x else none) {u:Ty}: ∀{t:Ty}{x y:t.den}{o:Nat}{l:List u.den},f t x=some y->pO (.list u) t x o=some l->pO (.list u) t y o=some l:=by
 intro t
 induction t with
 |pair a b iha ihb=>
  intro x y o l h hg;rw[hp] at h;obtain⟨h1,h2⟩:=WD h;have key: ∀z:(Ty.pair a b).den,∀q,pO (.list u) (.pair a b) z q=if q<a.cells then pO (.list u) a z.1 q else pO (.list u) b z.2 (q-a.cells):=by
   intro z q;cases q with
   |zero=>
    conv=>lhs;unfold pO
    rw[aOq (by intro e;cases e),Nat.zero_sub]
   |succ q=>simp [pO]
  rw[key] at hg⊢;split
  ·rename_i ho;rw[aMI ho] at hg;split at h1
   ·rw[<-aML h1];exact hg
   ·exact iha h1 hg
  ·rename_i ho;rw[aMK ho] at hg;split at h2
   ·rw[<-aML h2];exact hg
   ·exact ihb h2 hg
 |list v=>
  intro x y o l h hg;rw[hl] at h;split at h
  ·cases h;exact hg
  ·cases h
 |_=>
  intro x y o l h hg;cases o with
  |zero=>
   unfold pO at hg;split at hg
   ·rename_i e;cases e
   ·cases hg
  |succ o=>simp [pO] at hg
theorem aEV {g:Gh}{w:World}{ws:List pT}{t:Ty}{x y:t.den}{cs:List Value}(r:Rd g w t x cs) (h:BP ws t x=some y):Rd (tV g ws) w t y cs:=by
 refine QQ (g:=g) (g':=tV g ws) rfl (BP ws) (fun a b x=>rfl) (fun t x=>rfl) (fun _=>rfl) (fun _ _=>rfl) (fun _=>rfl) (fun _=>rfl) (fun _=>rfl) (fun _ _ x y cs h r=> ?_) (fun x y cs h r=> ?_) (fun x y cs h r=> ?_) (fun x y cs h r=> ?_) (fun _=>rfl) r h
 ·cases x with
  |none=>cases h;exact r
  |some q=>
   obtain⟨k,n⟩:=q;simp only[BP,a5m] at h;cases hc:uO k ws 0 with
   |none=>rw[hc] at h;cases h
   |some c=>
    rw[hc] at h;cases h;obtain⟨d,rfl,h2⟩:=JR hc;obtain⟨v,hv,hs⟩:=r;refine⟨v,?_,hs⟩;show AB g ws[0+d]? n=_;rw[aNd,h2];exact hv
 ·cases x with
  |none=>cases h;exact r
  |some q=>
   obtain⟨i,o⟩:=q;simp only[BP,OW] at h;cases hc:ED i o ws 0 with
   |none=>rw[hc] at h;cases h
   |some q=>
    obtain⟨c,q⟩:=q;rw[hc] at h;cases h;obtain⟨d,u,x,toks,oc,rfl,h2,rfl⟩:=QP hc;obtain⟨p,hp,hv⟩:=r;refine⟨⟨p.1,p.2+oc,p.3⟩,?_,by have:=hv.1;rwa [<-aNn] at this,hv.2.imp id fun hv=>by rw[hv];simp [aNn]⟩;show uM g ws[0+d]? =_;rw[aNd,h2];simp [uM,hp]
 ·cases x with
  |none=>cases h;exact r
  |some q=>
   obtain⟨i,o⟩:=q;simp only[BP,OW] at h;cases hc:ED i o ws 0 with
   |none=>rw[hc] at h;cases h
   |some q=>
    obtain⟨c,q⟩:=q;rw[hc] at h;cases h;obtain⟨d,u,x,toks,oc,rfl,h2,rfl⟩:=QP hc;obtain⟨p,hp,hv⟩:=r;refine⟨⟨p.1,p.2+oc,p.3⟩,?_,by rw[hv];simp [aNn]⟩;show uM g ws[0+d]? =_;rw[aNd,h2];simp [uM,hp]
 ·cases x with
  |none=>cases h;exact r
  |some i=>
   simp only[BP,a5l] at h;cases hc:uO i ws 0 with
   |none=>rw[hc] at h;cases h
   |some c=>
    rw[hc] at h;cases h;obtain⟨d,rfl,h2⟩:=JR hc;obtain⟨p,hp,hv⟩:=r;refine⟨p,?_,hv⟩;show uM g ws[0+d]? =_;rw[aNd,h2];exact hp
theorem aEW {g:Gh}{w:World}{ws:List pT}{t:Ty}{x y:t.den}{cs:List Value}(h:WC ws t x y) (r:Rd g w t x cs):Rd (tV g ws) w t y cs:=by
 rcases h with⟨hp,rfl⟩ |h
 ·exact uJ (g:=g) (g':=tV g ws) rfl hp r
 ·exact aEV r h
theorem aEX {ws:List pT}{t u:Ty}{x y:t.den}{o:Nat}{l:List u.den}(h:WC ws t x y) (hg:pO (.list u) t x o=some l):pO (.list u) t y o=some l:=by
 rcases h with⟨_,rfl⟩ |h
 ·exact hg
 ·exact WE (BP ws) (fun _ _ _=>rfl) (fun _ _=>rfl) h hg
structure MR (H:qO) (ws:List pT) (L:List oX):Prop where
 len:ws.length=L.length
 ok: ∀(c:Nat) wh b,ws[c]? =some wh->L[c]? =some b->QO H ws wh b
 nodup:(rD ws).Nodup
theorem WF: ∀(ws:List pT) (c:Nat),(rD ws)[c]? =(ws[c]?).map pT.id
 |[],c=>by simp [rD]
 |w::ws,0=>rfl
 |w::ws,c+1=>by simpa[rD] using WF ws c
theorem G0: ∀ws ws':List pT,rD (ws++ws')=rD ws++rD ws'
 |[],_=>rfl
 |w::ws,ws'=>by simp [rD,G0 ws ws']
theorem HW: ∀{i:Nat}{l:List Nat},BO i l=true↔i∈l
 |i,[]=>by simp [BO]
 |i,j::r=>by
  simp only[BO,aM1];by_cases h:i=j
  ·simp [h]
  ·rw[aMK h,HW];simp [h]
theorem QR {ws:List pT}(h:(rD ws).Nodup) {c c':Nat}{x y:pT}(hx:ws[c]? =some x) (hy:ws[c']? =some y) (he:x.id=y.id):c=c':=by
 have h1:(rD ws)[c]? =some x.id:=by rw[WF,hx];rfl
 have h2:(rD ws)[c']? =some x.id:=by rw[WF,hy,he];rfl
 obtain⟨l1,e1⟩:=aMX.1 h1;obtain⟨l2,e2⟩:=aMX.1 h2;have hp:=aNX.1 h;rcases Nat.lt_trichotomy c c' with h3|h3|h3
 ·exact absurd (e1.trans e2.symm) (hp c c' l1 l2 h3)
 ·exact h3
 ·exact absurd (e2.trans e1.symm) (hp c' c l2 l1 h3)
theorem a6I: ∀{toks:List (Nat×Nat)}{q k:Nat},vI toks q=some k->(q,k)∈toks
 |[],_,_,h=>by simp [vI] at h
 |(q',k')::r,q,k,h=>by
  simp only[vI] at h;split at h
  ·rename_i e;subst e;simp only[aMJ] at h;subst h;simp
  ·exact aM4 _ (a6I h)
theorem aEY {v t:Ty}: ∀{u:Ty}{x:u.den}{o q:Nat}{y:t.den}{l:(Ty.list v).den},pO t u x o=some y->pO (.list v) u x (o+q)=some l->q<t.cells->pO (.list v) t y q=some l:=by
 intro u
 induction u with
 |pair a b iha ihb=>
  intro x o q y l h g hq;by_cases hu:o=0/\t= .pair a b
  ·obtain⟨rfl,rfl⟩:=hu;unfold pO at h;rw[aOR rfl] at h;simp only[sY,aMJ] at h;subst h;simpa using g
  ·have keyh:(if o<a.cells then pO t a x.1 o else pO t b x.2 (o-a.cells))=some y:=by
    cases o with
    |zero=>
     unfold pO at h;rw[aOq (fun e=>hu ⟨rfl,e.symm⟩)] at h;simpa using h
    |succ o=>simpa[pO] using h
   have keyg: ∀z,pO (.list v) (.pair a b) x z=(if z<a.cells then pO (.list v) a x.1 z else pO (.list v) b x.2 (z-a.cells)):=by
    intro z;cases z with
    |zero=>
     conv=>lhs;unfold pO
     rw[aOq (by intro e;cases e),Nat.zero_sub]
    |succ z=>simp [pO]
   rw[keyg] at g;by_cases ho:o<a.cells
   ·rw[aMI ho] at keyh;have hfit:o+t.cells<=a.cells:=by
     have: ∀{u:Ty}{x:u.den}{o:Nat}{y:t.den},pO t u x o=some y->o+t.cells<=u.cells:=by
      intro u
      induction u with
      |pair a b iha ihb=>
       intro x o y h;have key: ∀o,(if o<a.cells then pO t a x.1 o else pO t b x.2 (o-a.cells))=some y->o+t.cells<=a.cells+b.cells:=by
        intro o h;by_cases ho:o<a.cells
        ·rw[aMI ho] at h;have:=iha h;omega
        ·rw[aMK ho] at h;have:=ihb h;omega
       cases o with
       |zero=>
        unfold pO at h;split at h
        ·rename_i e;subst e;simp
        ·exact key 0 (by simpa using h)
       |succ o=>exact key (o+1) (by simpa[pO] using h)
      |_=>
       intro x o y h;cases o with
       |zero=>
        unfold pO at h;split at h
        ·rename_i e;subst e;simp
        ·simp at h
       |succ o=>simp [pO] at h
     exact this keyh
    rw[aMI (by omega)] at g;exact iha keyh g hq
   ·rw[aMK ho] at keyh;rw[aMK (by omega),show o+q-a.cells=o-a.cells+q from by omega] at g;exact ihb keyh g hq
 |_=>
  intro x o q y l h g hq;cases o with
  |zero=>
   unfold pO at h;split at h
   ·rename_i e;subst e;simp only[sY,aMJ] at h
    try subst h
    simpa using g
   ·simp at h
  |succ o=>simp [pO] at h
theorem aEZ {g:Gh}{w:World}{H:qO}{ws:List pT}{L:List oX}(hH:rH g w H) (hm:MR H ws L):rH (tV g ws) w (pG 0 L):=by
 have wsL: ∀c b,p9 (pG 0 L) c=some b->∃wh,ws[c]? =some wh/\QO H ws wh b:=by
  intro c b h;rw[wB] at h;have hlt:c<ws.length:=hm.len▸(aMX.1 h).1;exact⟨ws[c],aMR hlt,hm.ok c _ b (aMR hlt) h⟩
 have own: ∀c b wh,ws[c]? =some wh->QO H ws wh b->∀bb oo,qP (tV g ws) c b bb oo->∃blk,p9 H wh.id=some blk/\qP g wh.id blk bb oo:=by
  intro c b wh hwh hw bb oo ho;cases wh with
  |box i u x toks off=>
   cases b with
   |cells t y ts=>
    obtain⟨h1,⟨y0,h2,h3⟩,h4⟩:=hw;obtain⟨p,hp,e1,e2,e3⟩:=ho;have hp':uM g ws[c]? =some p:=hp;rw[hwh] at hp';obtain⟨p0,hp0,rfl⟩:=aMZ.1 hp';obtain⟨p1,cs,hp1,hR,_⟩:=hH.blk i _ h1;obtain⟨c1,c2,c3,hcs,hl,hR2⟩:=CG hR h2;have l1:=rP hR;have l2:=rP hR2;rw[hcs] at l1;simp only[aMN] at l1;exact⟨_,h1,p0,hp0,e1,by simp at e2;omega,by simp at e3;omega⟩
   |_=>exact hw.elim
  |tok k=>
   cases b with
   |grow e cc m=>
    obtain⟨v,hv,hb⟩:=ho;have hv':AB g ws[c]? m=some v:=hv;rw[hwh] at hv';exact⟨_,hw,v,hv',hb⟩
   |map s t l=>
    obtain⟨p,hp,hb⟩:=ho;have hp':uM g ws[c]? =some p:=hp;rw[hwh] at hp';exact⟨_,hw.1,p,hp',hb⟩
   |row e t l m=>
    obtain⟨v,hv,hb⟩:=ho;have hv':AB g ws[c]? m=some v:=hv;rw[hwh] at hv';exact⟨_,hw.1,v,hv',hb⟩
   |_=>exact hw.elim
 refine⟨fun c b h=> ?_,fun c c' b b' bb oo hne h1 h2 o1 o2=> ?_,hH.sl,hH.tab.1,fun c b bb oo h ho=> ?_⟩
 rotate_right
 ·obtain⟨wh,hwh,hw⟩:=wsL c b h;obtain⟨k1,g1,p1⟩:=own c b wh hwh hw bb oo ho;exact hH.tab.2 _ _ bb oo g1 p1
 ·obtain⟨wh,hwh,hw⟩:=wsL c b h;cases wh with
  |box i u x toks off=>
   cases b with
   |cells t y ts=>
    obtain⟨h1,⟨y0,h2,h3⟩,h4⟩:=hw;obtain⟨p,cs,hp,hR,hra,hth,hns,htk⟩:=hH.blk i _ h1;obtain⟨c1,c2,c3,rfl,rfl,hR2⟩:=CG hR h2;have l1:=rP hR;have l2:=rP hR2;simp only[aMN] at l1;refine⟨⟨p.1,p.2+c1.length,p.3⟩,c2,?_,aEW h3 hR2,fun j v hv=> ?_,⟨fun j hj=> ?_,fun h0 s hs=>hth.2 (by omega) s hs⟩,fun j hj hs=> ?_,fun q n hm'=> ?_⟩
    ·show uM g ws[c]? =_;rw[hwh];simp [uM,hp]
    ·have:=hra (c1.length+j) v (by
      have hj':=(aMX.1 hv).1;rw[aMU,aMV (by omega),aNv,aM0 hj'];exact hv)
     rw[aNn];exact this
    ·have:=hth.1 (c1.length+j) (by omega);rw[aNn];exact this
    ·exact hns (c1.length+j) (by omega) (by rw[<-aNn];exact hs)
    ·obtain⟨k,k1,k2,k3⟩:=h4 q n hm';have hmem:(c1.length+q,k)∈toks:=a6I k2;obtain⟨u',l,v,g1,g2,g3⟩:=htk _ _ hmem;refine⟨u',l,v,aEX h3 (aEY h2 g1 k3),?_,?_⟩
     ·rw[aMU,aMV (by omega),aNv,aM0 (by omega)] at g2;exact g2
     ·show AB g ws[n]? _=_;rw[k1];exact g3
   |_=>exact hw.elim
  |tok k=>
   cases b with
   |grow e cc m=>
    have e1:(tV g ws).cur c=g.cur k:=by
     funext n;show AB g ws[c]? n=_;rw[hwh];rfl
    obtain⟨v,xs,hv,hr,hn,hs⟩:=hH.blk k _ hw;exact⟨v,xs,by rw[e1];exact hv,hr,fun m hm'=>by rw[e1];exact hn m hm',hs⟩
   |map s t l=>
    obtain⟨p,es,cl,hp,hp0,hh,hM,hS⟩:=hH.blk k _ hw.1;refine⟨p,es,cl,?_,hp0,hh,MD (g:=g) (g':=tV g ws) rfl hw.2.1 hw.2.2 hM,hS⟩;show uM g ws[c]? =_;rw[hwh];exact hp
   |row e t l m=>
    have e1:(tV g ws).cur c=g.cur k:=by
     funext n;show AB g ws[c]? n=_;rw[hwh];rfl
    obtain⟨hl,v,xs,hv,hr,hF,hn,hs⟩:=hH.blk k _ hw.1;exact⟨hl,v,xs,by rw[e1];exact hv,hr,B5 (fun _ _ h=>uJ (g:=g) (g':=tV g ws) rfl hw.2 h) hF,fun m hm'=>by rw[e1];exact hn m hm',hs⟩
   |_=>exact hw.elim
 ·obtain⟨wh,hwh,hw⟩:=wsL c b h1;obtain⟨wh',hwh',hw'⟩:=wsL c' b' h2;obtain⟨k1,g1,p1⟩:=own c b wh hwh hw bb oo o1;obtain⟨k2,g2,p2⟩:=own c' b' wh' hwh' hw' bb oo o2;exact hH.dis wh.id wh'.id k1 k2 bb oo (fun e=>hne (QR hm.nodup hwh hwh' e)) g1 g2 p1 p2
theorem a6J {H:qO}{ws more:List pT}: ∀{wh:pT}{b:oX},QN H ws wh b->QN H (ws++more) wh b
 | .box _ _ _ _ _,.cells _ _ _,⟨h1,h2,h4⟩=>⟨h1,h2,fun q n h=>let ⟨k,k1,k2⟩:=h4 q n h;⟨k,by rw[aM0 (aMX.1 k1).1];exact k1,k2⟩⟩
 | .box _ _ _ _ _,.grow _ _ _,h=>h.elim
 | .box _ _ _ _ _,.dead,h=>h.elim
 | .box _ _ _ _ _,.row _ _ _ _,h=>h.elim
 | .box _ _ _ _ _,.map _ _ _,h=>h.elim
 | .box _ _ _ _ _,.iter _ _,h=>h.elim
 | .tok _,.iter _ _,h=>h.elim
 | .tok _,.row _ _ _ _,h=>h
 | .tok _,.grow _ _ _,h=>h
 | .tok _,.map _ _ _,h=>h
 | .tok _,.cells _ _ _,h=>h.elim
 | .tok _,.dead,h=>h.elim
theorem JS (g:Gh) (w:World) (ws more:List pT):Le (tV g ws) w (tV g (ws++more)) w:=by
 refine⟨fun _ _ h=>h,fun _ _ _=>rfl,fun c p h=> ?_,fun c n v h=> ?_⟩
 ·have h':uM g ws[c]? =some p:=h;show uM g (ws++more)[c]? =some p;cases hc:ws[c]? with
  |none=>rw[hc] at h';cases h'
  |some wh=>rw[aM0 (aMX.1 hc).1];exact h'
 ·have h':AB g ws[c]? n=some v:=h;show AB g (ws++more)[c]? n=some v;cases hc:ws[c]? with
  |none=>rw[hc] at h';cases h'
  |some wh=>rw[aM0 (aMX.1 hc).1];exact h'
theorem JT {g g':Gh}{w w':World}(h:Le g w g' w'): ∀{ss:List oZ}{vs:List Value},uB g w ss vs->uB g' w' ss vs
 |[],_,r=>r
 |_::_,_,⟨v,vs',e,r1,r2⟩=>⟨v,vs',e,A9 h r1,JT h r2⟩
theorem G1 {g:Gh}{w:World}: ∀{ss:List oZ}{vs:List Value}{s:oZ}{v:Value},uB g w ss vs->pW g w s v->uB g w (ss++[s]) (vs++[v])
 |[],_,_,_,h,k=>by rw[show _=[] from h];exact⟨_,_,rfl,k,rfl⟩
 |_::_,_,_,_,⟨v,vs',e,r1,r2⟩,k=>⟨v,vs'++_,by rw[e];rfl,r1,G1 r2 k⟩
theorem EM.tok {H:qO}{ws:List pT}{L:List oX}(h:EM H ws L) {k:Nat}{b0:oX}(hk:QN H (ws++[.tok k]) (.tok k) b0) (hn:k∉rD ws):EM H (ws++[.tok k]) (L++[b0]):=by
 refine⟨by simp [h.len],fun i wh b h1 h2=> ?_,?_⟩
 ·by_cases hi:i<ws.length
  ·rw[aM0 hi] at h1;rw[aM0 (h.len▸hi)] at h2;exact a6J (h.ok i wh b h1 h2)
  ·rw[aMV (by omega)] at h1;rw[aMV (by rw[<-h.len];omega),<-h.len] at h2;obtain⟨d,hd⟩: ∃d,i-ws.length=d:=⟨_,rfl⟩;rw[hd] at h1 h2;cases d with
   |zero=>
    simp only[aNe,aMJ] at h1 h2;subst h1;subst h2;exact hk
   |succ d=>simp at h1
 ·rw[G0];exact List.nodup_append.2 ⟨h.nodup,by simp [rD],fun a ha b hb=>by
   simp only[rD,pT.id,aMW] at hb;subst hb;intro e;exact hn (e▸ha)⟩
theorem a6K: ∀{os:List Nat}{n q m:Nat},(q,m)∈HA os n->∃j:Nat,os[j]? =some q/\m=n+j
 |[],_,_,_,h=>by simp [HA] at h
 |q'::os,n,q,m,h=>by
  simp only[HA,aM1,aM9] at h;rcases h with⟨rfl,rfl⟩ |h
  ·exact⟨0,rfl,rfl⟩
  ·obtain⟨j,h1,h2⟩:=a6K h;exact⟨j+1,by simpa using h1,by omega⟩
theorem a6L {n:Nat}: ∀{os:List Nat}{j q:Nat},J3 n os=true->os[j]? =some q->q<n
 |[],_,_,_,h=>by simp at h
 |q'::os,0,q,h,h2=>by
  simp only[J3,aMS,aMQ] at h;simp only[aNe,aMJ] at h2;exact h2▸h.1
 |q'::os,j+1,q,h,h2=>by
  simp only[J3,aMS] at h;exact a6L h.2 (by simpa using h2)
theorem QS {H:qO}{toks:List (Nat×Nat)}{o:Nat}: ∀{os:List Nat}{a a':rW},wG H toks o os (some a)=some a'->
  ∃(ks:List Nat) (bs:List oX),ks.length=os.length/\bs.length=os.length/\a'.args=a.args/\a'.H.reverse=a.H.reverse++bs/\a'.ws.reverse=a.ws.reverse++ks.map pT.tok/\a'.n=a.n+os.length/\
   (∀(j:Nat) q k,os[j]? =some q->ks[j]? =some k->vI toks (o+q)=some k)/\(∀(j:Nat) k b,ks[j]? =some k->bs[j]? =some b->p9 H k=some b/\∃e c m,b= .grow e c m)/\(∀k∈ks,k∉rD a.ws.reverse)/\ks.Nodup
 |[],a,a',h=>by
  simp only[wG,aMJ] at h;subst h;exact⟨[],[],rfl,rfl,rfl,by simp,by simp,rfl,by simp,by simp,by simp,by simp⟩
 |q::os,a,a',h=>by
  simp only[wG] at h;have none_no: ∀os,wG H toks o os none=none:=by
   intro os
   induction os with
   |nil=>rfl
   |cons q os ih=>
    have:xN H (vI toks (o+q)) none=none:=by
     cases vI toks (o+q) with
     |none=>rfl
     |some k=>simp only[xN];cases p9 H k with
      |none=>rfl
      |some b=>cases b<;>rfl
    simp only[wG,this,ih]
  cases hk:vI toks (o+q) with
  |none=>rw[hk] at h;simp only[xN,none_no] at h;cases h
  |some k=>
   rw[hk] at h;simp only[xN] at h;cases hb:p9 H k with
   |none=>rw[hb] at h;simp only[AU,none_no] at h;cases h
   |some b=>
    rw[hb] at h;cases b with
    |grow e c m=>
     simp only[AU] at h;by_cases hm:BO k (rD a.ws)=true
     ·rw[aMI hm,none_no] at h;cases h
     ·rw[aMK hm] at h;obtain⟨ks,bs,h1,h2,h3,h4,h5,h6,h7,h8,h9,h10⟩:=QS h;simp only[aNx] at h4 h5 h9;have hrev: ∀ws:List pT,∀i,i∈rD ws.reverse↔i∈rD ws:=by
       intro ws i
       induction ws with
       |nil=>simp
       |cons x r ih=>rw[aNx,G0];simp [rD,ih,or_comm]
      refine⟨k::ks,.grow e c m::bs,by simp [h1],by simp [h2],h3,by rw[h4];simp,by rw[h5];simp,by rw[h6];simp;omega,fun j q' k'=> ?_,fun j k' b'=> ?_,fun k' hk'=> ?_,?_⟩
      ·cases j with
       |zero=>intro e1 e2;simp only[aNe,aMJ] at e1 e2;subst e1;subst e2;exact hk
       |succ j=>intro e1 e2;exact h7 j q' k' (by simpa using e1) (by simpa using e2)
      ·cases j with
       |zero=>intro e1 e2;simp only[aNe,aMJ] at e1 e2;subst e1;subst e2;exact⟨hb,_,_,_,rfl⟩
       |succ j=>intro e1 e2;exact h8 j k' b' (by simpa using e1) (by simpa using e2)
      ·rcases aM1.1 hk' with rfl|hk'
       ·rw[hrev];exact fun hmem=>hm (HW.2 hmem)
       ·intro hmem;exact h9 k' hk' (by rw[G0];exact List.mem_append_left _ hmem)
      ·refine List.nodup_cons.2 ⟨fun hmem=>h9 k hmem (by rw[G0];simp [rD,pT.id]),h10⟩
    |cells t y ts=>simp only[AU,none_no] at h;cases h
    |row=>simp only[AU,none_no] at h;cases h
    |map=>simp only[AU,none_no] at h;cases h
    |iter=>simp only[AU,none_no] at h;cases h
    |dead=>simp only[AU,none_no] at h;cases h
theorem a6M: ∀ks:List Nat,rD (ks.map pT.tok)=ks
 |[]=>rfl
 |k::ks=>by simp [rD,pT.id,a6M ks]
theorem EM.box {H:qO}{ws:List pT}{L:List oX}(h:EM H ws L) {t u:Ty}{x:u.den}{y:t.den}{toks:List (Nat×Nat)}{i o:Nat}{os ks:List Nat}{bs:List oX}(hi:p9 H i=some (.cells u x toks)) (hy:pO t u x o=some y) (hlt:J3 t.cells os=true) (hn:i∉rD ws)
  (h1:ks.length=os.length) (h2:bs.length=os.length) (h7: ∀(j:Nat) q k,os[j]? =some q->ks[j]? =some k->vI toks (o+q)=some k) (h8: ∀(j:Nat) k b,ks[j]? =some k->bs[j]? =some b->p9 H k=some b/\∃e c m,b= .grow e c m) (h9: ∀k∈ks,k∉rD (ws++[.box i u x toks o])) (h10:ks.Nodup):
  EM H ((ws++[.box i u x toks o])++ks.map pT.tok) ((L++[.cells t y (HA os (ws.length+1))])++bs):=by
 have hlen1:(ws++[pT.box i u x toks o]).length=ws.length+1:=by simp
 have hlen2:(L++[oX.cells t y (HA os (ws.length+1))]).length=ws.length+1:=by simp [h.len]
 refine⟨by simp [h.len,h1,h2],fun c wh b e1 e2=> ?_,?_⟩
 ·by_cases hc:c<ws.length
  ·rw[aM0 (by omega),aM0 hc] at e1;rw[aM0 (by omega),aM0 (h.len▸hc)] at e2;rw[aMU];exact a6J (h.ok c wh b e1 e2)
  ·by_cases hc2:c=ws.length
   ·subst hc2;rw[aM0 (by omega),aMV (aM2 _),aOG] at e1;rw[aM0 (by omega),aMV (by rw[h.len];exact aM2 _),h.len,aOG] at e2;simp only[aNe,aMJ] at e1 e2;subst e1;subst e2;refine⟨hi,hy,fun q n hm=> ?_⟩;rw[<-h.len] at hm;obtain⟨j,hj,rfl⟩:=a6K hm;have hjl:j<ks.length:=by rw[h1];exact(aMX.1 hj).1
    refine⟨ks[j],?_,h7 j q _ hj (aMR hjl),a6L hlt hj⟩;rw[aMV (by omega),hlen1,show ws.length+1+j- (ws.length+1)=j from by omega];simp [hjl]
   ·rw[aMV (by omega),hlen1] at e1;rw[aMV (by omega),hlen2] at e2;rw[List.getElem?_map] at e1;obtain⟨k,hk,rfl⟩:=aMZ.1 e1;obtain⟨hg,e,cc,m,rfl⟩:=h8 _ k b hk e2;exact hg
 ·rw[G0,a6M];refine List.nodup_append.2 ⟨?_,h10,fun a ha b hb e=>h9 b hb (e▸ha)⟩;rw[G0];exact List.nodup_append.2 ⟨h.nodup,by simp [rD],fun a ha b hb=>by
   simp only[rD,pT.id,aMW] at hb;subst hb;intro e;exact hn (e▸ha)⟩
theorem QT (ws:List pT) (i:Nat):i∈rD ws.reverse↔i∈rD ws:=by
 induction ws with
 |nil=>simp
 |cons x r ih=>rw[aNx,G0];simp [rD,ih,or_comm]
structure AC (g:Gh) (w:World) (H:qO) (vals:List Value) (a:rW):Prop where
 n:a.n=a.ws.reverse.length
 m:EM H a.ws.reverse a.H.reverse
 args:uB (tV g a.ws.reverse) w a.args.reverse vals
theorem aE0 {g:Gh}{w:World}{ws:List pT}{t:Ty}(hp:t.pure=true) {x:t.den}{v:Value}{k:Option Nat}(h:pW g w (.val t x,k) v):pW (tV g ws) w (.val t x,none) v:=
 ⟨h.1.imp (fun⟨a,cs,e,q⟩=>⟨a,cs,e,uJ (g:=g) (g':=tV g ws) rfl hp q⟩) (fun⟨a,q⟩=>⟨a,uJ (g:=g) (g':=tV g ws) rfl hp q⟩),trivial⟩
theorem aE1 {H:qO}{k:Option Nat}{a b:rW}{l m:List oZ}(h:xN H k (some ⟨l,a.H,a.ws,a.n⟩)=some b):b.args=l/\xN H k (some ⟨m,a.H,a.ws,a.n⟩)=some ⟨m,b.H,b.ws,b.n⟩:=by
 cases k with
 |none=>cases h
 |some k=>
  simp only[xN] at h⊢;cases hb:p9 H k with
  |none=>rw[hb] at h;simp [AU] at h
  |some bl=>
   rw[hb] at h;cases bl with
   |grow e c n=>
    simp only[AU] at h⊢;split at h
    ·cases h
    ·rename_i hc;rw[aMK hc];cases h;exact⟨rfl,rfl⟩
   |_=>simp [AU] at h
theorem a6N {H:qO}{toks:List (Nat×Nat)}{o:Nat}{m:List oZ}: ∀{os:List Nat}{a b:rW},wG H toks o os (some a)=some b->b.args=a.args/\wG H toks o os (some ⟨m,a.H,a.ws,a.n⟩)=some ⟨m,b.H,b.ws,b.n⟩
 |[],a,b,h=>by simp only[wG,aMJ] at h;subst h;exact⟨rfl,rfl⟩
 |q::os,a,b,h=>by
  simp only[wG] at h⊢;have none_no: ∀os,wG H toks o os none=none:=by
   intro os
   induction os with
   |nil=>rfl
   |cons q os ih=>
    have:xN H (vI toks (o+q)) none=none:=by
     cases vI toks (o+q) with
     |none=>rfl
     |some k=>simp only[xN];cases p9 H k with
      |none=>rfl
      |some b=>cases b<;>rfl
    simp only[wG,this,ih]
  cases hm:xN H (vI toks (o+q)) (some a) with
  |none=>rw[hm,none_no] at h;cases h
  |some c=>
   rw[hm] at h;obtain⟨h1,h2⟩:=aE1 (a:=a) (l:=a.args) (m:=m) hm;obtain⟨h3,h4⟩:=a6N (m:=m) h;rw[h2];exact⟨h3.trans h1,h4⟩
theorem aE2 {H:qO}{t:Ty}{os:List Nat}{i o:Nat}{a b:rW}{m:List oZ}(h:uI H t os i o a (p9 H i)=some b):uI H t os i o ⟨m,a.H,a.ws,a.n⟩ (p9 H i)=some ⟨(.val .ref (some (a.n,0)),none)::m,b.H,b.ws,b.n⟩:=by
 cases hb:p9 H i with
 |none=>rw[hb] at h;simp [uI] at h
 |some bl=>
  rw[hb] at h;cases bl with
  |cells u x toks=>
   simp only[uI] at h⊢;cases hy:pO t u x o with
   |none=>rw[hy] at h;simp [D5] at h
   |some y=>
    rw[hy] at h;simp only[D5] at h⊢;split at h
    ·rename_i hc;rw[aMI hc];exact(a6N (m:=(.val .ref (some (a.n,0)),none)::m) h).2
    ·cases h
  |_=>simp [uI] at h
theorem a6O {g:Gh}{i o:Nat}{p:Pl}{v:Value}: ∀{l:List (Nat×Nat)}{vs:List Value},wA g l vs->g.J i=some p->v= .pointer (some ⟨p.1,p.2+o,none⟩)->wA g (l++[(i,o)]) (vs++[v])
 |[],vs,h,hp,hv=>by rw[show vs=[] from h];exact⟨p,[],hp,by rw[hv];rfl,rfl⟩
 |(_,_)::l,vs,⟨q,vs',h1,h2,h3⟩,hp,hv=>⟨q,vs'++[v],h1,by rw[h2];rfl,a6O h3 hp hv⟩
theorem a6P {α:Type}: ∀(l acc:List α),xM l acc=l.reverse++acc
 |[],_=>rfl
 |x::l,acc=>by simp [xM,a6P l]
theorem a6Q {g:Gh}{w:World}{H:qO}(hH:rH g w H) {t:Ty}{os:List Nat}{i o:Nat}{vals:List Value}{a a':rW}(ha:AC g w H vals a) {p:Pl}(hp:g.J i=some p) (h:uI H t os i o a (p9 H i)=some a'):
  AC g w H vals ⟨a.args,a'.H,a'.ws,a'.n⟩/\∃more,a'.ws.reverse=a.ws.reverse++more/\a'.args=(.val .ref (some (a.n,0)),none)::a.args/\(tV g a'.ws.reverse).J a.n=some ⟨p.1,p.2+o,p.3⟩:=by
 cases hb:p9 H i with
 |none=>rw[hb] at h;simp [uI] at h
 |some b=>
  rw[hb] at h;cases b with
  |cells u x toks=>
   simp only[uI] at h;cases hy:pO t u x o with
   |none=>rw[hy] at h;simp [D5] at h
   |some y=>
    rw[hy] at h;simp only[D5] at h;split at h
    ·rename_i hc;simp only[aMS,aNh] at hc;obtain⟨ks,bs,h1,h2,h3,h4,h5,h6,h7,h8,h9,h10⟩:=QS h;simp only[aNx] at h3 h4 h5 h6 h9;have hnm:i∉rD a.ws.reverse:=fun hmem=>by
      have:=HW.2 ((QT _ _).1 hmem);rw[hc.2] at this;cases this
     have e5:a'.ws.reverse=a.ws.reverse++([pT.box i u x toks o]++ks.map pT.tok):=by rw[h5];simp only[aMU]
     refine⟨⟨by rw[h6];simp only;rw[h5,ha.n];simp [h1];omega,?_,?_⟩,_,e5,h3,?_⟩
     ·simp only;rw[h4,h5,ha.n];exact ha.m.box hb hy hc.1 hnm h1 h2 h7 h8 h9 h10
     ·simp only;rw[e5];exact JT (JS g w _ _) ha.args
     ·show uM g a'.ws.reverse[a.n]? =_;rw[e5,ha.n,aMV (aM2 _),aOG];show (g.J i).map _=_;rw[hp];rfl
    ·cases h
  |grow=>simp [uI] at h
  |row=>simp [uI] at h
  |map=>simp [uI] at h
  |iter=>simp [uI] at h
  |dead=>simp [uI] at h
theorem a6R {H:qO}{f:FuncId}{args0:List oZ}: ∀{ks:List (Ty×List Nat)}{cs ids:List (Nat×Nat)}{a a':rW},vQ H f args0 ks cs ids (some a)=some a'->∃s more,a'.args=s::args0/\a'.ws.reverse=a.ws.reverse++more
 |[],[],ids,a,a',h=>by
  simp only[vQ,aMJ] at h;subst h;exact⟨_,[],rfl,by simp⟩
 |[],_::_,_,_,_,h=>by simp [vQ] at h
 |_::_,[],_,_,_,h=>by simp [vQ] at h
 |(t,os)::ks,(i,o)::cs,ids,a,a',h=>by
  simp only[vQ] at h;cases hb:uI H t os i o a (p9 H i) with
  |none=>rw[hb] at h;cases ks<;>cases cs<;>simp [vQ] at h
  |some b=>
   rw[hb] at h;obtain⟨s,more,h1,h2⟩:=a6R h;obtain⟨more0,h3⟩: ∃more0,b.ws.reverse=a.ws.reverse++more0:=by
    unfold uI at hb;split at hb
    ·unfold D5 at hb;split at hb
     ·split at hb
      ·obtain⟨ks,bs,_,_,_,_,h5,_⟩:=QS hb;exact⟨_,by rw[h5];simp only[aNx];exact aMU ..⟩
      ·cases hb
     ·cases hb
    ·cases hb
   exact⟨s,more0++more,h1,by rw[h2,h3,aMU]⟩
theorem a6S {g:Gh}{w:World}{H:qO}(hH:rH g w H) {f:FuncId}{args0:List oZ}{vals:List Value}: ∀{ks:List (Ty×List Nat)}{cs:List (Nat×Nat)}{ids:List (Nat×Nat)}{vs us:List Value}{a a':rW},AC g w H vals ⟨args0,a.H,a.ws,a.n⟩->
  wA g cs vs->wA (tV g a.ws.reverse) ids.reverse us->vQ H f args0 ks cs ids (some a)=some a'->
  AC g w H vals ⟨args0,a'.H,a'.ws,a'.n⟩/\∃ids',a'.args=(.val .clo (some (f,ids')),none)::args0/\(∃more,a'.ws.reverse=a.ws.reverse++more)/\wA (tV g a'.ws.reverse) ids' (us++vs)
 |[],[],ids,vs,us,a,a',ha,hv,hu,h=>by
  simp only[vQ,a6P,List.append_nil,aMJ] at h;subst h;rw[show vs=[] from hv,List.append_nil];exact⟨ha,_,rfl,⟨[],by simp⟩,hu⟩
 |[],_::_,_,_,_,_,_,_,_,_,h=>by simp [vQ] at h
 |_::_,[],_,_,_,_,_,_,_,_,h=>by simp [vQ] at h
 |(t,os)::ks,(i,o)::cs,ids,vs,us,a,a',ha,⟨p,vs',hp,hv1,hv2⟩,hu,h=>by
  simp only[vQ] at h;cases hb:uI H t os i o a (p9 H i) with
  |none=>rw[hb] at h;cases ks<;>cases cs<;>simp [vQ] at h
  |some b=>
   rw[hb] at h;have hb':uI H t os i o ⟨args0,a.H,a.ws,a.n⟩ (p9 H i)=some ⟨(.val .ref (some (a.n,0)),none)::args0,b.H,b.ws,b.n⟩:=aE2 hb;obtain⟨q1,more,q2,q3,q4⟩:=a6Q hH ha hp hb';simp only at q1 q2 q3 q4;have hmono:=JS g w a.ws.reverse more;rw[<-q2] at hmono;have hu2:wA (tV g b.ws.reverse) ((a.n,0)::ids).reverse (us++[.pointer (some ⟨p.1,p.2+o,none⟩)]):=by
    simp only[aNx];exact a6O (VG hmono.J hu) q4 (by simp)
   obtain⟨z1,ids',z2,⟨more',z3⟩,z4⟩:=a6S hH (a:=b) q1 hv2 hu2 h;refine⟨z1,ids',z2,⟨more++more',by rw[z3,q2,aMU]⟩,?_⟩;rw[hv1];rw[aMU] at z4;exact z4
theorem a6T {g:Gh}{w:World}{H:qO}(hH:rH g w H) {p:PK}{s:oZ}{v:Value}{vals:List Value}{a a':rW}(ha:AC g w H vals a) (hs:pW g w s v) (h:w7 H a p s=some a'):AC g w H (vals++[v]) a':=by
 unfold w7 at h;split at h
 ·rename_i f k;simp only[OV,aMJ] at h;subst h;refine⟨ha.n,ha.m,?_⟩;simp only[aNx];refine G1 ha.args ⟨?_,trivial⟩;rcases hs.1 with⟨h1,_⟩ |⟨h1,vs,h2,h3⟩
  ·cases h1
  ·rw[show vs=[] from h2] at h3;exact .inr ⟨rfl,[],rfl,h3⟩
 ·rename_i t x k _;simp only[OU] at h;split at h
  ·rename_i hp;simp only[aMJ] at h;subst h;refine⟨ha.n,ha.m,?_⟩;simp only[aNx];exact G1 ha.args (aE0 hp hs)
  ·cases h
 ·rename_i t x k;cases hb:p9 H k with
  |none=>rw[hb] at h;simp [AV] at h
  |some b=>
   rw[hb] at h;cases b with
   |grow e c m=>
    simp only[AV] at h;split at h
    ·rename_i hc;simp only[aMS,aNh] at hc;simp only[aMJ] at h;subst h;have hnm:k∉rD a.ws.reverse:=fun hmem=>by
      have:=HW.2 ((QT _ _).1 hmem);rw[hc.2] at this;cases this
     refine⟨by simp [ha.n],by simpa using ha.m.tok (b0:= .grow e c m) hb hnm,?_⟩;simp only[aNx];refine G1 (JT (JS g w _ _) ha.args) (QM (g:=g) (g':=tV g (a.ws.reverse++[.tok k])) (k':=some a.n) rfl hc.1 hs (fun c' e1=> ?_) (fun e1=>by cases e1));cases e1;refine⟨_,rfl,fun n u hu=> ?_⟩;show AB g (a.ws.reverse++[pT.tok k])[a.n]? n=some u;rw[ha.n,aMV (aM2 _),aOG];exact hu
    ·cases h
   |cells=>simp [AV] at h
   |row=>simp [AV] at h
   |map=>simp [AV] at h
   |iter=>simp [AV] at h
   |dead=>simp [AV] at h
 ·rename_i t os i o k;obtain⟨p,hp,hv⟩:=xT hs.1;obtain⟨h1,more,h2,h3,h4⟩:=a6Q hH ha hp h;refine⟨h1.n,h1.m,?_⟩;rw[h3];simp only[aNx];exact G1 h1.args ⟨.inr ⟨rfl,_,h4,by rw[hv];rfl⟩,trivial⟩
 ·rename_i i k;cases hb:p9 H i with
  |none=>rw[hb] at h;simp [AW] at h
  |some b=>
   rw[hb] at h;cases b with
   |map s t l=>
    simp only[AW] at h;split at h
    ·rename_i hc;simp only[aMS,aNh] at hc;simp only[aMJ] at h;subst h;have hnm:i∉rD a.ws.reverse:=fun hmem=>by
      have:=HW.2 ((QT _ _).1 hmem);rw[hc.2] at this;cases this
     refine⟨by simp [ha.n],by simpa using ha.m.tok (b0:= .map s t l) ⟨hb,hc.1.1,hc.1.2⟩ hnm,?_⟩;simp only[aNx];obtain⟨p,hp,hv⟩: ∃p,g.J i=some p/\v= .map (some p.1):=by
      obtain⟨p,h1,e⟩:=AA rfl hs.1;simp only[aNB,and_true] at e;exact⟨p,h1,e⟩
     refine G1 (JT (JS g w _ _) ha.args) ⟨.inr ⟨rfl,p,?_,by rw[hv]⟩,trivial⟩;show uM g (a.ws.reverse++[pT.tok i])[a.n]? =_;rw[ha.n,aMV (aM2 _),aOG];exact hp
    ·cases h
   |cells=>simp [AW] at h
   |row=>simp [AW] at h
   |grow=>simp [AW] at h
   |iter=>simp [AW] at h
   |dead=>simp [AW] at h
 ·rename_i k n k';cases hb:p9 H k with
  |none=>rw[hb] at h;simp [AX] at h
  |some b=>
   rw[hb] at h;cases b with
   |row e t l m=>
    simp only[AX] at h;split at h
    ·rename_i hc;simp only[aMS,aNh] at hc;simp only[aMJ] at h;subst h;have hnm:k∉rD a.ws.reverse:=fun hmem=>by
      have:=HW.2 ((QT _ _).1 hmem);rw[hc.2] at this;cases this
     refine⟨by simp [ha.n],by simpa using ha.m.tok (b0:= .row e t l m) ⟨hb,hc.1⟩ hnm,?_⟩;simp only[aNx];obtain⟨h1,h2⟩:=hs.1;refine G1 (JT (JS g w _ _) ha.args) ⟨⟨?_,h2⟩,trivial⟩;show AB g (a.ws.reverse++[pT.tok k])[a.n]? n=_;rw[ha.n,aMV (aM2 _),aOG];exact h1
    ·cases h
   |cells=>simp [AX] at h
   |grow=>simp [AX] at h
   |map=>simp [AX] at h
   |iter=>simp [AX] at h
   |dead=>simp [AX] at h
 ·rename_i ks f cs k';obtain⟨vs,hv1,hv2⟩: ∃vs,wA g cs vs/\v= .func (.func f) #[] vs.toArray:=by
   rcases hs.1 with⟨h1,_⟩ |⟨_,vs,h2,h3⟩
   ·cases h1
   ·simp only[aNB,and_true] at h3;exact⟨vs,h2,h3⟩
  obtain⟨z1,ids',z2,_,z4⟩:=a6S hH (ids:=[]) (a:=a) (us:=[]) ha hv1 rfl h;refine⟨z1.n,z1.m,?_⟩;rw[z2];simp only[aNx];exact G1 z1.args ⟨.inr ⟨rfl,vs,by simpa using z4,by rw[hv2]⟩,trivial⟩
 ·cases h
theorem a6U {g:Gh}{w:World}{H:qO}(hH:rH g w H): ∀{ps:List PK}{ss:List oZ}{vs vals:List Value}{a a':rW},AC g w H vals a->uB g w ss vs->vR H ps ss (some a)=some a'->AC g w H (vals++vs) a'
 |[],[],vs,vals,a,a',ha,hs,h=>by
  simp only[vR,aMJ] at h;subst h;rw[show vs=[] from hs,List.append_nil];exact ha
 |p::ps,s::ss,vs,vals,a,a',ha,⟨v,vs',e,h1,h2⟩,h=>by
  simp only[vR] at h;cases ho:w7 H a p s with
  |none=>rw[ho] at h;cases ps<;>cases ss<;>simp [vR] at h
  |some a1=>
   rw[ho] at h;have:=a6U hH (a6T hH ha h1 ho) h2 h;rw[e];simpa using this
 |[],_::_,_,_,_,_,_,_,h=>by simp [vR] at h
 |_::_,[],_,_,_,_,_,_,h=>by simp [vR] at h
theorem AC.nil (g:Gh) (w:World) (H:qO):AC g w H [] ⟨[],[],[],0⟩:=
 ⟨rfl,⟨rfl,fun c wh b h _=>by simp at h,by simp [rD]⟩,rfl⟩
theorem a6V: ∀(l:List oX) (n:Nat),FO l n=l[n]?
 |[],_=>by simp [FO]
 |_::_,0=>rfl
 |_::r,n+1=>by simpa[FO] using a6V r n
theorem aE3 {g:Gh}{w:World}: ∀{t:Ty}{x:t.den}{cs:List Value}{o:Nat}{y:Option (Nat×Nat)},Rd g w t x cs->EC t x o=some y->∃cs',BR g y cs':=by
 intro t
 induction t with
 |pair a b iha ihb=>
  intro x cs o y r h;obtain⟨c1,c2,_,r1,r2⟩:=r;simp only[EC] at h;split at h
  ·exact iha r1 h
  ·exact ihb r2 h
 |rl e u=>
  intro x cs o y r h;cases o with
  |zero=>simp only[EC,aMJ] at h;subst h;exact⟨cs,r⟩
  |succ o=>simp [EC] at h
 |_=>intro x cs o y r h;cases o<;>simp [EC] at h
theorem aE4 {g:Gh}{w:World}{H:qO}(hH:rH g w H) {vals:List Value}{a:rW}(ha:AC g w H vals a) (c q:Nat) (pk:PK): ∃v,pW g w (HB q pk (FO a.H c)) v:=by
 rw[a6V];have any: ∃v,pW g w (.any,none) v:=⟨undef,trivial,trivial⟩;cases hb:a.H[c]? with
 |none=>cases pk<;>exact any
 |some b=>
  cases b with
  |cells t y ts=>
   have hlt:c<a.H.length:=(aMX.1 hb).1;have hb':a.H.reverse[a.H.length-1-c]? =some (.cells t y ts):=by
    rw[List.getElem?_reverse (by omega),show a.H.length-1- (a.H.length-1-c)=c by omega];exact hb
   obtain⟨wh,hwh⟩: ∃wh,a.ws.reverse[a.H.length-1-c]? =some wh:=by
    have hl:=ha.m.len;simp only[List.length_reverse] at hl;exact⟨_,aMR (by rw[List.length_reverse];omega)⟩
   have hw:=ha.m.ok _ wh _ hwh hb';cases wh with
   |tok k=>exact hw.elim
   |box i u x toks off=>
    obtain⟨h1,h2,_⟩:=hw;obtain⟨p,cs,hp,hR,_⟩:=hH.blk i _ h1;obtain⟨c1,c2,c3,hcs,hl,hR2⟩:=CG hR h2;cases pk with
    |p t' os=>
     simp only[HB];cases hg:pO .ref t y q with
     |none=>exact any
     |some z=>
      cases z with
      |none=>exact any
      |some z=>
       obtain⟨d1,d2,d3,_,_,hR3⟩:=CG hR2 hg;obtain⟨p',hp',e⟩:=hR3;exact⟨_,.inr ⟨rfl,p',hp',rfl⟩,trivial⟩
    |m=>
     simp only[HB];cases hg:pO .mp t y q with
     |none=>exact any
     |some z=>
      cases z with
      |none=>exact any
      |some z=>
       obtain⟨d1,d2,d3,_,_,hR3⟩:=CG hR2 hg;obtain⟨p',hp',e⟩:=hR3;exact⟨_,.inr ⟨rfl,p',hp',rfl⟩,trivial⟩
    |v=>exact any
    |own=>exact any
    |f ks=>exact any
    |r=>
     simp only[HB];cases hg:EC t y q with
     |none=>exact any
     |some z=>
      cases z with
      |none=>exact any
      |some z=>
       obtain⟨cs',hR3⟩:=aE3 hR2 hg;obtain⟨v,hv,_,hsh⟩:=hR3;exact⟨v,⟨hv,hsh⟩,trivial⟩
  |_=>cases pk<;>exact any
theorem a6W {g:Gh}{w:World}{H:qO}(hH:rH g w H) {vals:List Value}: ∀{gs:List (Nat×Nat×PK)}{a a':rW},AC g w H vals a->A5 H gs (some a)=some a'->AC g w H vals a'
 |[],a,a',ha,h=>by
  simp only[A5,aMJ] at h;subst h;exact ha
 |(c,q,pk)::gs,a,a',ha,h=>by
  simp only[A5] at h;obtain⟨v,hv⟩:=aE4 hH ha (a.n-1-c) q pk;cases hp:w7 H a pk (HB q pk (FO a.H (a.n-1-c))) with
  |none=>
   rw[hp] at h;simp only[J4] at h;cases gs<;>simp [A5] at h
  |some b=>
   rw[hp] at h;simp only[J4] at h;have hb:=a6T hH ha hv hp;refine a6W hH (a:=⟨a.args,b.H,b.ws,b.n⟩) ⟨hb.n,hb.m,?_⟩ h;obtain⟨s,more,e1,e2⟩: ∃s more,b.args=s::a.args/\b.ws.reverse=a.ws.reverse++more:=by
    have hp':=hp;unfold w7 at hp';split at hp'
    ·simp only[OV,aMJ] at hp';subst hp';exact⟨_,[],rfl,by simp⟩
    ·simp only[OU] at hp';split at hp'
     ·simp only[aMJ] at hp';subst hp';exact⟨_,[],rfl,by simp⟩
     ·cases hp'
    ·unfold AV at hp';split at hp'
     ·split at hp'
      ·simp only[aMJ] at hp';subst hp';exact⟨_,[_],rfl,aNx ..⟩
      ·cases hp'
     ·cases hp'
    ·unfold uI at hp';split at hp'
     ·unfold D5 at hp';split at hp'
      ·split at hp'
       ·obtain⟨ks,bs,_,_,h3,_,h5,_⟩:=QS hp';exact⟨_,_,h3,by rw[h5];simp only[aNx];exact aMU ..⟩
       ·cases hp'
      ·cases hp'
     ·cases hp'
    ·unfold AW at hp';split at hp'
     ·split at hp'
      ·simp only[aMJ] at hp';subst hp';exact⟨_,[_],rfl,aNx ..⟩
      ·cases hp'
     ·cases hp'
    ·unfold AX at hp';split at hp'
     ·split at hp'
      ·simp only[aMJ] at hp';subst hp';exact⟨_,[_],rfl,aNx ..⟩
      ·cases hp'
     ·cases hp'
    ·exact a6R hp'
    ·cases hp'
   rw[e2];exact JT (JS g w _ _) ha.args
theorem aE5 {b:Option oX}{l:Option (List oX)}{r:List oX}(h:U9 b l=some r): ∃b' l',b=some b'/\l=some l'/\r=b'::l':=by
 cases b<;>cases l<;>simp [U9] at h
 exact⟨_,_,rfl,rfl,h.symm⟩
theorem a6X {W:List pT}: ∀{L0 L:List oX},FP W L0=some L->L.length=L0.length/\∀(c:Nat) (b:oX),L[c]? =some b->∃b0,L0[c]? =some b0/\OX W b0=some b
 |[],L,h=>by
  simp only[FP,aMJ] at h;subst h;exact⟨rfl,fun c b h=>by simp at h⟩
 |b0::L0,L,h=>by
  simp only[FP] at h;obtain⟨b',l',h1,h2,rfl⟩:=aE5 h;obtain⟨k1,k2⟩:=a6X h2;refine⟨by simp [k1],fun c b hc=> ?_⟩;cases c with
  |zero=>simp only[aNe,aMJ] at hc;subst hc;exact⟨b0,rfl,h1⟩
  |succ c=>obtain⟨b1,q1,q2⟩:=k2 c b (by simpa using hc);exact⟨b1,by simpa using q1,q2⟩
theorem EM.ren {H:qO}{ws:List pT}{L0 L:List oX}(h:EM H ws L0) (hc:FP ws L0=some L):MR H ws L:=by
 obtain⟨k1,k2⟩:=a6X hc;refine⟨h.len.trans k1.symm,fun c wh b hw hb=> ?_,h.nodup⟩;obtain⟨b0,q1,q2⟩:=k2 c b hb;have hok:=h.ok c wh b0 hw q1;cases b0 with
 |cells t y ts=>
  cases wh with
  |tok k=>exact hok.elim
  |box i u x toks o=>
   obtain⟨h1,h2,h3⟩:=hok;simp only[OX] at q2;split at q2
   ·rename_i hp;obtain rfl:=aML q2;exact⟨h1,⟨y,h2,.inl ⟨hp,rfl⟩⟩,h3⟩
   ·cases hy:BP ws t y with
    |none=>rw[hy] at q2;cases q2
    |some z=>
     rw[hy] at q2;obtain rfl:=aML q2;exact⟨h1,⟨y,h2,.inr hy⟩,h3⟩
 |_=>
  simp only[OX,aMJ] at q2;subst q2;cases wh<;>exact hok
theorem yS: ∀(W:List pT) (c:Nat),zM W c=W[c]?
  |[],c=>by simp [zM]
  |_::_,0=>rfl
  |_::W,c+1=>by simpa[zM] using yS W c
theorem a6Y: ∀L:List oX,pN L=L.length
  |[]=>rfl
  |_::L=>by simp [pN,a6Y L]
theorem a6Z {α:Type}: ∀(l acc:List α),xM l acc=l.reverse++acc
  |[],_=>rfl
  |x::l,acc=>by simp [xM,a6Z l]
theorem WG {a:Option (Nat×oX)}{b:Option (List (Nat×oX))}{l:List (Nat×oX)}(h:LS a b=some l): ∃q r,a=some q∧b=some r∧l=q::r:=by
  cases a<;>cases b<;>simp [LS] at h
  exact⟨_,_,rfl,rfl,h.symm⟩
def G2 (base n:Nat) (W ws:List pT) (R:List oX) (c0:Nat) (id:Nat) (b:oX):Prop:=
  (∃(c:Nat) (i:Nat) (u:Ty) (x:u.den) (toks:List (Nat×Nat)) (o:Nat) (b0:oX),ws[c]? =some (.box i u x toks o)∧id=i∧R[c]? =some b0∧vS base n i o W u x toks b0=some (i,b))∨
  (∃(c k:Nat) (b0:oX),ws[c]? =some (.tok k)∧id=k∧R[c]? =some b0∧yJ k b0=some (k,b))∨
  (∃(c:Nat) (b0:oX),R[c]? =some b0∧id=base+(c0+c)∧ws[c]? =none∧CB base n (c0+c) W b0=some (id,b))
theorem G2.succ {base n:Nat}{W:List pT}{wh:pT}{ws:List pT}{b0:oX}{R:List oX}{c0 id:Nat}{b:oX}(h:G2 base n W ws R (c0+1) id b):G2 base n W (wh::ws) (b0::R) c0 id b:=by
  rcases h with⟨c,i,u,x,toks,o,b1,h1,h2,h3,h4⟩ |⟨c,k,b1,h1,h2,h3,h4⟩ |⟨c,b1,h1,h2,h3,h4⟩
  ·exact .inl ⟨c+1,i,u,x,toks,o,b1,by simpa using h1,h2,by simpa using h3,h4⟩
  ·exact .inr (.inl ⟨c+1,k,b1,by simpa using h1,h2,by simpa using h3,h4⟩)
  ·exact .inr (.inr ⟨c+1,b1,by simpa using h1,by rw[h2];omega,by simpa using h3,by rw[show c0+(c+1)=c0+1+c from by omega];exact h4⟩)
theorem G2.succ0 {base n:Nat}{W:List pT}{b0:oX}{R:List oX}{c0 id:Nat}{b:oX}(h:G2 base n W [] R (c0+1) id b):G2 base n W [] (b0::R) c0 id b:=by
  rcases h with⟨c,i,u,x,toks,o,b1,h1,_⟩ |⟨c,k,b1,h1,_⟩ |⟨c,b1,h1,h2,h3,h4⟩
  ·simp at h1
  ·simp at h1
  ·exact .inr (.inr ⟨c+1,b1,by simpa using h1,by rw[h2];omega,by simp,by rw[show c0+(c+1)=c0+1+c from by omega];exact h4⟩)
theorem a60 {i:Nat}{t:Ty}{ts:List (Nat×Nat)}{o:Option t.den}{q:Nat×oX}(h:a5q i t ts o=some q): ∃y,o=some y∧q=(i,.cells t y ts):=by
  cases o with
  |none=>cases h
  |some y=>exact⟨y,rfl,(aML h).symm⟩
theorem aE6 {base n c:Nat}{W:List pT}{b:oX}{q:Nat×oX}(h:CB base n c W b=some q):q.1=base+c:=by
  cases b<;>simp only[CB] at h
  · split at h
    ·exact(aML h)▸rfl
    ·obtain⟨y,_,rfl⟩:=a60 h;rfl
  ·exact(aML h)▸rfl
  · split at h
    ·exact(aML h)▸rfl
    ·cases h
  · split at h
    ·exact(aML h)▸rfl
    ·cases h
  ·cases h
  ·exact(aML h)▸rfl
def bY (base n:Nat) (W:List pT) (t:Ty) (x y:t.den):Prop:=(t.pure=true∧y=x)∨AY base n W t x=some y
theorem WH {base n i o:Nat}{W:List pT}{u t:Ty}{x:u.den}{y:t.den}{toks ts:List (Nat×Nat)}{q:Nat×oX}(h:vS base n i o W u x toks (.cells t y ts)=some q):
    ∃y2 z,bY base n W t y y2∧rN t y2 u x o=some z∧q=(i,.cells u z (pF (CA base n W o ts) (u7 toks o t.cells))):=by
  simp only[vS] at h;split at h
  · rename_i hp
    cases hs:rN t y u x o with
    |none=>rw[hs] at h;simp [OZ] at h
    |some z=>rw[hs] at h;exact⟨y,z,.inl ⟨hp,rfl⟩,hs,(aML h).symm⟩
  · cases hy:AY base n W t y with
    |none=>rw[hy] at h;cases h
    | some y2=>
      rw[hy] at h;simp only[a5r] at h;cases hs:rN t y2 u x o with
      |none=>rw[hs] at h;simp [OZ] at h
      |some z=>rw[hs] at h;exact⟨y2,z,.inr hy,hs,(aML h).symm⟩
theorem aE7 {k:Nat}{b:oX}{q:Nat×oX}(h:yJ k b=some q):q.1=k:=by
  cases b<;>simp only[yJ] at h
  ·cases h
  ·exact(aML h)▸rfl
  · split at h
    ·exact(aML h)▸rfl
    ·cases h
  · split at h
    ·exact(aML h)▸rfl
    ·cases h
  ·cases h
  ·exact(aML h)▸rfl
theorem aE8 {base n i o:Nat}{W:List pT}{u:Ty}{x:u.den}{toks:List (Nat×Nat)}{b:oX}{q:Nat×oX}(h:vS base n i o W u x toks b=some q):q.1=i:=by
  cases b with
  |cells t y ts=>obtain⟨y2,z,_,_,rfl⟩:=WH h;rfl
  |grow=>simp [vS] at h
  |row=>simp [vS] at h
  |map=>simp [vS] at h
  |iter=>simp [vS] at h
  |dead=>simp only[vS,aMJ] at h;exact h▸rfl
theorem JU {base n:Nat}{W:List pT}: ∀{ws:List pT}{R:List oX}{c0:Nat}{upd:List (Nat×oX)},A6 base n W c0 ws R=some upd→
    ws.length≤R.length∧(∀id b,p9 upd id=some b→G2 base n W ws R c0 id b)∧(∀id,id∈pB upd→∃b,p9 upd id=some b)∧
    (∀(c:Nat) wh,ws[c]? =some wh→wh.id∈pB upd)∧(∀(c:Nat) b,R[c]? =some b→ws[c]? =none→base+(c0+c)∈pB upd)
  | [],[],_,upd,h=>by
    simp only[A6,aMJ] at h;subst h;exact⟨aM2 _,fun _ _ h=>by simp [p9] at h,fun _ h=>by simp [pB] at h,fun _ _ h=>by simp at h,fun _ _ h=>by simp at h⟩
  | [],b::R,c0,upd,h=>by
    simp only[A6] at h;obtain⟨q,r,h1,h2,rfl⟩:=WG h;obtain⟨k1,k2,k3,k4,k5⟩:=JU h2;have hq:=aE6 h1;obtain⟨q1,q2⟩:=q;simp only at hq;subst hq;refine⟨by simp,fun id b' hg=> ?_,fun id hi=> ?_,fun c wh hw=>by simp at hw,fun c b' hb hn=> ?_⟩
    · simp only[p9] at hg
      split at hg
      · rename_i e
        obtain rfl:=aML hg;subst e;exact .inr (.inr ⟨0,b,rfl,rfl,by simp,h1⟩)
      ·exact(k2 id b' hg).succ0
    · simp only[p9]
      by_cases e:base+c0=id
      ·rw[aMI e];exact⟨_,rfl⟩
      · rw[aMK e]
        simp only[pB,aM1] at hi;exact k3 id (hi.resolve_left (Ne.symm e))
    · cases c with
      |zero=>simp [pB]
      | succ c=>
        have:=k5 c b' (by simpa using hb) (by simp);simp only[pB,aM1];right;rw[show base+(c0+(c+1))=base+(c0+1+c) from by omega];exact this
  | .box i u x toks o::ws,[],c0,upd,h=>by simp [A6] at h
  | .tok k::ws,[],c0,upd,h=>by simp [A6] at h
  | .box i u x toks o::ws,b::R,c0,upd,h=>by
    simp only[A6] at h;obtain⟨q,r,h1,h2,rfl⟩:=WG h;obtain⟨k1,k2,k3,k4,k5⟩:=JU h2;have hq:=aE8 h1;obtain⟨q1,q2⟩:=q;simp only at hq;subst hq;refine⟨by simp;omega,fun id b' hg=> ?_,fun id hi=> ?_,fun c wh hw=> ?_,fun c b' hb hn=> ?_⟩
    · simp only[p9] at hg
      split at hg
      · rename_i e
        obtain rfl:=aML hg;subst e;exact .inl ⟨0,q1,u,x,toks,o,b,rfl,rfl,rfl,h1⟩
      ·exact(k2 id b' hg).succ
    · simp only[p9]
      by_cases e:q1=id
      ·rw[aMI e];exact⟨_,rfl⟩
      · rw[aMK e]
        simp only[pB,aM1] at hi;exact k3 id (hi.resolve_left (Ne.symm e))
    · cases c with
      |zero=>simp only[aNe,aMJ] at hw;subst hw;simp [pB,pT.id]
      |succ c=>simp only[pB,aM1];exact .inr (k4 c wh (by simpa using hw))
    · cases c with
      |zero=>simp at hn
      | succ c=>
        have:=k5 c b' (by simpa using hb) (by simpa using hn);simp only[pB,aM1];right;rw[show base+(c0+(c+1))=base+(c0+1+c) from by omega];exact this
  | .tok k::ws,b::R,c0,upd,h=>by
    simp only[A6] at h;obtain⟨q,r,h1,h2,rfl⟩:=WG h;obtain⟨k1,k2,k3,k4,k5⟩:=JU h2;have hq:=aE7 h1;obtain⟨q1,q2⟩:=q;simp only at hq;subst hq;refine⟨by simp;omega,fun id b' hg=> ?_,fun id hi=> ?_,fun c wh hw=> ?_,fun c b' hb hn=> ?_⟩
    · simp only[p9] at hg
      split at hg
      · rename_i e
        obtain rfl:=aML hg;subst e;exact .inr (.inl ⟨0,q1,b,rfl,rfl,rfl,h1⟩)
      ·exact(k2 id b' hg).succ
    · simp only[p9]
      by_cases e:q1=id
      ·rw[aMI e];exact⟨_,rfl⟩
      · rw[aMK e]
        simp only[pB,aM1] at hi;exact k3 id (hi.resolve_left (Ne.symm e))
    · cases c with
      |zero=>simp only[aNe,aMJ] at hw;subst hw;simp [pB,pT.id]
      |succ c=>simp only[pB,aM1];exact .inr (k4 c wh (by simpa using hw))
    · cases c with
      |zero=>simp at hn
      | succ c=>
        have:=k5 c b' (by simpa using hb) (by simpa using hn);simp only[pB,aM1];right;rw[show base+(c0+(c+1))=base+(c0+1+c) from by omega];exact this
def sE (g g':Gh) (base:Nat) (W:List pT) (ids:List Nat):Gh:=
  ⟨g'.S,fun i=>if base≤i∧i∈ids then g'.J (i-base) else match uO i W 0 with|some c=>g'.J c|none=>g.J i,
   fun i=>if base≤i∧i∈ids then g'.cur (i-base) else match uO i W 0 with|some c=>g'.cur c|none=>g.cur i⟩
theorem QU {n c:Nat}{wh:Option pT}:J5 n c wh=true↔c<n∧wh=none:=by
  cases wh with
  |none=>simp [J5]
  |some wh=>simp [J5]
theorem aE9 {base n c i:Nat}{wh:Option pT}(h:zN base n c wh=some i):wh=some (.tok i)∨(wh=none∧c<n∧i=base+c):=by
  cases wh with
  | none=>
    simp only[zN] at h;split at h
    ·rename_i hc;exact .inr ⟨rfl,hc,(aML h).symm⟩
    ·cases h
  | some wh=>
    cases wh with
    |box=>cases h
    |tok k=>simp only[zN,aMJ] at h;subst h;exact .inl rfl
theorem QV {i:Nat}: ∀{ws:List pT}{c0:Nat},(∀c:Nat,ws[c]? ≠some (.tok i))→uO i ws c0=none
  |[],_,_=>rfl
  | .tok j::r,c0,h=>by
    simp only[uO];split
    ·rename_i e;subst e;exact absurd rfl (h 0)
    ·exact QV (fun c=>by have:=h (c+1);simpa using this)
  | .box _ _ _ _ _::r,c0,h=>by
    simp only[uO];exact QV (fun c=>by have:=h (c+1);simpa using this)
theorem aFa {i c:Nat}{ws:List pT}(hnd:(rD ws).Nodup) (h:ws[c]? =some (.tok i)):uO i ws 0=some c:=by
  cases hc:uO i ws 0 with
  | none=>
    exfalso
    have: ∀{ws:List pT}{c0 c:Nat},ws[c]? =some (.tok i)→uO i ws c0≠none:=by
      intro ws
      induction ws with
      |nil=>intro c0 c h;simp at h
      | cons wh r ih=>
        intro c0 c h;cases c with
        | zero=>
          simp only[aNe,aMJ] at h;subst h;simp [uO]
        | succ c=>
          simp only[aNk] at h;cases wh with
          |box=>exact ih h
          | tok j=>
            simp only[uO];split
            ·simp
            ·exact ih h
    exact this h hc
  | some d=>
    obtain⟨d',e1,h2⟩:=JR hc;rw[aNd] at e1;subst e1;rw[QR hnd h h2 rfl]
theorem Fr.mono {A B:Nat→Nat→Prop}{w w':World}{S S':Nat→Nat→Prop}(h:Fr A w w' S S') (hAB: ∀b o,A b o→B b o):Fr B w w' S S':=
  ⟨h.os,h.tape,h.output,h.size,fun b hb hn=>h.blk b hb (fun o ho=>hn o (hAB b o ho)),fun b o hb hn=>h.cell b o hb (fun ho=>hn (hAB b o ho)),fun b o hs=>(h.new b o hs).imp id (Or.imp id (hAB b o)),fun b s hs=>(h.shape b s hs).imp id fun h o=>hAB b o (h o)⟩
theorem QW {base n:Nat}{W:List pT}{o:Nat}: ∀{ts:List (Nat×Nat)}{q k:Nat},(q,k)∈CA base n W o ts→∃q' c,(q',c)∈ts∧zN base n c (zM W c)=some k∧q=o+q'
  |[],_,_,h=>by simp [CA] at h
  | (q',c)::r,q,k,h=>by
    simp only[CA] at h;cases hn:zN base n c (zM W c) with
    | none=>
      rw[hn] at h;obtain⟨a,b,h1,h2⟩:=QW h;exact⟨a,b,aM4 _ h1,h2⟩
    | some k'=>
      rw[hn] at h;rcases aM1.1 h with h|h
      · simp only[aM9] at h
        obtain⟨rfl,rfl⟩:=h;exact⟨q',c,by simp,hn,rfl⟩
      · obtain⟨a,b,h1,h2⟩:=QW h
        exact⟨a,b,aM4 _ h1,h2⟩
theorem vD {α:Type}{x:α}: ∀{l m:List α},x∈pF l m↔x∈l∨x∈m
  |[],m=>by simp [pF]
  |y::l,m=>by simp [pF,vD (l:=l),or_assoc]
theorem WI: ∀{toks:List (Nat×Nat)}{off n q k:Nat},(q,k)∈u7 toks off n→(q,k)∈toks∧¬(off≤q∧q<off+n)
  |[],_,_,_,_,h=>by simp [u7] at h
  | (q',k')::r,off,n,q,k,h=>by
    simp only[u7] at h;split at h
    · obtain⟨h1,h2⟩:=WI h
      exact⟨aM4 _ h1,h2⟩
    · rename_i hn
      rcases aM1.1 h with h|h
      · cases h
        exact⟨by simp,hn⟩
      · obtain⟨h1,h2⟩:=WI h
        exact⟨aM4 _ h1,h2⟩
section
variable {g g':Gh}{w w':World}{H:qO}{W:List pT}{L:List oX}{r:pD}{v:Value}{base:Nat}{upd:List (Nat×oX)}
variable (hH:rH g w H) (hm:MR H W L) (hr:HV (tV g W) w L r g' w' v) (hb:A6 base r.H.length W 0 W r.H=some upd) (hf: ∀i,i∈pB upd→base≤i→g.J i=none∧∀n,g.cur i n=none)
include hH hm hr hb hf
theorem DE {c:Nat}{wh:pT}(hw:W[c]? =some wh):wh.id∈pB upd∧wh.id<base∧∃b,L[c]? =some b∧QO H W wh b:=by
  have hin:=(JU hb).2.2.2.1 c wh hw;have hlt:c<L.length:=hm.len▸(aMX.1 hw).1;have hok:=hm.ok c wh _ hw (aMR hlt);refine⟨hin,Nat.lt_of_not_le fun hle=> ?_,_,aMR hlt,hok⟩;have hfr:=hf _ hin hle;cases wh with
  | box i u x toks o=>
    cases hL:L[c] with
    | cells t y ts=>
      rw[hL] at hok;obtain⟨p,cs,hp,_⟩:=hH.blk i _ hok.1;rw[show (pT.box i u x toks o).id=i from rfl] at hfr;rw[hfr.1] at hp;cases hp
    |_=>rw[hL] at hok;exact hok.elim
  | tok k=>
    cases hL:L[c] with
    | grow e cc m=>
      rw[hL] at hok;obtain⟨v,xs,hv,_⟩:=hH.blk k _ hok;rw[show (pT.tok k).id=k from rfl] at hfr;rw[hfr.2] at hv;cases hv
    | map s t l=>
      rw[hL] at hok;obtain⟨p,es,cl,hp,_⟩:=hH.blk k _ hok.1;rw[show (pT.tok k).id=k from rfl] at hfr;rw[hfr.1] at hp;cases hp
    | row e t l m=>
      rw[hL] at hok;obtain⟨_,v,xs,hv,_⟩:=hH.blk k _ hok.1;rw[show (pT.tok k).id=k from rfl] at hfr;rw[hfr.2] at hv;cases hv
    |_=>rw[hL] at hok;exact hok.elim
theorem aFb {c:Nat}(hc:c<r.H.length) (hn:W[c]? =none):base+c∈pB upd:=by
  have:=(JU hb).2.2.2.2 c _ (aMR hc) hn;simpa using this
theorem JV {c:Nat}(hc:c<r.H.length) (hn:W[c]? =none):(sE g g' base W (pB upd)).J (base+c)=g'.J c∧(sE g g' base W (pB upd)).cur (base+c)=g'.cur c:=by
  have hin:=aFb hH hm hr hb hf hc hn;refine⟨?_,?_⟩
  · show (if base≤base+c∧base+c∈pB upd then _ else _)=_
    rw[aMI ⟨by omega,hin⟩,aNv]
  · show (if base≤base+c∧base+c∈pB upd then _ else _)=_
    rw[aMI ⟨by omega,hin⟩,aNv]
theorem a61 {i:Nat}(hi: ¬(base≤i∧i∈pB upd)) (hn:uO i W 0=none):(sE g g' base W (pB upd)).J i=g.J i∧(sE g g' base W (pB upd)).cur i=g.cur i:=by
  refine⟨?_,?_⟩
  · show (if base≤i∧i∈pB upd then _ else _)=_
    rw[aMK hi,hn]
  · show (if base≤i∧i∈pB upd then _ else _)=_
    rw[aMK hi,hn]
theorem a62 {c k:Nat}(hw:W[c]? =some (.tok k)):(sE g g' base W (pB upd)).J k=g'.J c∧(sE g g' base W (pB upd)).cur k=g'.cur c:=by
  have hlt:=(DE hH hm hr hb hf hw).2.1;simp only[pT.id] at hlt;have hc:=aFa hm.nodup hw;refine⟨?_,?_⟩
  · show (if base≤k∧k∈pB upd then _ else _)=_
    rw[aMK (by omega),hc]
  · show (if base≤k∧k∈pB upd then _ else _)=_
    rw[aMK (by omega),hc]
theorem MS {c i:Nat}{u:Ty}{x:u.den}{toks:List (Nat×Nat)}{o:Nat}(hw:W[c]? =some (.box i u x toks o)):(sE g g' base W (pB upd)).J i=g.J i∧(sE g g' base W (pB upd)).cur i=g.cur i:=by
  have hlt:=(DE hH hm hr hb hf hw).2.1;simp only[pT.id] at hlt;refine a61 hH hm hr hb hf (by omega) (QV fun d hd=> ?_);have:=QR hm.nodup hw hd rfl;subst this;rw[hw] at hd;cases hd
theorem HX {c i:Nat}(hi:zN base r.H.length c W[c]? =some i):(sE g g' base W (pB upd)).J i=g'.J c∧(sE g g' base W (pB upd)).cur i=g'.cur c:=by
  rcases aE9 hi with h|⟨h1,h2,rfl⟩
  ·exact a62 hH hm hr hb hf h
  ·exact JV hH hm hr hb hf h2 h1
theorem a63:Le g w (sE g g' base W (pB upd)) w':=by
  have len: ∀{i c:Nat},uO i W 0=some c→W[c]? =some (.tok i)∧c<L.length:=by
    intro i c h;obtain⟨d,e1,h2⟩:=JR h;rw[aNd] at e1;subst e1;exact⟨h2,hm.len▸(aMX.1 h2).1⟩
  refine⟨fun b o h=>(hr.shut b o h).1,fun b o h=>(hr.shut b o h).2,fun i p h=> ?_,fun i n u h=> ?_⟩
  · show (if base≤i∧i∈pB upd then _ else _)=_
    rw[aMK (fun⟨h1,h2⟩=>by rw[(hf i h2 h1).1] at h;cases h)];cases hc:uO i W 0 with
    |none=>exact h
    | some c=>
      obtain⟨h1,h2⟩:=len hc;refine hr.Jt c p h2 ?_;show uM g W[c]? =_;rw[h1];exact h
  · show (if base≤i∧i∈pB upd then g'.cur (i-base) else match uO i W 0 with|some c=>g'.cur c|none=>g.cur i) n=_
    rw[aMK (fun⟨h1,h2⟩=>by rw[(hf i h2 h1).2] at h;cases h)];cases hc:uO i W 0 with
    |none=>exact h
    | some c=>
      obtain⟨h1,h2⟩:=len hc;refine hr.cur c n u h2 ?_;show AB g W[c]? n=_;rw[h1];exact h
theorem aFc {t:Ty}{x y:t.den}{cs:List Value}(hx:Rd g' w' t x cs) (h:AY base r.H.length W t x=some y):Rd (sE g g' base W (pB upd)) w' t y cs:=by
  refine QQ (g:=g') (g':=sE g g' base W (pB upd)) rfl (AY base r.H.length W) (fun a b x=>rfl) (fun t x=>rfl) (fun _=>rfl) (fun _ _=>rfl) (fun _=>rfl) (fun _=>rfl) (fun _=>rfl) (fun _ _ x y cs h hx=> ?_) (fun x y cs h hx=> ?_) (fun x y cs h hx=> ?_) (fun x y cs h hx=> ?_) (fun _=>rfl) hx h
  · cases x with
    |none=>cases h;exact hx
    | some q=>
      obtain⟨c,n⟩:=q;simp only[AY,a5p,yS] at h;obtain⟨i,hi,rfl⟩:=aMZ.1 h;obtain⟨v,hv,hs⟩:=hx;exact⟨v,by rw[(HX hH hm hr hb hf hi).2];exact hv,hs⟩
  · cases x with
    |none=>cases h;exact hx
    | some q=>
      obtain⟨c,o⟩:=q;simp only[AY,HE] at h;obtain⟨p,hp,hv⟩:=hx;unfold HE.back2 at h;split at h
      · rename_i i uu x toks o' hwh
        cases h;rw[yS] at hwh;obtain⟨_,hlt,b,hL,hok⟩:=DE hH hm hr hb hf hwh;cases b with
        | cells t y ts=>
          have hJ:=hr.J c t y ts hL;rw[hp] at hJ;have hJ':uM g W[c]? =some p:=hJ.symm;rw[hwh] at hJ';obtain⟨p0,hp0,rfl⟩:=aMZ.1 hJ';exact⟨p0,by rw[(MS hH hm hr hb hf hwh).1];exact hp0,by have:=hv.1;rwa [aNn] at this,hv.2.imp id fun hv=>by rw[hv];simp [aNn]⟩
        |_=>exact hok.elim
      · split at h
        · rename_i hn
          cases h;obtain⟨h1,h2⟩:=QU.1 hn;rw[yS] at h2;exact⟨p,by rw[(JV hH hm hr hb hf h1 h2).1];exact hp,hv⟩
        ·cases h
  · cases x with
    |none=>cases h;exact hx
    | some q=>
      obtain⟨c,o⟩:=q;simp only[AY,HE] at h;obtain⟨p,hp,hv⟩:=hx;unfold HE.back2 at h;split at h
      · rename_i i uu x toks o' hwh
        cases h;rw[yS] at hwh;obtain⟨_,hlt,b,hL,hok⟩:=DE hH hm hr hb hf hwh;cases b with
        | cells t y ts=>
          have hJ:=hr.J c t y ts hL;rw[hp] at hJ;have hJ':uM g W[c]? =some p:=hJ.symm;rw[hwh] at hJ';obtain⟨p0,hp0,rfl⟩:=aMZ.1 hJ';exact⟨p0,by rw[(MS hH hm hr hb hf hwh).1];exact hp0,by rw[hv];simp [aNn]⟩
        |_=>exact hok.elim
      · split at h
        · rename_i hn
          cases h;obtain⟨h1,h2⟩:=QU.1 hn;rw[yS] at h2;exact⟨p,by rw[(JV hH hm hr hb hf h1 h2).1];exact hp,hv⟩
        ·cases h
  · cases x with
    |none=>cases h;exact hx
    | some c=>
      simp only[AY,a5o,yS] at h;obtain⟨i,hi,rfl⟩:=aMZ.1 h;obtain⟨p,hp,hv⟩:=hx;exact⟨p,by rw[(HX hH hm hr hb hf hi).1];exact hp,hv⟩
theorem a64 {t:Ty}{x y:t.den}{cs:List Value}(hx:Rd g' w' t x cs) (h:bY base r.H.length W t x y):Rd (sE g g' base W (pB upd)) w' t y cs:=by
  rcases h with⟨hp,rfl⟩ |h
  ·exact uJ (g:=g') (g':=sE g g' base W (pB upd)) rfl hp hx
  ·exact aFc hH hm hr hb hf hx h
omit hH hm hr hb hf in
theorem a65 {n:Nat}{t u:Ty}{x y:t.den}{o:Nat}{l:List u.den}(h:bY base n W t x y) (hg:pO (.list u) t x o=some l):pO (.list u) t y o=some l:=by
  rcases h with⟨_,rfl⟩ |h
  ·exact hg
  ·exact WE (AY base n W) (fun _ _ _=>rfl) (fun _ _=>rfl) h hg
theorem a66: ∀(cs:List (Nat×Nat)) {l:List (Nat×Nat)}{vs:List Value},wA g' cs vs→J6 base r.H.length W cs=some l→wA (sE g g' base W (pB upd)) l vs
  |[],l,vs,h,e=>by cases e;exact h
  | (c,o)::cs,l,vs,⟨p,vs',hp,hv,hr'⟩,e=>by
    unfold J6 at e;cases h1:UA base r.H.length c o (zM W c) with
    |none=>rw[h1] at e;cases e
    | some q=>
      cases h2:J6 base r.H.length W cs with
      |none=>rw[h1,h2] at e;cases e
      | some l'=>
        rw[h1,h2] at e;cases e;refine(?_ : ∃p vs',_);have ih:=a66 cs hr' h2;unfold UA at h1;split at h1
        · rename_i i uu x toks o' hwh
          cases h1;rw[yS] at hwh;obtain⟨_,hlt,b,hL,hok⟩:=DE hH hm hr hb hf hwh;cases b with
          | cells t y ts=>
            have hJ:=hr.J c t y ts hL;rw[hp] at hJ;have hJ':uM g W[c]? =some p:=hJ.symm;rw[hwh] at hJ';obtain⟨p0,hp0,rfl⟩:=aMZ.1 hJ';exact⟨p0,vs',by rw[(MS hH hm hr hb hf hwh).1];exact hp0,by rw[hv];simp [aNn],ih⟩
          |_=>exact hok.elim
        · split at h1
          · rename_i hn
            cases h1;obtain⟨h3,h4⟩:=QU.1 hn;rw[yS] at h4;exact⟨p,vs',by rw[(JV hH hm hr hb hf h3 h4).1];exact hp,hv,ih⟩
          ·cases h1
theorem aFd {s:oZ}{u:Value}(h:pW g' w' s u):pW (sE g g' base W (pB upd)) w' (OY base r.H.length W s) u:=by
  obtain⟨d,k⟩:=s
  have tokk: ∀{t:Ty}(hp:t.pure=true) {x:t.den}{k:Option Nat},pW g' w' (.val t x,k) u→pW (sE g g' base W (pB upd)) w' (.val t x,HD base r.H.length W k) u:=by
    intro t hp x k h;cases k with
    |none=>exact QM (g:=g') (g':=sE g g' base W (pB upd)) (k:=none) (k':=none) rfl hp h (fun c e=>by cases e) (fun _=>rfl)
    | some c=>
      simp only[HD,yS];cases hn:zN base r.H.length c W[c]? with
      | some i=>
        refine QM (g:=g') (g':=sE g g' base W (pB upd)) (k:=some c) (k':=some i) rfl hp h (fun c' e=> ?_) (fun e=>by cases e);cases e;refine⟨_,rfl,fun n u hu=> ?_⟩;rw[(HX hH hm hr hb hf hn).2];exact hu
      | none=>
        exact QM (g:=g') (g':=sE g g' base W (pB upd)) (k:=none) (k':=none) rfl hp ⟨h.1,trivial⟩ (fun c e=>by cases e) (fun _=>rfl)
  unfold OY;split
  · rename_i c m k' heq
    simp only[aM9] at heq;obtain⟨rfl,rfl⟩:=heq;simp only[HD,yS];cases hn:zN base r.H.length c W[c]? with
    | some i=>
      obtain⟨h3,h4⟩:=h.1;exact⟨⟨by rw[(HX hH hm hr hb hf hn).2];exact h3,h4⟩,trivial⟩
    |none=>exact⟨trivial,trivial⟩
  · rename_i c o k' heq
    simp only[aM9] at heq;obtain⟨rfl,rfl⟩:=heq;obtain⟨p,hp,hv⟩:=xT h.1;unfold a5n;split
    · rename_i i uu x toks o' hwh
      rw[yS] at hwh;obtain⟨_,hlt,b,hL,hok⟩:=DE hH hm hr hb hf hwh;cases b with
      | cells t y ts=>
        have hJ:=hr.J c t y ts hL;rw[hp] at hJ;have hJ':uM g W[c]? =some p:=hJ.symm;rw[hwh] at hJ';obtain⟨p0,hp0,rfl⟩:=aMZ.1 hJ';refine⟨.inr ⟨rfl,p0,by rw[(MS hH hm hr hb hf hwh).1];exact hp0,?_⟩,trivial⟩;rw[hv];simp [aNn]
      |_=>exact hok.elim
    · split
      · rename_i hn
        obtain⟨h1,h2⟩:=QU.1 hn;rw[yS] at h2;exact⟨.inr ⟨rfl,p,by rw[(JV hH hm hr hb hf h1 h2).1];exact hp,by rw[hv]⟩,trivial⟩
      ·exact⟨trivial,trivial⟩
  · rename_i k' heq
    simp only[aM9] at heq;obtain⟨rfl,rfl⟩:=heq;rcases h.1 with⟨h1,_⟩ |⟨h1,h2⟩
    ·cases h1
    ·exact⟨.inr ⟨h1,h2⟩,trivial⟩
  · rename_i c k' heq
    simp only[aM9] at heq;obtain⟨rfl,rfl⟩:=heq;simp only[HD,yS];cases hn:zN base r.H.length c W[c]? with
    | some i=>
      obtain⟨p,hp,hv⟩:JK g' (some c) [u]:=AA rfl h.1;exact⟨.inr ⟨rfl,p,by rw[(HX hH hm hr hb hf hn).1];exact hp,hv⟩,trivial⟩
    |none=>exact⟨trivial,trivial⟩
  · rename_i f cs k' heq
    simp only[aM9] at heq;obtain⟨rfl,rfl⟩:=heq;cases hc:J6 base r.H.length W cs with
    |none=>exact⟨trivial,trivial⟩
    | some l=>
      rcases h.1 with⟨h1,_⟩ |⟨_,vs,h2,h3⟩
      ·cases h1
      ·exact⟨.inr ⟨rfl,vs,a66 hH hm hr hb hf cs h2 hc,h3⟩,trivial⟩
  · rename_i t x k' hno hno0 hno2 hno3 heq
    simp only[aM9] at heq;obtain⟨rfl,rfl⟩:=heq;split
    · rename_i hp
      exact tokk hp (a6E h)
    ·exact⟨trivial,trivial⟩
  ·exact⟨trivial,trivial⟩
end
theorem a67 {g:Gh}{w:World}{H:qO}{W:List pT}{L:List oX}(hH:rH g w H) (hm:MR H W L) {bb oo:Nat}(h:xU (tV g W) (pG 0 L) bb oo):
  ∃(c:Nat) (wh:pT) (b blk:oX),W[c]? =some wh/\L[c]? =some b/\qP (tV g W) c b bb oo/\p9 H wh.id=some blk/\qP g wh.id blk bb oo:=by
 obtain⟨c,b,hc,ho⟩:=h;rw[wB] at hc;have hlt:c<W.length:=hm.len▸(aMX.1 hc).1;have hwh:W[c]? =some W[c]:=aMR hlt;have hw:=hm.ok c _ b hwh hc;refine⟨c,W[c],b,?_⟩;generalize W[c]=wh at hwh hw;cases wh with
 |box i u x toks off=>
  cases b with
  |cells t y ts=>
   obtain⟨h1,⟨y0,h2,h3⟩,h4⟩:=hw;obtain⟨p,hp,e1,e2,e3⟩:=ho;have hp':uM g W[c]? =some p:=hp;rw[hwh] at hp';obtain⟨p0,hp0,rfl⟩:=aMZ.1 hp';obtain⟨p1,cs,hp1,hR,_⟩:=hH.blk i _ h1;obtain⟨c1,c2,c3,hcs,hl,hR2⟩:=CG hR h2;have l1:=rP hR;have l2:=rP hR2;rw[hcs] at l1;simp only[aMN] at l1;exact⟨_,hwh,hc,⟨_,hp,e1,e2,e3⟩,h1,p0,hp0,e1,by simp at e2;omega,by simp at e3;omega⟩
  |_=>exact hw.elim
 |tok k=>
  cases b with
  |grow e cc m=>
   obtain⟨v,hv,hb⟩:=ho;have hv':AB g W[c]? m=some v:=hv;rw[hwh] at hv';exact⟨_,hwh,hc,⟨v,hv,hb⟩,hw,v,hv',hb⟩
  |map s t l=>
   obtain⟨p,hp,hb⟩:=ho;have hp':uM g W[c]? =some p:=hp;rw[hwh] at hp';exact⟨_,hwh,hc,⟨p,hp,hb⟩,hw.1,p,hp',hb⟩
  |row e t l m=>
   obtain⟨v,hv,hb⟩:=ho;have hv':AB g W[c]? m=some v:=hv;rw[hwh] at hv';exact⟨_,hwh,hc,⟨v,hv,hb⟩,hw.1,v,hv',hb⟩
  |_=>exact hw.elim
section
variable {g g':Gh}{w w':World}{H:qO}{W:List pT}{L:List oX}{r:pD}{v:Value}{base:Nat}{upd:List (Nat×oX)}
variable (hH:rH g w H) (hm:MR H W L) (hr:HV (tV g W) w L r g' w' v) (hb:A6 base r.H.length W 0 W r.H=some upd) (hf: ∀i,i∈pB upd->base<=i->g.J i=none/\∀n,g.cur i n=none)
include hH hm hr hb hf
theorem WJ {b o:Nat}(h:xU (tV g W) (pG 0 L) b o):rQ g H (pB upd) b o:=by
 obtain⟨c,wh,b0,blk,h1,h2,h3,h4,h5⟩:=a67 hH hm h;exact⟨wh.id,blk,(DE hH hm hr hb hf h1).1,h4,h5⟩
theorem aFe:Fr (rQ g H (pB upd)) w w' g.S (sE g g' base W (pB upd)).S:=hr.fr.mono fun _ _ h=>WJ hH hm hr hb hf h
theorem QX {id:Nat}{b:oX}(hi:id∈pB upd) (hg:p9 (pF upd H) id=some b):G2 base r.H.length W W r.H 0 id b:=by
 obtain⟨_,k2,k3,_⟩:=JU hb;obtain⟨b',hb'⟩:=k3 id hi;have:p9 (pF upd H) id=some b':=by
  have: ∀{u:List (Nat×oX)},p9 u id=some b'->p9 (pF u H) id=some b':=by
   intro u
   induction u with
   |nil=>intro h;cases h
   |cons q u ih=>
    intro h;simp only[pF,p9] at h⊢;split
    ·rename_i e;rw[aMI e] at h;exact h
    ·rename_i e;rw[aMK e] at h;exact ih h
  exact this hb'
 rw[this] at hg;obtain rfl:=aML hg;exact k2 id b' hb'
theorem WK {c i o:Nat}{u:Ty}{x:u.den}{toks:List (Nat×Nat)}{b0 b:oX}(hW:W[c]? =some (.box i u x toks o)) (hR:r.H[c]? =some b0) (hbb:vS base r.H.length i o W u x toks b0=some (i,b)):
  yO (sE g g' base W (pB upd)) w' i b/\(∀bb oo,qP (sE g g' base W (pB upd)) i b bb oo->qP g i (.cells u x toks) bb oo/\p9 H i=some (.cells u x toks))/\
   ∀bb oo,qP (sE g g' base W (pB upd)) i b bb oo->qP g' c b0 bb oo\/(bb<w.heap.size/\¬xU (tV g W) (pG 0 L) bb oo):=by
 obtain⟨hin,hlt,bL,hL,hok⟩:=DE hH hm hr hb hf hW;have hJi:=(MS hH hm hr hb hf hW).1;have hle:=a63 hH hm hr hb hf;cases bL with
 |grow=>exact hok.elim
 |row=>exact hok.elim
 |map=>exact hok.elim
 |iter=>exact hok.elim
 |dead=>exact hok.elim
 |cells tL yL tsL=>
  obtain⟨h1,h2,h4⟩:=hok;obtain⟨p,cs,hp,hRd,hra,hth,hns,htk⟩:=hH.blk i _ h1;cases b0 with
  |grow=>simp [vS] at hbb
  |row=>simp [vS] at hbb
  |map=>simp [vS] at hbb
  |iter=>simp [vS] at hbb
  |dead=>
   simp only[vS,aMJ,aM9,true_and] at hbb;subst hbb;exact⟨trivial,fun _ _ h=>h.elim,fun _ _ h=>h.elim⟩
  |cells t y ts=>
   have htt:=hr.ty c _ _ _ _ _ _ hL hR;subst htt;obtain⟨y2,z,hbY,hset,hq⟩:=WH hbb
   ·simp only[aM9,true_and] at hq;subst hq;have hblk:=hr.heap.blk c _ (by rw[wB];exact hR);obtain⟨p',cs',hp',hRd',hra',hth',hns',htk'⟩:=hblk;have hJc:=hr.J c _ _ _ hL;have hpc:g'.J c=some ⟨p.1,p.2+o,p.3⟩:=by
     rw[hJc];show uM g W[c]? =_;rw[hW];simp [uM,hp]
    rw[hpc] at hp';obtain rfl:=aML hp';have hRdx:Rd (sE g g' base W (pB upd)) w' u x cs:=uX hle hRd;have hRdy:Rd (sE g g' base W (pB upd)) w' t y2 cs':=a64 hH hm hr hb hf hRd' hbY;obtain⟨c1,c2,c3,hcs,hl1,hl2,hz⟩:=Q9 hRdy hRdx hset;subst hcs;subst hl1;have l0:=rP hRd;have l1:=rP hRd';simp only[aMN] at l0;have hfar: ∀q,q<u.cells->¬(c1.length<=q/\q<c1.length+t.cells)->¬xU (tV g W) (pG 0 L) p.1 (p.2+q):=by
     intro q hq hno hown;obtain⟨c',wh',b',blk',k1,k2,k3,k4,k5⟩:=a67 hH hm hown;by_cases hcc:c'=c
     ·subst hcc;rw[hW] at k1;obtain rfl:=aML k1;rw[hL] at k2;obtain rfl:=aML k2;obtain⟨pp,hpp,e1,e2,e3⟩:=k3;have hpp':uM g W[c']? =some pp:=hpp;rw[hW] at hpp';simp only[uM,hp,Option.map_some,aMJ] at hpp';subst hpp';simp only at e2 e3;exact hno ⟨by omega,by omega⟩
     ·have hid:wh'.id≠i:=fun e=>hcc (QR hm.nodup k1 hW e);exact hH.dis wh'.id i blk' _ p.1 (p.2+q) hid k4 h1 k5 ⟨p,hp,rfl,by omega,by omega⟩
    have hlt': ∀q,q<u.cells->p.1<w.heap.size:=fun q hq=>MF (hH.blk i _ h1) (b:=p.1) (o:=p.2+q) ⟨p,hp,rfl,by omega,by omega⟩;have hkeep: ∀q,q<u.cells->¬(c1.length<=q/\q<c1.length+t.cells)->w'.cell? ⟨p.1,p.2+q,none⟩=w.cell? ⟨p.1,p.2+q,none⟩/\w'.frozen? ⟨p.1,p.2+q,none⟩=w.frozen? ⟨p.1,p.2+q,none⟩:=fun q hq hno=>hr.fr.cell _ _ (hlt' q hq) (hfar q hq hno);refine⟨⟨p,c1++cs'++c3,by rw[hJi];exact hp,hz,fun q vv hv=> ?_,⟨fun q hq=> ?_,fun h0 s hs=> ?_⟩,fun q hq hs=> ?_,?_⟩,fun bb oo ho=>⟨?_,h1⟩,fun bb oo ho=> ?_⟩
    ·by_cases a1:q<c1.length
     ·rw[(hkeep q (by omega) (by omega)).1];refine hra q vv ?_;rw[aMU,aM0 a1] at hv⊢;exact hv
     ·by_cases a2:q<c1.length+t.cells
      ·rw[aMU,aMV (by omega),aM0 (by omega)] at hv;have:=hra' (q-c1.length) vv hv;rwa [show p.2+c1.length+(q-c1.length)=p.2+q from by omega] at this
      ·rw[aMU,aMV (by omega),aMV (by omega)] at hv;have hq:q<u.cells:=by
        have:=(aMX.1 hv).1;omega
       rw[(hkeep q hq (by omega)).1];refine hra q vv ?_;rw[aMU,aMV (by omega),aMV (by omega),hl2];rw[l1] at hv;exact hv
    ·by_cases a1:c1.length<=q/\q<c1.length+t.cells
     ·have:=hth'.1 (q-c1.length) (by omega);rwa [show p.2+c1.length+(q-c1.length)=p.2+q from by omega] at this
     ·rw[(hkeep q hq a1).1,(hkeep q hq a1).2];exact hth.1 q hq
    ·by_cases ht0:0<t.cells
     ·exact hth'.2 ht0 s hs
     ·exact(hr.fr.shape p.1 s (hth.2 h0 s hs)).resolve_right fun h=>hfar 0 h0 (by omega) (h (p.2+0))
    ·by_cases a1:c1.length<=q/\q<c1.length+t.cells
     ·exact hns' (q-c1.length) (by omega) (by rw[show p.2+c1.length+(q-c1.length)=p.2+q from by omega];exact hs)
     ·rcases hr.fr.new _ _ hs with k|k|k
      ·exact hns q hq k
      ·have:=hlt' q hq;omega
      ·exact hfar q hq a1 k
    ·intro q kk hmem;rcases vD.1 hmem with hmem|hmem
     ·obtain⟨q',c',k1,k2,rfl⟩:=QW hmem;rw[yS] at k2;obtain⟨u',l,vv,g1,g2,g3⟩:=htk' q' c' k1;have hq':=a6v g1;refine⟨u',l,vv,a6u hset (a65 hbY g1) hq',?_,?_⟩
      ·rw[aMU,aMV (by omega),aNv,aM0 (by omega)];exact g2
      ·rw[(HX hH hm hr hb hf k2).2];exact g3
     ·obtain⟨k1,k2⟩:=WI hmem;obtain⟨u',l,vv,g1,g2,g3⟩:=htk q kk k1;refine⟨u',l,vv,a6l hH hset g1 k2,?_,hle.cur _ _ _ g3⟩;rcases aNV q c1.length with a1|a1
      ·rw[aMU,aM0 a1] at g2⊢;exact g2
      ·rw[aMU,aMV (by omega),aMV (by omega)] at g2⊢;rw[l1];rw[hl2] at g2;exact g2
    ·obtain⟨pp,hpp,e1,e2,e3⟩:=ho;rw[hJi,hp] at hpp;obtain rfl:=aML hpp;exact⟨p,hp,e1,e2,e3⟩
    ·obtain⟨pp,hpp,e1,e2,e3⟩:=ho;rw[hJi,hp] at hpp;obtain rfl:=aML hpp;subst e1;by_cases a1:c1.length<=oo-p.2/\oo-p.2<c1.length+t.cells
     ·exact .inl ⟨_,hpc,rfl,by simp only;omega,by simp only;omega⟩
     ·right;refine⟨hlt' (oo-p.2) (by omega),?_⟩;have:=hfar (oo-p.2) (by omega) a1;rwa [show p.2+(oo-p.2)=oo from by omega] at this
theorem WL {c:Nat}{b0 b:oX}(hn:W[c]? =none) (hR:r.H[c]? =some b0) (hbn:CB base r.H.length c W b0=some (base+c,b)):
  yO (sE g g' base W (pB upd)) w' (base+c) b/\∀bb oo,qP (sE g g' base W (pB upd)) (base+c) b bb oo->qP g' c b0 bb oo:=by
 have hc:=(aMX.1 hR).1;obtain⟨hJ,hcur⟩:=JV hH hm hr hb hf hc hn;have hblk:=hr.heap.blk c _ (by rw[wB];exact hR);cases b0 with
 |dead=>
  simp only[CB,aMJ,aM9,true_and] at hbn;subst hbn;exact⟨trivial,fun _ _ h=>h.elim⟩
 |grow e m k=>
  simp only[CB,aMJ,aM9,true_and] at hbn;subst hbn;obtain⟨u,xs,hv,h1,h2,h3⟩:=hblk;exact⟨⟨u,xs,by rw[hcur];exact hv,h1,fun m hm'=>by rw[hcur];exact h2 m hm',h3⟩,fun bb oo ⟨v',hv',hb'⟩=>⟨v',by rw[hcur] at hv';exact hv',hb'⟩⟩
 |row e t l n=>
  simp only[CB] at hbn;split at hbn
  ·rename_i hp;simp only[aMJ,aM9,true_and] at hbn;subst hbn;obtain⟨h0,u,xs,hv,h1,h4,h2,h3⟩:=hblk;exact⟨⟨h0,u,xs,by rw[hcur];exact hv,h1,B5 (fun _ _ h=>uJ (g:=g') (g':=sE g g' base W (pB upd)) rfl hp h) h4,fun m hm'=>by rw[hcur];exact h2 m hm',h3⟩,fun bb oo ⟨v',hv',hb'⟩=>⟨v',by rw[hcur] at hv';exact hv',hb'⟩⟩
  ·cases hbn
 |iter s n=>simp [CB] at hbn
 |map k v l=>
  simp only[CB] at hbn;split at hbn
  ·rename_i hp;rw[aMS] at hp;simp only[aMJ,aM9,true_and] at hbn;subst hbn;obtain⟨p,es,cl,hp1,hp0,hh,hM,hS⟩:=hblk;exact⟨⟨p,es,cl,by rw[hJ];exact hp1,hp0,hh,MD (g:=g') (g':=sE g g' base W (pB upd)) rfl hp.1 hp.2 hM,hS⟩,fun bb oo ⟨pp,hpp,e⟩=>⟨pp,by rw[hJ] at hpp;exact hpp,e⟩⟩
  ·cases hbn
 |cells t y ts=>
  have tX: ∀y2,bY base r.H.length W t y y2->yO (sE g g' base W (pB upd)) w' (base+c) (.cells t y2 (CA base r.H.length W 0 ts))/\∀bb oo,qP (sE g g' base W (pB upd)) (base+c) (.cells t y2 (CA base r.H.length W 0 ts)) bb oo->qP g' c (.cells t y ts) bb oo:=by
   intro y2 hbY;obtain⟨p,cs,hp1,hR1,h1,h2,h3,h4⟩:=hblk;refine⟨⟨p,cs,by rw[hJ];exact hp1,a64 hH hm hr hb hf hR1 hbY,h1,h2,h3,fun q kk hmem=> ?_⟩,fun bb oo ⟨pp,hpp,e⟩=>⟨pp,by rw[hJ] at hpp;exact hpp,e⟩⟩;obtain⟨q',c',k1,k2,rfl⟩:=QW hmem;rw[yS] at k2;obtain⟨u',l,vv,g1,g2,g3⟩:=h4 q' c' k1;exact⟨u',l,vv,by rw[aNd];exact a65 hbY g1,by rw[aNd];exact g2,by rw[(HX hH hm hr hb hf k2).2];exact g3⟩
  simp only[CB] at hbn;split at hbn
  ·rename_i hp;simp only[aMJ,aM9,true_and] at hbn;subst hbn;exact tX y (.inl ⟨hp,rfl⟩)
  ·obtain⟨y2,hy,hq⟩:=a60 hbn;simp only[aM9,true_and] at hq;subst hq;exact tX y2 (.inr hy)
theorem WM {c k:Nat}{b0 b:oX}(hW:W[c]? =some (.tok k)) (hR:r.H[c]? =some b0) (hbk:yJ k b0=some (k,b)):
  yO (sE g g' base W (pB upd)) w' k b/\∀bb oo,qP (sE g g' base W (pB upd)) k b bb oo->qP g' c b0 bb oo:=by
 obtain⟨hJ,hcur⟩:=a62 hH hm hr hb hf hW;have hblk:=hr.heap.blk c _ (by rw[wB];exact hR);cases b0 with
 |dead=>
  simp only[yJ,aMJ,aM9,true_and] at hbk;subst hbk;exact⟨trivial,fun _ _ h=>h.elim⟩
 |grow e m n=>
  simp only[yJ,aMJ,aM9,true_and] at hbk;subst hbk;obtain⟨u,xs,hv,h1,h2,h3⟩:=hblk;exact⟨⟨u,xs,by rw[hcur];exact hv,h1,fun m hm'=>by rw[hcur];exact h2 m hm',h3⟩,fun bb oo ⟨v',hv',hb'⟩=>⟨v',by rw[hcur] at hv';exact hv',hb'⟩⟩
 |row e t l n=>
  simp only[yJ] at hbk;split at hbk
  ·rename_i hp;simp only[aMJ,aM9,true_and] at hbk;subst hbk;obtain⟨h0,u,xs,hv,h1,h4,h2,h3⟩:=hblk;exact⟨⟨h0,u,xs,by rw[hcur];exact hv,h1,B5 (fun _ _ h=>uJ (g:=g') (g':=sE g g' base W (pB upd)) rfl hp h) h4,fun m hm'=>by rw[hcur];exact h2 m hm',h3⟩,fun bb oo ⟨v',hv',hb'⟩=>⟨v',by rw[hcur] at hv';exact hv',hb'⟩⟩
  ·cases hbk
 |iter s n=>simp [yJ] at hbk
 |map s v l=>
  simp only[yJ] at hbk;split at hbk
  ·rename_i hp;rw[aMS] at hp;simp only[aMJ,aM9,true_and] at hbk;subst hbk;obtain⟨p,es,cl,hp1,hp0,hh,hM,hS⟩:=hblk;exact⟨⟨p,es,cl,by rw[hJ];exact hp1,hp0,hh,MD (g:=g') (g':=sE g g' base W (pB upd)) rfl hp.1 hp.2 hM,hS⟩,fun bb oo ⟨pp,hpp,e⟩=>⟨pp,by rw[hJ] at hpp;exact hpp,e⟩⟩
  ·cases hbk
 |cells t y ts=>simp [yJ] at hbk
theorem aFf {side:List Prop}{s:oZ}{rds:List Nat}{vv:Value}(hs:pW (sE g g' base W (pB upd)) w' s vv):qU g w H ⟨side,s,upd,rds⟩ (sE g g' base W (pB upd)) w' vv:=by
 have le:=a63 hH hm hr hb hf;have fr:=aFe hH hm hr hb hf;have gho: ∀i,i∉pB upd->(sE g g' base W (pB upd)).J i=g.J i/\(sE g g' base W (pB upd)).cur i=g.cur i:=fun i hi=>
  a61 hH hm hr hb hf (fun h=>hi h.2) (QV fun c hc=>hi ((DE hH hm hr hb hf hc).1))
 have perm: ∀i blk b o,i∈pB upd->p9 (pF upd H) i=some blk->qP (sE g g' base W (pB upd)) i blk b o->w.heap.size<=b\/rQ g H (pB upd) b o:=by
  intro i blk b o hi hg ho;rcases QX hH hm hr hb hf hi hg with⟨c,i',u,x,toks,off,b0,h1,h2,h3,h4⟩ |⟨c,k,b0,h1,h2,h3,h4⟩ |⟨c,b0,h1,h2,h3,h4⟩
  ·subst h2;obtain⟨_,k2,_⟩:=WK hH hm hr hb hf h1 h3 h4;exact .inr ⟨i,_,hi,(k2 b o ho).2,(k2 b o ho).1⟩
  ·subst h2;obtain⟨_,k2⟩:=WM hH hm hr hb hf h1 h3 h4;exact(hr.perm c b0 b o h3 (k2 b o ho)).imp id fun h=>WJ hH hm hr hb hf h
  ·rw[aNd] at h2 h4;subst h2;obtain⟨_,k2⟩:=WL hH hm hr hb hf h3 h1 h4;exact(hr.perm c b0 b o h1 (k2 b o ho)).imp id fun h=>WJ hH hm hr hb hf h
 refine⟨le,hs,hH.upd le fr perm gho (fun i blk hi hg=> ?_) (fun i j bi bj b o hi hj hij hgi hgj hoi hoj=> ?_) (fun b o h=>hr.heap.sl b o h),fr,perm,gho,fun i u' y us h=> ?_⟩
 ·rcases QX hH hm hr hb hf hi hg with⟨c,i',u,x,toks,off,b0,h1,h2,h3,h4⟩ |⟨c,k,b0,h1,h2,h3,h4⟩ |⟨c,b0,h1,h2,h3,h4⟩
  ·subst h2;exact(WK hH hm hr hb hf h1 h3 h4).1
  ·subst h2;exact(WM hH hm hr hb hf h1 h3 h4).1
  ·rw[aNd] at h2 h4;subst h2;exact(WL hH hm hr hb hf h3 h1 h4).1
 ·have cls: ∀{i:Nat}{blk:oX},i∈pB upd->p9 (pF upd H) i=some blk->qP (sE g g' base W (pB upd)) i blk b o->
    (∃c u x toks off b0,W[c]? =some (.box i u x toks off)/\r.H[c]? =some b0/\qP g i (.cells u x toks) b o/\p9 H i=some (.cells u x toks)/\(qP g' c b0 b o\/(b<w.heap.size/\¬xU (tV g W) (pG 0 L) b o)))\/
    (∃c b0,zN base r.H.length c W[c]? =some i/\r.H[c]? =some b0/\qP g' c b0 b o):=by
   intro i blk hi hg ho;rcases QX hH hm hr hb hf hi hg with⟨c,i',u,x,toks,off,b0,h1,h2,h3,h4⟩ |⟨c,k,b0,h1,h2,h3,h4⟩ |⟨c,b0,h1,h2,h3,h4⟩
   ·subst h2;obtain⟨_,k2,k3⟩:=WK hH hm hr hb hf h1 h3 h4;exact .inl ⟨c,u,x,toks,off,b0,h1,h3,(k2 b o ho).1,(k2 b o ho).2,k3 b o ho⟩
   ·subst h2;obtain⟨_,k2⟩:=WM hH hm hr hb hf h1 h3 h4;exact .inr ⟨c,b0,by rw[h1];rfl,h3,k2 b o ho⟩
   ·rw[aNd] at h2 h4;subst h2;obtain⟨_,k2⟩:=WL hH hm hr hb hf h3 h1 h4;exact .inr ⟨c,b0,by rw[h3];simp only[zN];rw[aMI (aMX.1 h1).1],h1,k2 b o ho⟩
  have cross: ∀{c c':Nat}{b0 b1:oX},c≠c'->r.H[c]? =some b0->r.H[c']? =some b1->qP g' c b0 b o->qP g' c' b1 b o->False:=fun hne h1 h2 o1 o2=>
   hr.heap.dis _ _ _ _ b o hne (by rw[wB];exact h1) (by rw[wB];exact h2) o1 o2
  rcases cls hi hgi hoi with⟨c,u,x,toks,off,b0,h1,h2,h3,h4,h5⟩ |⟨c,b0,h1,h3,h4⟩<;>rcases cls hj hgj hoj with⟨c',u',x',toks',off',b0',k1,k2,k3,k4,k5⟩ |⟨c',b0',k1,k3,k4⟩
  ·exact hH.dis i j _ _ b o hij h4 k4 h3 k3
  ·rcases h5 with h5|⟨h5,h6⟩
   ·exact cross (fun e=>by subst e;rw[h1] at k1;cases k1) h2 k3 h5 k4
   ·rcases hr.perm c' b0' b o k3 k4 with h|h
    ·omega
    ·exact h6 h
  ·rcases k5 with k5|⟨k5,k6⟩
   ·exact cross (fun e=>by subst e;rw[k1] at h1;cases h1) h3 k2 h4 k5
   ·rcases hr.perm c b0 b o h3 h4 with h|h
    ·omega
    ·exact k6 h
  ·exact cross (fun e=>by subst e;rw[h1] at k1;exact hij (aML k1)) h3 k3 h4 k4
 ·by_cases hi:i∈pB upd
  ·rcases QX hH hm hr hb hf hi h with⟨c,i',u,x,toks,off,b0,h1,h2,h3,h4⟩ |⟨c,k,b0,h1,h2,h3,h4⟩ |⟨c,b0,h1,h2,h3,h4⟩
   ·subst h2;obtain⟨_,_,bL,hL,hok⟩:=DE hH hm hr hb hf h1;cases b0 with
    |cells t y0 ts=>
     obtain⟨y2,z,_,hset,hq⟩:=WH h4;simp only[aM9,oX.cells.injEq,true_and] at hq;obtain⟨rfl,_⟩:=hq;cases bL with
     |cells=>exact .inl ⟨x,toks,hok.1⟩
     |_=>exact hok.elim
    |grow=>simp [vS] at h4
    |row=>simp [vS] at h4
    |map=>simp [vS] at h4
    |iter=>simp [vS] at h4
    |dead=>simp [vS] at h4
   ·cases b0 with
    |cells t y0 ts=>simp [yJ] at h4
    |iter=>simp [yJ] at h4
    |map=>simp only[yJ] at h4;split at h4<;>simp at h4
    |row=>simp only[yJ] at h4;split at h4<;>simp at h4
    |_=>simp [yJ] at h4
   ·rw[aNd] at h2;exact .inr (hf i hi (by omega))
  ·exact .inl ⟨y,us,(B6 hi).symm.trans h⟩
end
section
variable {P:Program}{g:Gh}{w:World}
def aFg (P:Program) (g:Gh) (w:World) (d:Nat) (ty:Ty) (x y:ty.den):VJ->Prop
 | .ty t=> ∀vx vy,rZ g w ty x vx->rZ g w ty y vy->∃b,AT ty x y=some b/\(Op.equalIn (d+1) t vx vy).run P w= .ok b w
 | .fs o l=> ∀px py cx cy,px.length=o->py.length=o->Rd g w ty x cx->Rd g w ty y cy->∃b,AT ty x y=some b/\(Op.eqFields (d+1) (px++cx).toArray (py++cy).toArray l).run P w= .ok b w
 | .el e i m=> ∀px py cx cy,px.length=i*P.cellsOf e->py.length=i*P.cellsOf e->Rd g w ty x cx->Rd g w ty y cy->∃b,AT ty x y=some b/\(Op.eqItems (d+1) e (P.cellsOf e) (px++cx).toArray (py++cy).toArray (List.range' i m)).run P w= .ok b w
theorem aFh {e:TypeId}{n:Nat}(h:(P.info? e).map (·.size)=some n):P.cellsOf e=n:=by
 obtain⟨i,h1,h2⟩:=aMZ.1 h;simp [Program.cellsOf,h1,h2]
theorem wI.run {n:Nat}{ix:VJ}{ty:Ty}(h:wI P n ix ty): ∀(d:Nat),n<=d->∀x y:ty.den,aFg P g w d ty x y ix:=by
 induction h with
 |bool hu=>
  intro d _ x y vx vy hx hy;obtain rfl:=vL hx;obtain rfl:=vL hy;exact⟨_,rfl,run_equalIn_bool' w d _ _ _ hu⟩
 |int hu=>
  intro d _ x y vx vy hx hy;obtain rfl:=vC hx;obtain rfl:=vC hy;refine⟨_,rfl,(run_equalIn_int w d _ _ _ _ _ hu).trans ?_⟩;congr 1
 |str hu=>
  intro d _ x y vx vy hx hy;obtain rfl:=xR hx;obtain rfl:=xR hy;refine⟨_,rfl,(run_equalIn_string w d _ _ _ hu).trans ?_⟩;congr 1;rw[ByteArray.toList_eq,ByteArray.toList_eq];exact MI _ _
 | @struct h0 t0 fs0 ty0 hr hu hs _ ih=>
  intro d hd x y vx vy hx hy;obtain⟨cx,rfl,rx⟩:=HR hr hx;obtain⟨cy,rfl,ry⟩:=HR hr hy;obtain⟨d,rfl⟩: ∃d',d=d'+1:=⟨d-1,by omega⟩;obtain⟨b,h1,h2⟩:=ih d (by omega) x y [] [] cx cy rfl rfl rx ry;refine⟨b,h1,?_⟩;have hf:P.fieldsOf t0=fs0:=by unfold Program.fieldsOf;rw[hu]
  rw[run_equalIn_struct w _ _ _ _ (by rw[hf];exact hu) hs,hf];simpa using h2
 |arr hr hu hi _ ih=>
  intro d hd x y vx vy hx hy;obtain⟨cx,rfl,rx⟩:=HR hr hx;obtain⟨cy,rfl,ry⟩:=HR hr hy;obtain⟨d,rfl⟩: ∃d',d=d'+1:=⟨d-1,by omega⟩;obtain⟨b,h1,h2⟩:=ih d (by omega) x y [] [] cx cy (by simp) (by simp) rx ry;refine⟨b,h1,?_⟩;obtain⟨i,hi⟩:=aMM.1 hi;rw[run_equalIn_array w _ _ _ hu hi,List.range_eq_range'];simpa using h2
 |nil=>
  intro d _ x y px py cx cy _ _ _ _;exact⟨true,rfl,by simp [Op.eqFields]⟩
 |anil=>
  intro d _ x y px py cx cy _ _ _ _;exact⟨true,rfl,by simp [Op.eqItems]⟩
 | @cons h o f r a b hn ho hsz hrow _ _ iha ihb=>
  intro d hd x y px py cx cy hpx hpy ⟨x1,x2,ex,rx1,rx2⟩ ⟨y1,y2,ey,ry1,ry2⟩;subst ex;subst ey;obtain⟨vx,p1,v1⟩:=MJ (P:=P) (c1:=px) (c3:=x2) hsz hrow rx1;obtain⟨vy,p2,v2⟩:=MJ (P:=P) (c1:=py) (c3:=y2) hsz hrow ry1;obtain⟨b1,e1,r1⟩:=iha d hd x.1 y.1 vx vy v1 v2;obtain⟨b2,e2,r2⟩:=ihb d hd x.2 y.2 (px++x1) (py++y1) x2 y2 (by rw[aMN,hpx,rP rx1]) (by rw[aMN,hpy,rP ry1]) rx2 ry2;refine⟨b1&&b2,by simp only[AT,e1,e2,AT.eqAnd],?_⟩;rw[aMU] at p1 p2 r2;rw[aMU] at r2;rw[hpx,<-ho] at p1;rw[hpy,<-ho] at p2;simp only[Op.eqFields,aMI hn,aMY,p1,p2,aMT,r1];cases b1
  ·simp
  ·simpa using r2
 | @acons h e i m a b hsz hrow _ _ iha ihb=>
  intro d hd x y px py cx cy hpx hpy ⟨x1,x2,ex,rx1,rx2⟩ ⟨y1,y2,ey,ry1,ry2⟩;subst ex;subst ey;have hc:=aFh hsz;obtain⟨vx,p1,v1⟩:=MJ (P:=P) (c1:=px) (c3:=x2) hsz hrow rx1;obtain⟨vy,p2,v2⟩:=MJ (P:=P) (c1:=py) (c3:=y2) hsz hrow ry1;obtain⟨b1,e1,r1⟩:=iha d hd x.1 y.1 vx vy v1 v2;obtain⟨b2,e2,r2⟩:=ihb d hd x.2 y.2 (px++x1) (py++y1) x2 y2 (by rw[aMN,hpx,rP rx1,hc,aNU]) (by rw[aMN,hpy,rP ry1,hc,aNU]) rx2 ry2;refine⟨b1&&b2,by simp only[AT,e1,e2,AT.eqAnd],?_⟩;rw[aMU] at p1 p2 r2;rw[aMU] at r2;rw[hpx] at p1;rw[hpy] at p2;simp only[List.range'_succ,Op.eqItems,aMY,p1,p2,aMT,r1];cases b1
  ·simp
  ·simpa using r2
variable {o:Oper}{a:Act}{H:qO}{T:rO}(hT:vK P T) (hH:rH g w H)
include hT hH
theorem aFi {op:BinOp}{xt yt:TypeId}{x y:Operand}(ho:o.op= .binOp op xt x y yt) {sx sy:oZ}(hx:pW g w sx (a.eval x)) (hy:pW g w sy (a.eval y)) {e:pC}
  (hr:A3 (U5 (qC T xt) op sx sy)=some e):pS P o a g w H e:=by
 obtain⟨q,hq,rfl⟩:=HT hr;have go: ∀{u v:Value},a.eval x=u->a.eval y=v->(∃z,(do eqGuard op xt x y u v;Go.binOp op xt u v:Sem Value).run P w= .ok z w/\yN g w q.2 z)->pS P o a g w H ⟨q.1,(q.2,none),[],[]⟩:=by
  rintro u v rfl rfl ⟨z,hz,hd⟩;refine pS.pure hH (v:=z) ?_ hd;unfold execOp;rw[ho];simp only[aMY,aM6] at hz⊢;rw[hz];rfl
 replace hx:=hx.1;replace hy:=hy.1;generalize hti:qC T xt=oti at hq;unfold U5 at hq;split at hq
 ·rename_i u el by' ar ls_ t l k k';have hd:=(s0 hT hti).2;simp only[wJ] at hd;obtain⟨ax,cx,ex,hle,hll⟩:=CK hx;have hnil:ax=none->l=[]:=fun h=>by
   rcases hll with h1|⟨b,o,h1,_⟩
   ·exact h1
   ·rw[h] at h1;cases h1
  have ey:a.eval y= .slice none 0 0:=hy;refine go ex ey ?_;unfold OQ at hq;split at hq
  ·cases hq;have h1:(do eqGuard .eql xt x y (.slice ax (List.length l) cx) (.slice none 0 0);Go.binOp .eql xt (.slice ax (List.length l) cx) (.slice none 0 0):Sem Value).run P w= .ok (.bool ax.isNone) w:=by
    simp only[aMY];rw[show (eqGuard .eql xt x y (.slice ax (List.length l) cx) (.slice none 0 0)).run P w= .ok () w from by simp [eqGuard]];exact Lib.run_eql_slice_nil (P:=P) w xt _ ax (List.length l) cx 0 0 hd.1
   exact⟨_,h1,_,rfl,fun h=>hnil (by simpa using h),fun _=>trivial⟩
  ·cases hq;have h1:(do eqGuard .neq xt x y (.slice ax (List.length l) cx) (.slice none 0 0);Go.binOp .neq xt (.slice ax (List.length l) cx) (.slice none 0 0):Sem Value).run P w= .ok (.bool (!ax.isNone)) w:=by
    simp only[aMY];rw[show (eqGuard .neq xt x y (.slice ax (List.length l) cx) (.slice none 0 0)).run P w= .ok () w from by simp [eqGuard]];exact run_neq_slice_nil_any (P:=P) w xt _ ax (List.length l) cx 0 0 hd.1
   exact⟨_,h1,_,rfl,fun _=>trivial,fun h=>hnil (by simpa using h)⟩
  ·cases hq
 ·rename_i u el by' ar ls_ k t l k';have hd:=(s0 hT hti).2;simp only[wJ] at hd;obtain⟨ay,cy,ey,hle,hll⟩:=CK hy;have hnil:ay=none->l=[]:=fun h=>by
   rcases hll with h1|⟨b,o,h1,_⟩
   ·exact h1
   ·rw[h] at h1;cases h1
  have ex:a.eval x= .slice none 0 0:=hx;refine go ex ey ?_;unfold OQ at hq;split at hq
  ·cases hq;have h1:(do eqGuard .eql xt x y (.slice none 0 0) (.slice ay (List.length l) cy);Go.binOp .eql xt (.slice none 0 0) (.slice ay (List.length l) cy):Sem Value).run P w= .ok (.bool ay.isNone) w:=by
    simp only[aMY];rw[show (eqGuard .eql xt x y (.slice none 0 0) (.slice ay (List.length l) cy)).run P w= .ok () w from by simp [eqGuard]];exact run_eql_nil_slice (P:=P) w xt _ ay (List.length l) cy 0 0 hd.1
   exact⟨_,h1,_,rfl,fun h=>hnil (by simpa using h),fun _=>trivial⟩
  ·cases hq;have h1:(do eqGuard .neq xt x y (.slice none 0 0) (.slice ay (List.length l) cy);Go.binOp .neq xt (.slice none 0 0) (.slice ay (List.length l) cy):Sem Value).run P w= .ok (.bool (!ay.isNone)) w:=by
    simp only[aMY];rw[show (eqGuard .neq xt x y (.slice none 0 0) (.slice ay (List.length l) cy)).run P w= .ok () w from by simp [eqGuard]];exact run_neq_nil_slice (P:=P) w xt _ ay (List.length l) cy 0 0 hd.1
   exact⟨_,h1,_,rfl,fun _=>trivial,fun h=>hnil (by simpa using h)⟩
  ·cases hq
 ·rename_i u el b ar ls_ t x' k t' y' k';unfold a5h at hq;split at hq
  ·rename_i htt;subst htt;split at hq
   ·rename_i hc;obtain⟨rfl,hc⟩:=hc;simp only[sY] at hq;obtain⟨r,hr1,hr2⟩: ∃r,AT t' x' y'=some r/\((op= .eql/\q=([],.val .bool r))\/(op= .neq/\q=([],.val .bool (!r)))):=by
     generalize hgen:AT t' x' y'=od at hq;unfold a5g at hq;split at hq
     ·rename_i r;cases hq;exact⟨r,rfl,.inl ⟨rfl,rfl⟩⟩
     ·rename_i r;cases hq;exact⟨r,rfl,.inr ⟨rfl,rfl⟩⟩
     ·cases hq
    have hti':=s0 hT hti;rcases hc with rfl|⟨hrow,rfl⟩
    ·have hd:=hti'.2;simp only[wJ] at hd;obtain hbx:=vL hx;obtain hby:=vL hy;refine go hbx hby ?_;have hrr:r=(x'==y'):=(aML hr1).symm;subst hrr;have hrun:=run_equalIn_bool' (P:=P) w 9999 xt x' y' hd;rcases hr2 with⟨rfl,rfl⟩ |⟨rfl,rfl⟩
     ·refine⟨.bool (x'==y'),?_,uZ _ _ _⟩;simp only[aMY];rw[show (eqGuard .eql xt x y (.bool x') (.bool y')).run P w= .ok () w from by simp [eqGuard]];simp only[aMT,Go.binOp,Op.equal,Op.maxDepth,aMY,hrun,aM6]
     ·refine⟨.bool (!(x'==y')),?_,uZ _ _ _⟩;simp only[aMY];rw[show (eqGuard .neq xt x y (.bool x') (.bool y')).run P w= .ok () w from by simp [eqGuard]];simp only[aMT,Go.binOp,Op.equal,Op.maxDepth,aMY,hrun,aM6]
    ·have h2:=hti'.2;have heq:P.eqGuardType P.depth xt=false/\∃h,h<9000/\wI P h (.ty xt) t':=by
      unfold wJ at h2;cases t'<;>simp only[Ty.isRow,aN9] at hrow
      all_goals exact h2.2 rfl
     obtain⟨hg1,hh,hlt,hE⟩:=heq;obtain⟨cx,ex,rx⟩:=HR hrow hx;obtain⟨cy,ey,ry⟩:=HR hrow hy;obtain⟨b',hb1,hb2⟩:=hE.run (g:=g) (w:=w) 9999 (by omega) x' y' _ _ hx hy;rw[hr1] at hb1;obtain rfl:=aML hb1;rw[ex,ey] at hb2;refine go ex ey ?_;rcases hr2 with⟨rfl,rfl⟩ |⟨rfl,rfl⟩
     ·refine⟨.bool r,?_,uZ _ _ _⟩;simp only[aMY];rw[run_eqGuard_agg w _ _ _ _ _ _ hg1];simp only[aMT];rw[run_eql_struct,hb2];rfl
     ·refine⟨.bool (!r),?_,uZ _ _ _⟩;simp only[aMY];rw[run_eqGuard_agg w _ _ _ _ _ _ hg1];simp only[aMT];rw[run_neq_struct,hb2];rfl
   ·cases hq
  ·cases hq
 ·cases hq
end
end Go.Proofs.YtbbpilohihldiaaGreatDoor.Vc
namespace Go.Proofs.YtbbpilohihldiaaGreatDoor.Vc
open Go.RowKit
theorem aFj (s:List UInt8):Lib.strCells ⟨s.toArray⟩=s.map fun b=>Value.int .u8 b.toNat:=by
 simp [Lib.strCells]
theorem aFk {P:Program}(w:World) (t u ty e:TypeId) (i:TypeInfo) (ht:P.underlying t=some (.slice e)) (hu:P.underlying u=some .string) (hi:P.info? e=some i) (hz:i.zero=some (.int .u8 0))
  (hsize:i.size=1) (hby:i.bytes=1) (v:Value) (n:Nat) (xs:List Value) (hown:w.ownsRow 0 e 1 v n xs) (s:ByteArray) (hm:0<s.size)
  (h63:n+s.size<=maxLen) (hbytes:n+s.size<=140737488355328):
  ∃q cap w',(Builtin.append_ #[t,u] ty #[v,.string s]).run P w= .ok (.slice (some ⟨q,0,none⟩) (n+s.size) cap) w'/\w'.ownsRow 0 e 1 (.slice (some ⟨q,0,none⟩) (n+s.size) cap) (n+s.size) (xs++Lib.strCells s)/\
   (q=w.heap.size\/v.ownBlock=some q)/\w.grownBy w' v.ownBlock/\n+s.size<=cap/\
   ∀b o,b<w.heap.size->(v.ownBlock=some b->o<n*1)->w'.cell? ⟨b,o,none⟩=w.cell? ⟨b,o,none⟩:=by
 have hsmall:n+s.size<=9223372036854775807:=by simp only[maxLen] at h63;omega
 have hxl:xs.length=n:=by simpa using hown.1
 have hlen:(xs++Lib.strCells s).length=(n+s.size)*1:=by rw[aMN,hxl,Lib.strCells_length,aON]
 have grown: ∀(old:Nat),old<n+s.size->∀(row:Option Nat),
   (w.drew.alloc (.cells (xs.toArray++(Lib.strCells s).toArray++Builtin.zeroCells (Value.int .u8 0).cells (grownCap w (n+s.size) old e- (n+s.size))) e)).ownsRow 0 e 1
    (.slice (some ⟨w.heap.size,0,none⟩) (n+s.size) (grownCap w (n+s.size) old e)) (n+s.size) (xs++Lib.strCells s)/\
   w.grownBy (w.drew.alloc (.cells (xs.toArray++(Lib.strCells s).toArray++Builtin.zeroCells (Value.int .u8 0).cells (grownCap w (n+s.size) old e- (n+s.size))) e)) row/\n+s.size<=grownCap w (n+s.size) old e/\
   ∀b o,b<w.heap.size->(w.drew.alloc (.cells (xs.toArray++(Lib.strCells s).toArray++Builtin.zeroCells (Value.int .u8 0).cells (grownCap w (n+s.size) old e- (n+s.size))) e)).cell? ⟨b,o,none⟩=w.cell? ⟨b,o,none⟩:=by
  intro old ho row;have hge:=grownCap_ge w (n+s.size) old e;have hcm:grownCap w (n+s.size) old e<=maxLen:=grownCap_le_maxLen w (n+s.size) old e h63;refine⟨⟨hlen,.inr ⟨w.heap.size,_,_,rfl,aNt _,aOP w.drew _,hge,hcm,?_,?_⟩⟩,⟨rfl,rfl,rfl,by simp,fun k hk _=>aNg w.drew _ k hk⟩,hge,fun b o hb=>aM7 (w:=w) (a:=⟨b,o,none⟩) (aNg w.drew _ b hb)⟩
  ·have hz1:(Value.int IntKind.u8 0).cells.size=1:=rfl;simp only[aOO,aNA,size_zeroCells,hz1,hxl,Lib.strCells_length];omega
  ·simp only[Array.toList_append,aMU];rw[<-aMU,<-hlen];exact aOg
 rcases hown.2 with⟨rfl,rfl⟩ |⟨g,cap,cur,rfl,hbg,hg,hnc,hcm,hcs,htake⟩
 ·have hx:xs=[]:=aNb hxl;subst hx;have hr:=run_append_nil_string (P:=P) w t u ty e i (.int .u8 0) ht hu hi hz s (by omega) (by omega) (by rw[hby];omega);have hgr:=grown 0 (by omega) (Value.ownBlock (.slice none 0 0));simp only[aNd,List.nil_append,Array.empty_append] at hgr⊢;have e1:(s.data.map fun b=>Value.int .u8 b.toNat)=(Lib.strCells s).toArray:=by
   apply Array.ext';simp [Lib.strCells]
  rw[e1] at hr;exact⟨_,_,_,hr,hgr.1,.inl rfl,hgr.2.1,hgr.2.2.1,fun b o hb _=>hgr.2.2.2 b o hb⟩
 ·by_cases hroom:n+s.size<=cap
  ·have hcs':cur.size=cap:=by simpa using hcs
   have hr:=Lib.run_append_room_string (P:=P) w t u ty e i ht hu hi hsize g n cap cur hg s hroom (by omega);refine⟨_,_,_,hr,⟨hlen,.inr ⟨g,cap,_,rfl,hbg,aOD w g cur _ e _ hg,hroom,hcm,?_,?_⟩⟩,.inr rfl,⟨rfl,rfl,rfl,by simp,fun k _ hk=>aOf w g k _ (fun e=>hk (by simp [Value.ownBlock,e]))⟩,hroom,fun b o hb hso=> ?_⟩
   ·simp only[aNA,aMN,aM5,aMP,aNi,Lib.strCells_length];omega
   ·have ht':cur.toList.take n=xs:=by simpa using htake
    rw[ht',<-hlen];exact aOg
   ·by_cases hbg':b=g
    ·subst hbg';have ho:=hso rfl;rw[cell_setRow_same w b o cur _ e _ hg,cell_of_row w b o cur e (0,0) hg];have hlt:o<(cur.toList.take n).length:=by rw[aM5,aNi];omega
     have hlt2:o<cur.size:=by rw[aM5,aNi] at hlt;omega
     simp only[List.getElem?_toArray,aMU];rw[aM0 hlt,aOs,aMI (by omega)];simp
    ·exact aM7 (a:=⟨b,o,none⟩) (aOf w g b _ hbg')
  ·have holds: ∀j u,xs[j]? =some u->w.cell? ((⟨g,0,none⟩:Addr).add j)=some u:=hown.cells (g:=g) rfl;have hr:=Lib.run_append_grow_string (P:=P) w t u ty e i (.int .u8 0) ht hu hi hz ⟨g,0,none⟩ n cap xs (by rw[hsize];simpa using hxl) holds s (by omega) (by omega) (by rw[hby];exact growslice_fits (by omega) (by omega));have hgr:=grown cap (by omega) (Value.ownBlock (.slice (some ⟨g,0,none⟩) n cap));exact⟨_,_,_,hr,hgr.1,.inl rfl,hgr.2.1,hgr.2.2.1,fun b o hb _=>hgr.2.2.2 b o hb⟩
theorem aFl {P:Program}(w:World) (t u ty e:TypeId) (i:TypeInfo) (ht:P.underlying t=some (.slice e)) (hu:P.underlying u=some .string) (hi:P.info? e=some i) (hsize:i.size=1) (ad:Option Addr) (n c:Nat) (hle:n<=c):
  (Builtin.append_ #[t,u] ty #[.slice ad n c,.string ⟨#[]⟩]).run P w= .ok (.slice ad n c) w:=by
 have hf:=Lib.run_firstCells_string (P:=P) w 1 ⟨#[]⟩;have hm:(⟨#[]⟩:ByteArray).size=0:=rfl;rw[hm] at hf;cases ad<;>simp [Builtin.append_,aM3 ht,aM3 hu,sizeOf,typeInfo,hi,hsize,Builtin.lenOf,hm,hf,hle,Lib.strCells,storeCells]
theorem a68 (g:Gh) (w:World): ∀s:List UInt8,sC (Rd g w (.int .u8)) 1 (sP s) (s.map fun b=>Value.int .u8 b.toNat)
 |[]=>rfl
 |b::s=>⟨[.int .u8 b.toNat],_,rfl,rfl,rfl,a68 g w s⟩
section
variable {P:Program}{o:Oper}{a:Act}{g:Gh}{w:World}{H:qO}{T:rO}(hT:vK P T) (hH:rH g w H)
include hT hH
theorem aFm {t t':TypeId}{x:Operand}(ho:o.op= .convert t t' x) {sx:oZ}(hx:pW g w sx (a.eval x)) {e:pC}
  (hr:A3 (U7 T (qC T t) (qC T t') sx)=some e):pS P o a g w H e:=by
 obtain⟨q,hq,rfl⟩:=HT hr;replace hx:=hx.1;generalize h1:qC T t=o1 at hq;generalize h2:qC T t'=o2 at hq;unfold U7 at hq;split at hq
 ·rename_i e b1 a1 l1 e2 b2 a2 l2 l k;generalize h3:qC T e=o3 at hq;unfold a5j at hq;split at hq
  ·cases hq;have d1:=(s0 hT h1).2;have d2:=(s0 hT h2).2;have d3:=(s0 hT h3).2;simp only[wJ] at d1 d2 d3;obtain⟨ad,cap,hv,hle,hl⟩:=CK hx;refine pS.pure hH (v:= .string ⟨(sD l).toArray⟩) ?_ (HS _ _ _);simp only[execOp,ho,hv,aMY];have run:(convert t t' (.slice ad (List.length l) cap)).run P w= .ok (.string ⟨(sD l).toArray⟩) w:=by
    rcases hl with rfl|⟨b,off,rfl,hL⟩
    ·rw[run_convert_bytes_string w t t' e ad _ cap d1.1 d3 d2];cases ad with
     |none=>simp [Conv.bytesToString,sD];rfl
     |some ad=>simp [Conv.bytesToString,loadCells,loadCellsFrom,sD];rfl
    ·have:=run_convert_bytes_arg (P:=P) w t e d1.1 d3 b off (List.length l) cap l rfl (fun i hi=>by
      obtain⟨cs,_,c2,_,c4⟩:=QD hL (aMR hi);have c5:cs=[.int .u8 (l[i]:Int)]:=c4;subst c5;have:=c2 0 _ rfl;have hcell:Ty.cells (.int .u8)=1:=rfl;rw[hcell,aON,aNN] at this;rw[this,aNa,aMR hi];rfl) t' d2
     exact this
   rw[run];rfl
  ·cases hq
 ·cases hq
theorem aFn {args:Array Operand}{tys:Array TypeId}(ho:o.op= .call ⟨.builtin .append,args,tys⟩) {ρ:Operand->oZ}(hρ: ∀x∈args.toList,pW g w (ρ x) (a.eval x)) {e:pC}
  (hr:PV T H (uA ρ args.toList) tys.toList=some e) (hs: ∀p∈e.side,p):pS P o a g w H e:=by
 unfold PV at hr;split at hr
 ·rename_i t u htu;have htys:tys= #[t,u]:=by apply aNS.1;rw[htu]
  split at hr
  ·rename_i e1;subst e1;exact aEJ hT hH ho hρ htys hr hs
  ·clear htu;subst htys;generalize hst:qC T t=ot at hr;generalize hsu:qC T u=ou at hr;generalize hss:uA ρ args.toList=ss at hr;unfold V5 at hr;split at hr
   ·rename_i el ar ls_ e2 b2 a2 ls2 l k s k2;generalize hk:p9 H k=ob at hr;unfold PU at hr;split at hr
    ·rename_i e' c n;split at hr
     ·rename_i hec;obtain⟨rfl,rfl⟩:=hec;cases hr;rw[aMN];have hsl:List.length (sP s)=List.length s:=by simp [sP]
      rw[hsl];have hln:=hs _ (by simp:(List.length l=n)∈_);have hby:=hs _ (by simp:(List.length l+List.length s<=140737488355328)∈_);obtain⟨v,vr,hv,hs1,hs2⟩:=QH hT hH hρ hss;obtain⟨h2,h3,_⟩:=(s0 hT hst).2;have hu:=(s0 hT hsu).2;simp only[wJ] at hu;obtain⟨ei,hei,hz⟩:=aMZ.1 h3;simp only[aM9] at hz;obtain⟨cs,hx⟩:=EL (a:=a) hT hH ho;obtain⟨v0,xs,hv0,hown,hnone,hseal⟩:=hH.blk k _ hk;have hcur:g.cur k (List.length l)=some v:=hs1.2;rw[hln,hv0] at hcur;obtain rfl:=aML hcur;obtain⟨adl,capl,hvl,hlel,hll⟩:=CK hs1.1;have hvr:=xR hs2.1;have hsz:(⟨List.toArray s⟩:ByteArray).size=List.length s:=by simp [ByteArray.size]
      by_cases hm:List.length s=0
      ·obtain rfl:s=[]:=aNb hm;have hget: ∀i,p9 (pF [(k,oX.grow e' 1 (List.length l+List.length ([]:List UInt8)))] H) i=p9 H i:=by
        intro i;simp only[pF,p9];by_cases hi:k=i
        ·subst hi;rw[aMI rfl,hk,hln];rfl
        ·rw[aMK hi]
       have hkeep:qU g w H ⟨[List.length l=n,List.length l+List.length ([]:List UInt8)<=140737488355328],(.val (.list (.int .u8)) (l++sP []),some k),[(k,.grow e' 1 (List.length l+List.length ([]:List UInt8)))],[k]⟩ g w v0:=by
        refine⟨.refl _ _,?_,⟨fun i b h=>hH.blk i b ((hget i).symm.trans h),fun i j bi bj b o' hij h1 h2=>hH.dis i j bi bj b o' hij ((hget i).symm.trans h1) ((hget j).symm.trans h2),hH.sl,hH.tab.1,fun i blk b o' h ho'=>hH.tab.2 i blk b o' ((hget i).symm.trans h) ho'⟩,.refl _ _ _,fun i blk b o' hi hg ho'=> .inr ⟨i,blk,hi,(hget i).symm.trans hg,ho'⟩,fun _ _=>⟨rfl,rfl⟩,fun i u' y us h=> .inl ⟨y,us,(hget i).symm.trans h⟩⟩;rw[show l++sP []=l from by simp [sP]];exact hs1
       refine pS.value (v:=v0) (w':=w) ?_ hkeep;rw[hx,hv,hvr,hvl];have:=aFl (P:=P) w t u o.type e' ei h2 hu hei (by rw[hz.1];rfl) adl (List.length l) capl hlel;simp only[builtin,aMY];rw[this];simp only[aMT,aM6]
      ·have hxs:sC (Rd g w (.int .u8)) 1 l xs:=by
        by_cases h0:List.length l=0
        ·obtain rfl:l=[]:=aNb h0;have:xs=[]:=aNb (by rw[hown.1,<-hln];simp);exact this
        ·rcases hll with rfl|⟨b0,off0,rfl,hL0⟩
         ·exact absurd rfl h0
         ·obtain⟨ls,hF0,hra0,_⟩:=JP hL0;rcases hown.2 with⟨e1,e2⟩ |⟨q,cap,cur,e1,e2⟩
          ·exact absurd (hln.trans e2) h0
          ·rw[hvl] at e1;simp only[aOM,aMJ,Addr.mk.injEq] at e1;obtain⟨⟨rfl,rfl,_⟩,_,rfl⟩:=e1;have hvn:v0= .slice (some ⟨b0,0,none⟩) n capl:=by rw[hvl,hln]
           have hrx:=VZ (hvn▸hown);have:ls=xs:=by
            have hl1:=FZ hF0;have hl2:=hown.1;have hc1:Ty.cells (.int .u8)=1:=rfl;rw[hc1] at hl1;apply List.ext_getElem?;intro j;by_cases hj:j<ls.length
            ·have h1:=hra0 j ls[j] (aMR hj);have hj':j<xs.length:=by rw[hl2,<-hln,<-hl1];exact hj
             have h2:=hrx j xs[j] (aMR hj');rw[h1] at h2;rw[aMR hj,aMR hj',aML h2]
            ·rw[aNP (by omega),aNP (by rw[hl2,<-hln,<-hl1];omega)]
           rw[<-this];exact hF0
       obtain⟨q,cap,w',hrun,hown',hq,hg,hcap,hcell⟩:=aFk (P:=P) w t u o.type e' ei h2 hu hei hz.2.2 hz.1 hz.2.1 v0 n xs hown ⟨List.toArray s⟩ (by rw[hsz];omega) (by rw[hsz];unfold maxLen;omega) (by rw[hsz];omega);rw[hsz] at hrun hown' hcap;rw[aFj] at hown';refine pS.value (v:= .slice (some ⟨q,0,none⟩) (n+List.length s) cap) (w':=w') ?_ (by
        have:=qU.append (side:=[List.length l=n,List.length l+List.length s<=140737488355328]) (rds:=[k]) (u:= .int .u8) (r:=sP s) hH hk (show (1:Nat)=Ty.cells (.int .u8) from rfl) hln hv0 hown hnone hseal hxs (a68 g w s) (by rw[hsl];omega) (by rw[hsl];exact hown') hq hg (by rw[hsl];exact hcap) hcell;rw[hsl] at this;rw[hln];rw[hln] at this;exact this)
       rw[hx,hv,hvr];simp only[builtin,aMY,hrun,aMT,aM6]
     ·cases hr
    ·cases hr
   ·cases hr
 ·cases hr
end
theorem aFo {g g':Gh}{w:World}{f:oZ→oZ}(hf: ∀s u,pW g w s u→pW g' w (f s) u): ∀{l:List oZ}{v:Value}{s:oZ},MQ g w l v→J7 (l.map f)=some s→pW g' w s v:=by
  have un: ∀{l:List oZ}{vs:List Value}{q},uB g w l vs→HF (l.map f)=some q→JL g' w q vs:=by
    intro l
    induction l with
    | nil=>
      intro vs q h hq;simp only[List.map_nil,HF,aMJ] at hq;subst hq;exact h
    | cons s l ih=>
      rintro vs q ⟨v,vs',rfl,h1,h2⟩ hq;have h1':=hf s v h1;simp only[aNT] at hq;generalize f s=fs at hq h1';obtain⟨d,k⟩:=fs;cases d with
      | val t x=>
        simp only[HF] at hq;obtain⟨q',hq',rfl⟩:=aMZ.1 hq;refine⟨v,vs',rfl,h1'.1,?_,ih h2 hq'⟩;cases k with
        |none=>trivial
        |some k=>exact h1'.2
      |_=>simp [HF] at hq
  intro l v s h hs
  match l,h,hs with
  | [],⟨vs,e,h⟩,hs=>
    simp only[List.map_nil,J7,aMJ] at hs;subst hs;rw[show vs=[] from h] at e;exact⟨⟨[],e,rfl⟩,trivial⟩
  | [x],h,hs=>
    simp only[aNT,List.map_nil,J7,aMJ] at hs;subst hs;exact hf x v h
  | x::y::l,⟨vs,e,h⟩,hs=>
    simp only[aNT,J7,aMJ] at hs;subst hs;cases hq:HF (f x::f y::l.map f) with
    |none=>exact⟨trivial,trivial⟩
    |some q=>exact⟨⟨vs,e,un (l:=x::y::l) h (by simpa using hq)⟩,trivial⟩
theorem a69 {base n:Nat}{W:List pT}: ∀l:List oZ,LU base n W l=l.map (OY base n W)
  |[]=>rfl
  |s::l=>by simp [LU,a69 l]
theorem a7a {P:Program}{f:FuncId}{sg:pY}(hcon:B7 P f sg.C) {g:Gh}{w:World}{H:qO}(hH:rH g w H) {args:List oZ}{vals:List Value}(hargs:uB g w args vals) {base:Nat}{e:pC}
    (hr:EE H base args (some sg)=some e) (hs: ∀p∈e.side,p) (hfr:yQ g base e):Calls P f vals.toArray w (fun en w'=> ∃v g',en= .returned v∧qU g w H e g' w' v):=by
  simp only[EE] at hr;cases hp0:vR H sg.ps args (some ⟨[],[],[],0⟩) with
  |none=>rw[hp0] at hr;cases hgs:sg.gs<;>(rw[hgs] at hr;simp [LV,A5] at hr)
  |some q0=>
   rw[hp0] at hr;cases hp:A5 H sg.gs (some q0) with
   |none=>rw[hp] at hr;simp [LV] at hr
   |some q=>
    rw[hp] at hr;simp only[LV,a6Z,List.append_nil] at hr;have hpo0:=a6U hH (AC.nil g w H) hargs hp0;rw[List.nil_append] at hpo0;have hpo:=a6W hH hpo0 hp;cases hcl:FP q.ws.reverse q.H.reverse with
    |none=>rw[hcl] at hr;simp [P4] at hr
    |some L=>
    rw[hcl] at hr;simp only[P4] at hr;have hm:=hpo.m.ren hcl;cases hc:sg.C q.args.reverse L with
    |none=>rw[hc] at hr;simp [P0] at hr
    | some r=>
      rw[hc] at hr;simp only[P0,a6Y] at hr;cases hbh:A6 base r.H.length q.ws.reverse 0 q.ws.reverse r.H with
      |none=>rw[hbh] at hr;simp [LT] at hr
      | some upd=>
        rw[hbh] at hr;cases hrs:J7 (LU base r.H.length q.ws.reverse r.ret) with
        |none=>rw[hrs] at hr;simp [LT] at hr
        | some s=>
          rw[hrs] at hr;simp only[LT,aMJ] at hr;subst hr;refine(hcon.2 (tV g q.ws.reverse) w q.args.reverse _ L r (aEZ hH hm) hpo.args hc hs).mono ?_;rintro en w' ⟨v,g',rfl,hret⟩;refine⟨v,_,rfl,aFf hH hm hret hbh hfr ?_⟩;rw[a69] at hrs;exact aFo (fun s u h=>aFd hH hm hret hbh hfr h) hret.ret hrs
theorem MT {g g':Gh}{w w':World}: ∀{t:Ty}{x:t.den}{cs:List Value},FQ t=true→Rd g w t x cs→Rd g' w' t x cs
  | .bool,_,_,_,r=>r
  | .int _,_,_,_,r=>r
  | .str,_,_,_,r=>r
  | .unit,_,_,_,r=>r
  | .fn,_,_,_,r=>r
  | .pair a b,_,_,h,⟨c1,c2,e,r1,r2⟩=>by
    simp only[FQ,aMS] at h;exact⟨c1,c2,e,MT h.1 r1,MT h.2 r2⟩
  | .list _,_,_,h,_=>by cases h
  | .ref,_,_,h,_=>by cases h
  | .clo,_,_,h,_=>by cases h
  | .mp,_,_,h,_=>by cases h
  | .rl _ _,_,_,h,_=>by cases h
  | .mref,_,_,h,_=>by cases h
theorem a7b {g g':Gh}{w:World}{k n:Nat}{t:Ty}{l:List t.den}(le:Le g w g' w) (hk: ∀u,g.cur k n=some u→((u= .slice none 0 0∧n=0)∨∃b cap,u= .slice (some ⟨b,0,none⟩) n cap∧n≤cap)→rZ g' w (.list t) l u):
    ∀{args:List oZ}{vals:List Value},uB g w args vals→(∀p∈HG k n args,p)→uB g' w (LX k t l args) vals
  |[],_,h,_=>h
  | s::ss,_,⟨v,vs,rfl,h1,h2⟩,hp=>by
    refine⟨v,vs,rfl,?_,a7b le hk h2 (fun p hp'=>hp p ?_)⟩
    · obtain⟨d,x⟩:=s
      cases d with
      | own j m=>
        simp only[a5s];split
        · rename_i e
          subst e;have hm:m=n:=hp (j=j→m=n) (by simp only[HG];exact aNf) rfl;subst hm;exact⟨hk _ h1.1.1 h1.1.2,trivial⟩
        ·exact A9 le h1
      |_=>exact A9 le h1
    · obtain⟨d,x⟩:=s
      cases d with
      |own j m=>simp only[HG];exact aM4 _ hp'
      |_=>exact hp'
theorem aFp {P:Program}{f:FuncId}{sg:pY}(hcon:B7 P f sg.C) {g:Gh}{w:World}{H:qO}(hH:rH g w H) {args:List oZ}{vals:List Value}(hargs:uB g w args vals) {base:Nat}{e:pC}{k:Nat}
    (hr:LY H base args sg k (p9 H k)=some e) (hs: ∀p∈e.side,p) (hfr:yQ g base e):Calls P f vals.toArray w (fun en w'=> ∃v g',en= .returned v∧qU g w H e g' w' v):=by
  cases hk:p9 H k with
  |none=>rw[hk] at hr;cases hr
  | some b=>
    rw[hk] at hr;cases b with
    | row e0 t l m=>
      simp only[LY] at hr;cases hi:EE ((k,.dead)::H) base (LX k t l args) (some sg) with
      |none=>rw[hi] at hr;cases hr
      | some e1=>
        rw[hi] at hr;unfold UC at hr;split at hr
        · rename_i side t' x kk U rds heq
          simp only[aMJ] at heq;subst heq;split at hr
          · rename_i hnl
            simp only[aMS,aNh] at hnl;obtain⟨⟨hnl,hU⟩,hkU⟩:=hnl;have hkU':k∉pB U:=fun h=>by rw[HW.2 h] at hkU;cases hkU
            cases hr;obtain⟨hl,v,xs,hv,hown,hF,hnone,hseal⟩:=hH.blk k _ hk
            let g':Gh:={g with S:=fun b o=>g.S b o∨(v.ownBlock=some b∧o<m*t.cells)}
            have le:Le g w g' w:=⟨fun _ _ h=> .inl h,fun _ _ _=>rfl,fun _ _ h=>h,fun _ _ _ h=>h⟩;have hown2: ∀b,v.ownBlock=some b→∀o,qP g k (.row e0 t l m) b o:=fun b hb o=>⟨v,hv,hb⟩
            have hlist: ∀u,g.cur k m=some u→((u= .slice none 0 0∧m=0)∨∃b cap,u= .slice (some ⟨b,0,none⟩) m cap∧m≤cap)→rZ g' w (.list t) l u:=by
              intro u hu hshape;rw[hv] at hu;obtain rfl:=aML hu;rcases hshape with⟨rfl,h0⟩ |⟨b,cap,rfl,hcap⟩
              · have:l=[]:=aNb (by rw[hl,h0])
                subst this;exact .inr ⟨rfl,none,0,rfl,aM2 _,.inl rfl⟩
              · refine .inr ⟨rfl,some ⟨b,0,none⟩,cap,by rw[hl],by rw[hl];exact hcap,.inr ⟨b,0,rfl,HU (B5 (fun _ _ h=>uX le h) hF) (fun j u hu=> ?_) (fun j hj=> ?_)⟩⟩
                · have:=hown.cells (g:=b) rfl j u hu
                  rwa [aNW] at this
                · right
                  exact⟨rfl,by rw[hl] at hj;omega⟩
            have hget: ∀i b,p9 ((k,oX.dead)::H) i=some b→(i=k∧b= .dead)∨(i≠k∧p9 H i=some b):=by
              intro i b hb;simp only[p9] at hb;split at hb
              ·rename_i e1;exact .inl ⟨e1.symm,(aML hb).symm⟩
              ·rename_i e1;exact .inr ⟨Ne.symm e1,hb⟩
            have hH':rH g' w ((k,oX.dead)::H):=by
              refine⟨fun i b hb=> ?_,fun i j bi bj b o hij h1 h2 o1 o2=> ?_,fun b o hS=> ?_,hH.tab.1,fun i b bb oo hb ho=> ?_⟩
              · rcases hget i b hb with⟨rfl,rfl⟩ |⟨hne,h1⟩
                ·trivial
                ·exact HQ (hH.blk i b h1) le rfl rfl (fun _ _ _=>⟨rfl,rfl⟩) (fun _ _=>rfl) (fun bb o ho hS=>by
                    rcases hS with hS|hS
                    ·exact hS
                    ·exact absurd (hown2 bb hS.1 o) (fun h5=>hH.dis i k b _ bb o hne h1 hk ho h5)) (fun _ _ _ _ h=>h)
              · rcases hget i bi h1 with⟨_,rfl⟩ |⟨_,h1⟩
                ·exact o1.elim
                · rcases hget j bj h2 with⟨_,rfl⟩ |⟨_,h2⟩
                  ·exact o2.elim
                  ·exact hH.dis i j bi bj b o hij h1 h2 ((x9 (g':=g') (g:=g) rfl rfl).1 o1) ((x9 (g':=g') (g:=g) rfl rfl).1 o2)
              · rcases hS with hS|hS
                ·exact hH.sl b o hS
                ·exact JM hown hS.1
              · rcases hget i b hb with⟨_,rfl⟩ |⟨_,h1⟩
                ·exact ho.elim
                ·exact hH.tab.2 i b bb oo h1 ((x9 (g':=g') (g:=g) rfl rfl).1 ho)
            have hsp: ∀p,p∈HG k m args∨p∈side→p:=fun p hp=>hs p (MP.2 hp)
            have hget2: ∀i,i≠k→p9 ((k,oX.dead)::H) i=p9 H i:=fun i hi=>by
              simp only[p9];rw[aMK (Ne.symm hi)]
            have hin: ∀{i},i∈pB U→i≠k:=fun h e=>hkU' (e▸h)
            have hup: ∀{i blk},i∈pB U→p9 (pF U H) i=some blk→p9 (pF U ((k,oX.dead)::H)) i=some blk:=by
              intro i blk hi h
              have: ∀{U:List (Nat×oX)},i∈pB U→p9 (pF U ((k,oX.dead)::H)) i=p9 (pF U H) i:=by
                intro U
                induction U with
                |nil=>intro h;cases h
                | cons q U ih=>
                  intro h;obtain⟨j,b⟩:=q;simp only[pF,p9];split
                  ·rfl
                  · rename_i hne
                    simp only[pB,aM1] at h;exact ih (h.resolve_left (fun e=>hne e.symm))
              rw[this hi];exact h
            have hcells: ∀{i blk},i∈pB U→p9 (pF U H) i=some blk→∃t y,blk= .cells t y []∧FQ t=true:=by
              intro i blk hi h
              have: ∀{U:List (Nat×oX)},J8 U=true→i∈pB U→p9 (pF U H) i=some blk→∃t y,blk= .cells t y []∧FQ t=true:=by
                intro U
                induction U with
                |nil=>intro _ h;cases h
                | cons q U ih=>
                  intro hU hi h;obtain⟨j,b⟩:=q;cases b with
                  | cells t y ts=>
                    cases ts with
                    |cons _ _=>simp [J8] at hU
                    | nil=>
                      simp only[J8,aMS] at hU;simp only[pF,p9] at h;split at h
                      · obtain rfl:=aML h
                        exact⟨t,y,rfl,hU.1⟩
                      · rename_i hne
                        simp only[pB,aM1] at hi;exact ih hU.2 (hi.resolve_left (fun e=>hne e.symm)) h
                  |_=>simp [J8] at hU
              exact this hU hi h
            have hownI: ∀b o,rQ g' ((k,oX.dead)::H) (pB U) b o→rQ g H (pB U) b o:=fun b o ⟨i,blk,hi,h1,h2⟩=>⟨i,blk,hi,(hget2 i (hin hi)).symm.trans h1,(x9 (g':=g') (g:=g) rfl rfl).1 h2⟩;refine(a7a hcon hH' (a7b le hlist hargs (fun p hp=>hsp p (.inl hp))) hi (fun p hp=>hsp p (.inr hp)) (fun i hi' hb=>hfr i hi' hb)).mono ?_;rintro en w' ⟨v1,g1,rfl,hE⟩
            let g2:Gh:={g1 with S:=g.S}
            have hle:Le g w g2 w':=⟨fun _ _ h=>h,fun b o h=>hE.le.cell b o (.inl h),fun i p h=>hE.le.J i p h,fun i n u h=>hE.le.cur i n u h⟩
            have hfr2:Fr (rQ g H (pB U)) w w' g.S g2.S:=
              ⟨hE.fr.os,hE.fr.tape,hE.fr.output,hE.fr.size,fun b hb hno=>hE.fr.blk b hb (fun o h=>hno o (hownI b o h)),fun b o hb hno=>hE.fr.cell b o hb (fun h=>hno (hownI b o h)),fun _ _ h=> .inl h,fun b s h=>(hE.fr.shape b s h).imp id fun h o=>hownI b o (h o)⟩
            have hgho: ∀i,i∉pB U→g2.J i=g.J i∧g2.cur i=g.cur i:=fun i hi=>hE.gho i hi
            have hperm: ∀i blk b o,i∈pB U→p9 (pF U H) i=some blk→qP g2 i blk b o→w.heap.size≤b∨rQ g H (pB U) b o:=fun i blk b o hi hg ho=>
              (hE.perm i blk b o hi (hup hi hg) ((x9 (g':=g2) (g:=g1) rfl rfl).1 ho)).imp id (hownI b o)
            refine⟨v1,g2,rfl,hle,⟨?_,trivial⟩,hH.upd hle hfr2 hperm hgho (fun i blk hi hg=> ?_) (fun i j bi bj b o hi hj hij hgi hgj hoi hoj=> ?_) (fun b o h=>aNm (hH.sl b o h) hE.fr.size),hfr2,hperm,hgho,fun i u y us h=> ?_⟩
            ·exact hE.slot.1.imp (fun⟨a,cs,e,q⟩=>⟨a,cs,e,MT hnl q⟩) (fun⟨a,q⟩=>⟨a,MT hnl q⟩)
            · obtain⟨t2,y2,rfl,hn2⟩:=hcells hi hg
              obtain⟨p,cs,q1,q2,q3,q4,q5,_⟩:=hE.heap.blk i _ (hup hi hg);exact⟨p,cs,q1,MT hn2 q2,q3,q4,fun j hj hS=>q5 j hj (hE.le.S _ _ (.inl hS)),fun _ _ hm=>by cases hm⟩
            ·exact hE.heap.dis i j bi bj b o hij (hup hi hgi) (hup hj hgj) ((x9 (g':=g2) (g:=g1) rfl rfl).1 hoi) ((x9 (g':=g2) (g:=g1) rfl rfl).1 hoj)
            · by_cases hiU:i∈pB U
              · rcases hE.ty i u y us (hup hiU h) with⟨x',ts',q⟩ |q
                ·exact .inl ⟨x',ts',(hget2 i (hin hiU)).symm.trans q⟩
                ·exact .inr q
              ·exact .inl ⟨y,us,(B6 hiU).symm.trans h⟩
          ·cases hr
        ·cases hr
    |_=>cases hr
theorem aFq {P:Program}{f:FuncId}{F:(t:Ty)→List t.den→Option (List t.den)}(hF:QL P f F) {g:Gh}{w:World}{H:qO}(hH:rH g w H) {args:List oZ}{vals:List Value}(hargs:uB g w args vals) {e:pC}
    (hr:P5 H F args=some e) (hs: ∀p∈e.side,p):Calls P f vals.toArray w (fun en w'=> ∃v g',en= .returned v∧qU g w H e g' w' v):=by
  unfold P5 at hr;split at hr
  · rename_i k n x
    obtain⟨v,vs,rfl,ha,hv⟩:=hargs;rw[show vs=[] from hv];cases hk:p9 H k with
    |none=>rw[hk] at hr;cases hr
    | some b=>
      rw[hk] at hr;cases b with
      | row e0 t l m=>
        simp only[UD] at hr;cases hf:F t l with
        |none=>rw[hf] at hr;cases hr
        | some l'=>
          rw[hf] at hr;cases hr;have hnm:n=m:=hs _ aNf;subst hnm;obtain⟨hl,v0,xs,hv0,hown,hFx,hnone,hseal⟩:=hH.blk k _ hk;have h1:=ha.1.1;rw[hv0] at h1;obtain rfl:=aML h1;refine(hF g w e0 t l l' v0 n xs hH.tab.1 hown hFx hl (hs _ (by simp)) hf).mono ?_;rintro en w' ⟨rfl,hl',xs',k1,k2,k3⟩;have hownk: ∀b,v0.ownBlock=some b→∀o,rQ g H [k] b o:=fun b hb o=>⟨k,_,by simp,hk,v0,hv0,hb⟩;refine⟨_,_,rfl,qU.row (v:=v0) (xs:=xs') hH hl' k1 k2 hnone (fun u hu=>by rw[hv0] at hu;exact(aML hu).symm) (.inr ⟨v0.ownBlock,k3,hownk⟩) (fun b o hS=> ?_) hseal (fun b hb=> .inr (hownk b hb)) ⟨⟨[],rfl,rfl⟩,trivial⟩⟩;have hne:v0.ownBlock≠some b:=fun e=>hseal b e o hS;exact aM7 (a:=⟨b,o,none⟩) (k3.block b (hH.sl b o hS) (fun e=>hne e.symm))
      |_=>cases hr
  ·cases hr
section
variable {P:Program}{o:Oper}{a:Act}{g:Gh}{w:World}{H:qO}{T:rO}{Γ:sZ}(hT:vK P T) (hΓ:CM P Γ) (hH:rH g w H)
include hT hΓ hH
theorem a7c {f:FuncId}{args:List oZ}{vals:List Value}(hargs:uB g w args vals) {base:Nat}{e:pC}(hr:HK H base args (Γ f)=some e) (hs: ∀p∈e.side,p) (hfr:yQ g base e):
    (∀args w,(callFunc f args).run P w= .ok (.enter f args) w)∧Calls P f vals.toArray w (fun en w'=> ∃v g',en= .returned v∧qU g w H e g' w' v):=by
  cases hg:Γ f with
  |none=>rw[hg] at hr;cases hr
  | some sg=>
    rw[hg] at hr;obtain⟨hcon,hrow⟩:=hΓ f sg hg;refine⟨hcon.1,?_⟩;simp only[HK] at hr;cases hF:sg.row with
    | some F=>
      rw[hF] at hr;exact aFq (hrow F hF) hH hargs hr hs
    | none=>
      rw[hF] at hr;simp only[PS] at hr;cases hn:LW sg.ps args with
      | some k=>
        rw[hn] at hr;exact aFp hcon hH hargs hr hs hfr
      | none=>
        rw[hn] at hr;exact a7a hcon hH hargs hr hs hfr
theorem aFr {fop:Operand}{args:Array Operand}{tys:Array TypeId}(ho:o.op= .call ⟨.value fop,args,tys⟩) {ρ:Operand→oZ}(hf:pW g w (ρ fop) (a.eval fop)) (hρ: ∀x∈args.toList,pW g w (ρ x) (a.eval x)) {base:Nat}{e:pC}
    (hr:JB Γ H base (EG T ρ args.toList tys.toList) (ρ fop)=some e) (hs: ∀p∈e.side,p) (hfr:yQ g base e) (hlen:args.size=tys.size):pS P o a g w H e:=by
  have hargs:=a6F (a:=a) (ρ:=ρ) hT hΓ hH (xs:=args.toList) (ts:=tys.toList) (by simpa using hlen) hρ;unfold JB at hr;split at hr
  · rename_i f caps k heq
    rw[heq] at hf
    obtain⟨vs,hcv,hfv⟩: ∃vs,wA g caps vs∧a.eval fop= .func (.func f) #[] vs.toArray:=by
      rcases hf.1 with⟨h1,_⟩ |⟨_,vs,h2,h3⟩
      ·cases h1
      · simp only[aNB,and_true] at h3
        exact⟨vs,h2,h3⟩
    obtain⟨hen,hc⟩:=a7c hT hΓ hH (aES hT hΓ hH hargs (a6G hT hΓ hH hcv)) hr hs hfr;intro K Q hK;refine a6H ho hfv hen (hc.mono ?_);rintro en w' ⟨v,g',rfl,hE⟩;exact⟨v,rfl,hK _ w' v hE.w⟩
  · rename_i f k heq
    rw[heq] at hf
    have hfv:a.eval fop= .func (.func f) #[] ([]:List Value).toArray:=by
      rcases hf.1 with⟨h1,_⟩ |⟨_,h2⟩
      ·cases h1
      ·simpa[Rd,a5V] using h2
    obtain⟨hen,hc⟩:=a7c hT hΓ hH hargs hr hs hfr;intro K Q hK;refine a6H ho hfv hen ?_;rw[List.append_nil];refine hc.mono ?_;rintro en w' ⟨v,g',rfl,hE⟩;exact⟨v,rfl,hK _ w' v hE.w⟩
  ·cases hr
theorem a7d: ∀{xs:List Operand}{ts:List TypeId},HL xs ts=true→xs.length=ts.length
  |[],[],_=>rfl
  |_::xs,_::ts,h=>by simp only[HL] at h;simp [a7d h]
  |[],_::_,h=>by cases h
  |_::_,[],h=>by cases h
theorem WN {op:Op}(ho:o.op=op) {ρ:Operand→oZ}(hρ: ∀x∈rK op,pW g w (ρ x) (a.eval x)) {base:Nat}{e:pC}(hr:t6 T Γ o.type ρ base H op=some e) (hs: ∀p∈e.side,p) (hf:yQ g base e):pS P o a g w H e:=by
  unfold t6 at hr;split at hr
  · rename_i x
    exact a6m hT hH (.inl ho) (hρ x (by simp [rK])) hr hf
  · rename_i x
    exact a6m hT hH (.inr ho) (hρ x (by simp [rK])) hr hf
  ·exact aED hT hH ho hr hf
  · rename_i t x
    exact aEC hT hH ho (WB hT hΓ hH (hρ x (by simp [rK]))) hr hf
  · rename_i t ps
    exact aEh hT hH ho (ρ:=ρ) (fun q hq=>hρ q.2 (by
      simp only[rK];generalize ps.toList=l at hq
      induction l with
      |nil=>cases hq
      |cons p l ih=>rcases aM1.1 hq with rfl|h<;>simp_all [rK.parts])) hr
  · rename_i t n ps
    exact aEI hT hH ho (ρ:=ρ) (fun q hq=>hρ q.2 (by
      simp only[rK];generalize ps.toList=l at hq
      induction l with
      |nil=>cases hq
      |cons p l ih=>rcases aM1.1 hq with rfl|h<;>simp_all [rK.parts])) hr hf
  · rename_i t x
    exact aEv hT hH ho (hρ x (by simp [rK])) hr hs
  · rename_i t x y
    exact aEH hT hH ho (hρ x (by simp [rK])) (WB hT hΓ hH (hρ y (by simp [rK]))) hr hs hf
  · rename_i x
    exact aEb hT hH ho (hρ x (by simp [rK])) hr
  · rename_i op t x y t'
    cases hb:OP op (ρ x) (ρ y) with
    | some r=>
      rw[hb] at hr;exact aD2 hH ho (hρ x (by simp [rK])) (hρ y (by simp [rK])) (by rw[hb];exact hr) hs
    | none=>
      rw[hb] at hr;exact aFi hT hH ho (hρ x (by simp [rK])) (hρ y (by simp [rK])) hr
  · rename_i op t x
    exact aD3 hH ho (hρ x (by simp [rK])) hr hs
  · rename_i t t' x
    cases hb:OR (qC T t) (qC T t') (ρ x) with
    | some r=>
      rw[hb] at hr;exact aD4 hT hH ho (hρ x (by simp [rK])) (by rw[hb];exact hr)
    | none=>
      rw[hb] at hr;exact aFm hT hH ho (hρ x (by simp [rK])) hr
  · rename_i f first caps
    have hfi:first= #[]:=by
      cases hl:first.toList with
      |nil=>apply aNS.1;simpa using hl
      |cons x l=>rw[hl] at hr;cases hr
    subst hfi;exact aEl hT hH ho (ρ:=ρ) (fun x hx=>hρ x (by simpa[rK] using hx)) hr
  · rename_i t x lo hi
    refine aEw hT hH ho (ρ:=ρ) (hρ x (by simp [rK])) (fun y hy=>hρ y ?_) (fun y hy=>hρ y ?_) hr hs
    · cases lo with
      |none=>simp at hy
      |some l=>simp at hy;subst hy;simp [rK,rK.opt,pF]
    · cases hi with
      |none=>simp at hy
      |some l=>simp at hy;subst hy;cases lo<;>simp [rK,rK.opt,pF]
  · rename_i t x f
    exact aD9 hT hH ho (hρ x (by simp [rK])) hr
  · rename_i t x f
    exact aD8 hT hH ho (hρ x (by simp [rK])) hr
  · rename_i t x ix
    exact aEd hT hH ho (hρ x (by simp [rK])) (hρ ix (by simp [rK])) hr hs
  · rename_i t x ix
    exact aEc hT hH ho (hρ x (by simp [rK])) (hρ ix (by simp [rK])) hr hs
  · rename_i x i
    exact aEa hT hH ho (hρ x (by simp [rK])) hr hs
  · rename_i t r
    exact aEL hT hH ho hr hf
  · rename_i t x
    exact aEQ hT hH ho (hρ x (by simp [rK])) hr hf
  · rename_i x b
    exact aER hT hH ho (hρ x (by simp [rK])) hr
  · rename_i t x i ok
    exact aEN hT hH ho (hρ x (by simp [rK])) (hρ i (by simp [rK])) hr
  · rename_i t m k x
    exact a6C hT hH (.inl ho) (hρ m (by simp [rK])) (hρ k (by simp [rK])) (a6B (hρ x (by simp [rK]))) hr
  · rename_i t m k x
    exact a6C hT hH (.inr ho) (hρ m (by simp [rK])) (hρ k (by simp [rK])) (a6B (hρ x (by simp [rK]))) hr
  · rename_i c
    obtain⟨cal,args,tys⟩:=c;simp only at hr;unfold HM at hr;split at hr
    ·exact aEk hT hH ho (ρ:=ρ) (fun x hx=>hρ x (by simpa[rK] using hx)) hr
    ·exact aFn hT hH ho (ρ:=ρ) (fun x hx=>hρ x (by simpa[rK] using hx)) hr hs
    ·exact a6c (mx:=true) hT hH ho (ρ:=ρ) (fun x hx=>hρ x (by simpa[rK] using hx)) hr
    ·exact a6c (mx:=false) hT hH ho (ρ:=ρ) (fun x hx=>hρ x (by simpa[rK] using hx)) hr
    · rename_i f
      cases hsl:HL args.toList tys.toList with
      |false=>rw[hsl] at hr;cases hr
      | true=>
        rw[hsl] at hr;simp only[V6] at hr;exact aFr hT hΓ hH ho (hρ f (by simp [rK])) (fun x hx=>hρ x (by simp [rK];right;simpa using hx)) hr hs hf (by simpa using a7d hT hΓ hH hsl)
    ·cases hr
  ·cases hr
end
def AD (g:Gh) (w:World) (env:List (Nat×oZ)) (tmps:Array Value):Prop:= ∀t,pW g w (lk env t) (tmps.getD t undef)
def xV (B:Nat) (w:World) (ds:List Deferred):Prop:=ds.Nodup/\∀d∈ds,∃D,d={target:= .collected D,args:= #[]}/\B<=D/\NG<=D/\w.heap[D]? =some (.deferred (some []))
theorem a7e (B:Nat) (w:World):xV B w []:=⟨List.nodup_nil,fun d hd=>by cases hd⟩
theorem xV.same {B:Nat}{w w':World}{ds:List Deferred}(h:xV B w ds) (hb: ∀D:Nat,w.heap[D]? =some (Obj.deferred (some []))->w'.heap[D]? =some (Obj.deferred (some []))):xV B w' ds:=
 ⟨h.1,fun d hd=>by obtain⟨D,h1,h2,h0,h3⟩:=h.2 d hd;exact⟨D,h1,h2,h0,hb D h3⟩⟩
def EN:Obj->Bool
 | .deferred _=>true
 | .loop _=>true
 |_=>false
theorem WO {w:World}{b:Nat}{ob:Obj}(hd:w.heap[b]? =some ob) (hm:EN ob=true) (o:Nat):w.cell? ⟨b,o,none⟩=none:=by
 unfold World.cell?;simp only[hd];cases ob<;>first|rfl|cases hm
theorem QY {g:Gh}{w:World}{i:Nat}{blk:oX}(h:yO g w i blk) {b o:Nat}(ho:qP g i blk b o) {ob:Obj}(hd:w.heap[b]? =some ob) (hm:EN ob=true):False:=by
 have hrow: ∀{e:TypeId}{c n:Nat}{v:Value}{xs:List Value},w.ownsRow 0 e c v n xs->v.ownBlock=some b->False:=by
  intro e c n v xs hr hb;rcases hr.2 with⟨rfl,_⟩ |⟨g',cap,cur,rfl,_,h3,_⟩
  ·cases hb
  ·simp only[Value.ownBlock,aMJ] at hb;subst hb;rw[hd] at h3;cases h3;cases hm
 cases blk with
 |cells t x toks=>
  obtain⟨p,cs,hp,_,_,ht,_⟩:=h;obtain⟨q,hq,rfl,h1,h2⟩:=ho;rw[hp] at hq;obtain rfl:=aML hq;have:=(ht.1 (o-p.2) (by omega)).1;rw[WO hd hm] at this;cases this
 |grow e c n=>
  obtain⟨v,xs,hv,hr,_⟩:=h;obtain⟨v',hv',hb⟩:=ho;rw[hv] at hv';obtain rfl:=aML hv';exact hrow hr hb
 |row e t l n=>
  obtain⟨_,v,xs,hv,hr,_⟩:=h;obtain⟨v',hv',hb⟩:=ho;rw[hv] at hv';obtain rfl:=aML hv';exact hrow hr hb
 |map k v l=>
  obtain⟨p,es,cl,hp,h0,h2,_⟩:=h;obtain⟨q,hq,h1⟩:=ho;rw[hp] at hq;obtain rfl:=aML hq;rw[show b=p.1 from h1] at hd;rw[h2] at hd;cases hd;cases hm
 |iter s n=>
  obtain⟨p,hp,h0,h2,_⟩:=h;obtain⟨q,hq,h1⟩:=ho;rw[hp] at hq;obtain rfl:=aML hq;rw[show b=p.1 from h1] at hd;rw[h2] at hd;cases hd;cases hm
 |dead=>exact ho.elim
theorem xV.eff {B:Nat}{g g':Gh}{w w':World}{H:qO}{e:pC}{v:Value}{ds:List Deferred}(h:xV B w ds) (hH:rH g w H) (k:yP g w H e g' w' v):xV B w' ds:=
 h.same fun D hD=>by
  rw[k.fr.blk D (aNc.1 hD).1 (fun o ⟨i,blk,_,h1,h2⟩=>QY (hH.blk i blk h1) h2 hD rfl)];exact hD
structure tT (B:Nat) (g:Gh) (w:World) (s:St) (a:Act):Prop where
 env:AD g w s.env a.tmps
 heap:rH g w s.H
 size:a.tmps.size=s.N
 nb: ∀i,s.nb<=i->g.J i=none/\∀n,g.cur i n=none
 def_:xV B w a.defers
 np:s.np<=s.nb
theorem aFs (g:Gh) (w:World) (v:Value):yN g w (U1 v) v:=by
 unfold U1;split
 ·exact uZ _ _ _
 ·exact uY _ _ _ _
 ·rename_i s;have:=HS g w s.data.toList;rw[aOc] at this;exact this
 ·exact rfl
 ·exact .inr ⟨rfl,rfl⟩
 ·exact .inr ⟨rfl,rfl⟩
 ·exact .inr ⟨rfl,rfl⟩
 ·exact trivial
theorem yT {g:Gh}{w:World}{env:List (Nat×oZ)}{a:Act}(h:AD g w env a.tmps) (x:Operand):pW g w (sM env x) (a.eval x):=by
 cases x with
 |tmp t=>exact h t
 |const v=>exact⟨aFs g w v,trivial⟩
 |func f=>exact⟨.inr ⟨rfl,[],rfl,rfl⟩,trivial⟩
 |global i=>exact⟨trivial,trivial⟩
theorem JW {g:Gh}{w:World}{G:Bool}(hG:G=true): ∀{ss:List oZ}{s:oZ}{v:Value},s∈ss->(∀p∈wZ G ss,p)->pW g w s v->pW g w (vT s) v
 |x::ss,s,v,hm,hn,hs=>by
  have hcase: ∀{s:oZ},(∀p∈wZ G [s],p)->pW g w s v->pW g w (vT s) v:=by
   intro s hn hs;obtain⟨d,k⟩:=s;cases d with
   |cond p d=>
    refine⟨hs.1.1 (hn (G=true->p=true) (by simp [wZ]) hG),?_⟩;simp only[vT]
   |_=>exact hs
  have hsplit: ∀p,p∈wZ G [x]->p∈wZ G (x::ss):=by
   intro p hp;unfold wZ at hp⊢;split at hp
   ·cases hp
   ·rename_i heq;simp only[aNB] at heq;obtain⟨rfl,rfl⟩:=heq;rcases aM1.1 hp with h|h
    ·exact h▸aNf
    ·cases h
   ·rename_i h0 heq;simp only[aNB] at heq;obtain⟨_,rfl⟩:=heq;cases hp
  have hsplit2: ∀p,p∈wZ G ss->p∈wZ G (x::ss):=by
   intro p hp;generalize hL:wZ G ss=L at hp;unfold wZ;split
   ·rename_i h;cases h
   ·rename_i heq;simp only[aNB] at heq;obtain⟨_,rfl⟩:=heq;rw[hL];exact aM4 _ hp
   ·rename_i heq;simp only[aNB] at heq;obtain⟨_,rfl⟩:=heq;rw[hL];exact hp
  rcases aM1.1 hm with rfl|hm
  ·exact hcase (fun p hp=>hn p (hsplit p hp)) hs
  ·exact JW hG hm (fun p hp=>hn p (hsplit2 p hp)) hs
theorem QZ {env:List (Nat×oZ)}: ∀{xs:List Operand}{x:Operand},x∈xs->sM env x∈B3 env xs
 |y::xs,x,h=>by
  simp only[B3];rcases aM1.1 h with rfl|h
  ·exact aNf
  ·exact aM4 _ (QZ h)
theorem WP: ∀(ops:List Oper) (j:Nat),CD ops j=(ops[j]?).bind (·.dst)
 |[],j=>by simp [CD]
 |o::_,0=>rfl
 |_::r,j+1=>by simpa[CD] using WP r j
section
variable {P:Program}{g:Gh}{w:World}{T:rO}{Γ:sZ}(hT:vK P T) (hΓ:CM P Γ)
include hT hΓ
theorem aFt {ops:List Oper}{o:Oper}{a:Act}{env:List (Nat×oZ)}(henv:AD g w env a.tmps) {j:Nat}{b:Bool}(hg:o.guard=some (j,b)) {G:Bool}(h:EI env b (CD ops j)=some G):Region.wanted o (yielded ops.toArray a.tmps)=G:=by
 rw[WP] at h;unfold Region.wanted;rw[hg];simp only;cases hd:(ops[j]?).bind (·.dst) with
 |none=>rw[hd] at h;cases h
 |some t=>
  rw[hd] at h;simp only[EI] at h;have hy:yielded ops.toArray a.tmps j=match a.tmps[t]? with|some (.bool b)=>some b|_=>none:=by
   unfold yielded;have:(ops.toArray[j]?).bind (·.dst)=some t:=by simpa using hd
   rw[this];rfl
  have hv:=henv t;generalize hl:lk env t=s at h hv;unfold a5K at h;have hb: ∀c,a.tmps.getD t undef= .bool c->a.tmps[t]? =some (.bool c):=by
   intro c hc;rw[aNj] at hc;cases hq:a.tmps[t]? with
   |none=>rw[hq] at hc;simp [undef] at hc
   |some v=>rw[hq] at hc;simp at hc;rw[hc]
  split at h
  ·rename_i c k;simp only[aMJ] at h;have:=hb _ (vL hv.1);rw[hy,this,<-h];cases c<;>cases b<;>rfl
  ·rename_i p c k;simp only[aMJ] at h;subst h;cases p with
   |true=>
    have:=hb _ (vL (hv.1.1 rfl));rw[hy,this];cases c<;>cases b<;>rfl
   |false=>
    have hu:=hv.1.2 rfl;have: ∀c,a.tmps[t]? ≠some (.bool c):=by
     intro c hc;rw[aNj,hc] at hu;simp [undef] at hu
    rw[hy];cases hq:a.tmps[t]? with
    |none=>cases b<;>rfl
    |some v=>cases v<;>first|(exact absurd hq (this _)) |(cases b<;>rfl)
  ·cases h
theorem MU {G:Bool}{p:Prop}: ∀{l:List Prop},p∈l->(G=true->p)∈M4 G l
 |q::l,h=>by
  simp only[M4];rcases aM1.1 h with rfl|h
  ·exact aNf
  ·exact aM4 _ (MU h)
theorem WQ {o:Oper}{a:Act}{H:qO}(hH:rH g w H) {c x y:Operand}(hop:o.op= .pick c x y) {sc sx sy:oZ}(hc:pW g w sc (a.eval c)) (hx:pW g w sx (a.eval x)) (hy:pW g w sy (a.eval y)) {e:pC}(hr:M3 sc sx sy=some e) (hs: ∀p∈e.side,p):pS P o a g w H e:=by
 intro K Q hK;unfold M3 at hr;split at hr
 ·rename_i z k;have hz:=vL hc.1;have run:(execOp a.eval o).run P w= .ok (.value (if z then a.eval x else a.eval y)) w:=by
   unfold execOp;rw[hop];simp [hz,asBool]
  have tX: ∀{v:Bool}{side:List Prop},(if z then a.eval x else a.eval y)= .bool v->e=⟨side,(.val .bool v,none),[],[]⟩->o.wp P a w K Q:=by
   intro v side hv he;subst he;refine pS.value (v:= .bool v) (g':=g) (w':=w) (H:=H) (by rw[run,hv]) (.pure hH (s:=(.val .bool v,none)) ⟨(uZ g w v:yN g w (.val .bool v) (.bool v)),trivial⟩) K Q hK
  unfold a5L at hr;split at hr
  ·rename_i m1 _ m2 _;simp only[aMJ] at hr;refine tX (v:=cond z m1 m2) ?_ hr.symm;cases z
   ·exact vL hy.1
   ·exact vL hx.1
  ·rename_i p m1 _ m2 _;simp only[aMJ] at hr;refine tX (v:=cond z m1 m2) ?_ hr.symm;cases z
   ·exact vL hy.1
   ·exact vL (hx.1.1 (hs (true=true->p=true) (by rw[<-hr];simp) rfl))
  ·rename_i m1 _ p m2 _;simp only[aMJ] at hr;refine tX (v:=cond z m1 m2) ?_ hr.symm;cases z
   ·exact vL (hy.1.1 (hs (false=false->p=true) (by rw[<-hr];simp) rfl))
   ·exact vL hx.1
  ·rename_i q m1 _ p m2 _;simp only[aMJ] at hr;refine tX (v:=cond z m1 m2) ?_ hr.symm;cases z
   ·exact vL (hy.1.1 (hs (false=false->p=true) (by rw[<-hr];simp) rfl))
   ·exact vL (hx.1.1 (hs (true=true->q=true) (by rw[<-hr];simp) rfl))
  ·cases hr
 ·cases hr
omit hT hΓ in
theorem MV {np:Nat}{x:Option pC}{e:pC}(h:VC np x=some e):x=some e/\(FN e.rds=true->FU np e.upd=true):=by
 cases x with
 |none=>cases h
 |some q=>
  simp only[VC] at h;cases hq:FN q.rds with
  |false=>
   rw[hq] at h;cases h;exact⟨rfl,fun h=>by rw[hq] at h;cases h⟩
  |true=>
   rw[hq] at h;simp only[a5M] at h;split at h
   ·rename_i hc;cases h;exact⟨rfl,fun _=>hc⟩
   ·cases h
omit hT hΓ in
theorem a7f {np:Nat}{H:qO}: ∀{U:List (Nat×oX)},FU np U=true->∀{i:Nat}{u:Ty}{y:u.den}{us:List (Nat×Nat)},i<np->p9 (pF U H) i=some (.cells u y us)->p9 H i=some (.cells u y us)
 |[],_,i,u,y,us,_,h=>h
 |(j,b)::U,h,i,u,y,us,hi,hg=>by
  simp only[pF,p9] at hg;split at hg
  ·rename_i e;subst e;simp only[aMJ] at hg;subst hg;simp only[FU] at h;split at h
   ·omega
   ·cases h
  ·refine a7f ?_ hi hg;unfold FU at h;split at h
   ·rename_i heq;cases heq
   ·rename_i heq;cases heq;split at h
    ·exact h
    ·cases h
   ·rename_i heq;cases heq;exact h
theorem a7g {ops:List Oper}{o:Oper}{a:Act}{s:St}{e:pC}(henv:AD g w s.env a.tmps) (hH:rH g w s.H) (hr:DA T Γ ops o s=some e) (hs: ∀p∈e.side,p) (hf:yQ g s.nb e) {K:Act->World->Prop}{Q:Exit->Act->World->Prop}
  (hK: ∀g' w' v,yP g w s.H e g' w' v->K (a.put o.dst v) w'):
  if Region.wanted o (yielded ops.toArray a.tmps) then o.wp P a w K Q else K (a.put o.dst undef) w:=by
 replace hr:=(MV hr).1;unfold JH at hr;cases hgd:o.guard with
 |none=>
  rw[hgd] at hr;simp only at hr;have hw:Region.wanted o (yielded ops.toArray a.tmps)=true:=by unfold Region.wanted;rw[hgd]
  rw[aMI hw];cases hop:o.op with
  |pick c x y=>
   rw[hop] at hr;simp only[JG] at hr;exact WQ hT hΓ hH hop (yT henv c) (yT henv x) (yT henv y) hr hs K Q hK
  |_=>
   rw[hop] at hr;simp only[JG] at hr;rw[<-hop] at hr;generalize hpl:t6 T Γ o.type (fun x=>vT (sM s.env x)) s.nb s.H o.op=op at hr;cases op with
   |none=>cases hr
   |some e0=>
    simp only[JE,aMJ] at hr;subst hr;refine WN hT hΓ hH rfl (ρ:=fun x=>vT (sM s.env x)) (fun x hx=> ?_) hpl (fun p hp=>hs p (vD.2 (.inr hp))) hf K Q (fun g' w' v h=>hK g' w' v ⟨h.le,h.slot,h.heap,h.fr,h.perm,h.gho,h.ty⟩);exact JW rfl (QZ hx) (fun p hp=>hs p (vD.2 (.inl hp))) (yT henv x)
 |some jb=>
  obtain⟨j,b⟩:=jb;rw[hgd] at hr;simp only at hr;generalize hG:EI s.env b (CD ops j)=oG at hr;cases oG with
  |none=>cases hr
  |some G=>
   have hw:=aFt hT hΓ henv hgd hG;rw[hw];by_cases hpk: ∃c x y,o.op= .pick c x y
   ·obtain⟨c,x,y,hop⟩:=hpk;rw[hop] at hr;simp only[JF] at hr;generalize hpl:M3 (vT (sM s.env c)) (sM s.env x) (sM s.env y)=op at hr;cases op with
    |none=>cases hr
    |some e0=>
     unfold FT at hr;split at hr
     ·rename_i side d k rds heq;simp only[aMJ] at hr heq;subst hr;subst heq;by_cases hGt:G=true
      ·rw[aMI hGt];refine WQ hT hΓ hH hop (JW hGt (ss:=[sM s.env c]) (by simp) (fun p hp=>hs p (vD.2 (.inl hp))) (yT henv c)) (yT henv x) (yT henv y) hpl (fun p hp=>hs (G=true->p) (vD.2 (.inr (MU hT hΓ hp))) hGt) K Q (fun g' w' v h=>hK g' w' v ⟨h.le,⟨⟨fun _=>h.slot.1,fun hc=>by rw[hGt] at hc;cases hc⟩,trivial⟩,h.heap,h.fr,h.perm,h.gho,h.ty⟩)
      ·rw[aMK hGt];exact hK g w undef (yP.pure hH ⟨⟨fun hc=>absurd hc hGt,fun _=>rfl⟩,trivial⟩)
     ·rename_i side sl u us rds heq;simp only[aMJ] at hr heq;subst hr;subst heq;have hGt:G=true:=hs _ aNf;rw[aMI hGt];exact WQ hT hΓ hH hop (JW hGt (ss:=[sM s.env c]) (by simp) (fun p hp=>hs p (aM4 _ (vD.2 (.inl hp)))) (yT henv c)) (yT henv x) (yT henv y) hpl (fun p hp=>hs (G=true->p) (aM4 _ (vD.2 (.inr (MU hT hΓ hp)))) hGt) K Q (fun g' w' v h=>hK g' w' v ⟨h.le,h.slot,h.heap,h.fr,h.perm,h.gho,h.ty⟩)
     ·cases hr
   ·have e1:JF T Γ o s (some G) o.op=FT G (wZ G (B3 s.env (rK o.op))) (t6 T Γ o.type (fun x=>vT (sM s.env x)) s.nb s.H o.op):=by
     cases ho:o.op<;>first|rfl|(exact absurd ⟨_,_,_,ho⟩ hpk)
    rw[e1] at hr;generalize hpl:t6 T Γ o.type (fun x=>vT (sM s.env x)) s.nb s.H o.op=op at hr;cases op with
    |none=>cases hr
    |some e0=>
     unfold FT at hr;split at hr
     ·rename_i side d k rds heq;simp only[aMJ] at hr heq;subst hr;subst heq;by_cases hGt:G=true
      ·rw[aMI hGt];refine WN hT hΓ hH rfl (ρ:=fun x=>vT (sM s.env x)) (fun x hx=> ?_) hpl (fun p hp=>hs (G=true->p) (vD.2 (.inr (MU hT hΓ hp))) hGt) (fun i hi=>by cases hi) K Q (fun g' w' v h=>hK g' w' v ⟨h.le,⟨⟨fun _=>h.slot.1,fun hc=>by rw[hGt] at hc;cases hc⟩,trivial⟩,h.heap,h.fr,h.perm,h.gho,h.ty⟩);exact JW hGt (QZ hx) (fun p hp=>hs p (vD.2 (.inl hp))) (yT henv x)
      ·rw[aMK hGt];exact hK g w undef (yP.pure hH ⟨⟨fun hc=>absurd hc hGt,fun _=>rfl⟩,trivial⟩)
     ·rename_i side sl u us rds heq;simp only[aMJ] at hr heq;subst hr;subst heq;have hGt:G=true:=hs _ aNf;rw[aMI hGt];refine WN hT hΓ hH rfl (ρ:=fun x=>vT (sM s.env x)) (fun x hx=> ?_) hpl (fun p hp=>hs (G=true->p) (aM4 _ (vD.2 (.inr (MU hT hΓ hp)))) hGt) hf K Q (fun g' w' v h=>hK g' w' v ⟨h.le,h.slot,h.heap,h.fr,h.perm,h.gho,h.ty⟩);exact JW hGt (QZ hx) (fun p hp=>hs p (aM4 _ (vD.2 (.inl hp)))) (yT henv x)
     ·cases hr
end
structure s3 (A:Nat->Nat->Prop) (L:List oX) (g0:Gh) (w0:World) (g:Gh) (w:World) (H:qO):Prop where
 shut: ∀b o,g0.S b o->g.S b o/\w.cell? ⟨b,o,none⟩=w0.cell? ⟨b,o,none⟩
 fr:Fr A w0 w g0.S g.S
 perm: ∀i blk b o,p9 H i=some blk->qP g i blk b o->w0.heap.size<=b\/A b o
 J: ∀i p,i<L.length->g0.J i=some p->g.J i=some p
 live: ∀i,i<L.length->(∃p,g.J i=some p)\/(∃n v,g.cur i n=some v)
 ty: ∀i u y us,i<L.length->p9 H i=some (.cells u y us)->∃x ts,L[i]? =some (.cells u x ts)
 cur: ∀i n v,i<L.length->g0.cur i n=some v->g.cur i n=some v
theorem s3.eff {A:Nat->Nat->Prop}{L:List oX}{g0 g g':Gh}{w0 w w':World}{H:qO}{e:pC}{v:Value}(h:s3 A L g0 w0 g w H) (k:yP g w H e g' w' v) (hc:FN e.rds=true->FU L.length e.upd=true):s3 A L g0 w0 g' w' (pF e.upd H):=by
 have hown: ∀b o,rQ g H (pB e.upd) b o->w0.heap.size<=b\/A b o:=fun b o ⟨i,blk,_,h2,h3⟩=>h.perm i blk b o h2 h3;refine⟨fun b o hs=> ?_,h.fr.trans k.fr hown,fun i blk b o hg ho=> ?_,fun i p hi hp=>k.le.J _ _ (h.J i p hi hp),fun i hi=> ?_,fun i u y us hi hg=> ?_,fun i n u hi hu=>k.le.cur _ _ _ (h.cur i n u hi hu)⟩
 ·obtain⟨h1,h2⟩:=h.shut b o hs;exact⟨k.le.S b o h1,(k.le.cell b o h1).trans h2⟩
 ·by_cases hi:i∈pB e.upd
  ·rcases k.perm i blk b o hi hg ho with h1|h1
   ·exact .inl (aNC h.fr.size h1)
   ·exact hown b o h1
  ·exact h.perm i blk b o ((B6 hi).symm.trans hg) ((x9 (k.gho i hi).1 (k.gho i hi).2).1 ho)
 ·rcases h.live i hi with⟨p,hp⟩ |⟨n,u,hu⟩
  ·exact .inl ⟨p,k.le.J _ _ hp⟩
  ·exact .inr ⟨n,u,k.le.cur _ _ _ hu⟩
 ·cases hre:FN e.rds with
  |true=>exact h.ty i u y us hi (a7f (hc hre) hi hg)
  |false=>
   rcases k.ty hre i u y us hg with⟨x,ts,h1⟩ |⟨h1,h2⟩
   ·exact h.ty i u x ts hi h1
   ·rcases h.live i hi with⟨p,hp⟩ |⟨n,u,hu⟩
    ·rw[h1] at hp;cases hp
    ·rw[h2] at hu;cases hu
def xW:List (Nat×Nat)->Nat->Option Nat
 |[],_=>none
 |(n,o)::r,k=>if n=k then some o else xW r k
def t8 (g:Gh) (np:Nat) (m:List (Nat×Nat)):Gh:=
 ⟨g.S,fun i=>if i<np then g.J i else(xW m i).bind g.J,fun i n=>if i<np then g.cur i n else(xW m i).bind fun o=>g.cur o n⟩
theorem R0 {n o:Nat}: ∀{m:List (Nat×Nat)},JJ n o m=false->∀n' o',(n',o')∈m->n'≠n/\o'≠o
 |[],_,_,_,h=>by cases h
 |(a,b)::m,h,n',o',hm=>by
  simp only[JJ,aOb,aNr] at h;rcases aM1.1 hm with h1|h1
  ·cases h1;exact h.1
  ·exact R0 h.2 n' o' h1
theorem WR {np:Nat}: ∀{m:List (Nat×Nat)},vU np m=true->∀{n o:Nat},(n,o)∈m->xW m n=some o/\(n<np->o=n)
 |[],_,_,_,h=>by cases h
 |(a,b)::m,hk,n,o,h=>by
  simp only[vU,aMS,aNh,aNz,aMQ] at hk;obtain⟨⟨h1,h2⟩,h3⟩:=hk;simp only[xW];rcases aM1.1 h with h4|h4
  ·cases h4;rw[aMI rfl];exact⟨rfl,fun h5=>by rcases h1 with h1|h1<;>omega⟩
  ·have h5:=R0 h2 n o h4;rw[aMK (Ne.symm h5.1)];exact WR h3 h4
theorem BT: ∀{m:List (Nat×Nat)}{k j:Nat},vB m k=some j->(j,k)∈m
 |[],_,_,h=>by cases h
 |(a,b)::m,k,j,h=>by
  simp only[vB] at h;split at h
  ·rename_i e;subst e;simp only[aMJ] at h;subst h;exact aNf
  ·exact aM4 _ (BT h)
theorem zQ {g:Gh}{np:Nat}{m:List (Nat×Nat)}(hk:vU np m=true) {n o:Nat}(h:(n,o)∈m):(t8 g np m).J n=g.J o/\(t8 g np m).cur n=g.cur o:=by
 obtain⟨h1,h2⟩:=WR hk h;refine⟨?_,?_⟩
 ·show (if n<np then g.J n else(xW m n).bind g.J)=_;by_cases hn:n<np
  ·rw[aMI hn,h2 hn]
  ·rw[aMK hn,h1];rfl
 ·funext q;show (if n<np then g.cur n q else(xW m n).bind fun o=>g.cur o q)=_;by_cases hn:n<np
  ·rw[aMI hn,h2 hn]
  ·rw[aMK hn,h1];rfl
theorem WS {g:Gh}{np:Nat}{m:List (Nat×Nat)}(hk:vU np m=true): ∀(l l':List (Nat×Nat)) (vs:List Value),wA g l vs->B4 m l=some l'->wA (t8 g np m) l' vs
 |[],l',vs,h,hr=>by simp only[B4,aMJ] at hr;subst hr;exact h
 |(i,o)::l,l',vs,⟨p,vs',h1,h2,h3⟩,hr=>by
  simp only[B4] at hr;cases hi:vB m i with
  |none=>rw[hi] at hr;cases hr2:B4 m l<;>rw[hr2] at hr<;>cases hr
  |some j=>
   rw[hi] at hr;cases hr2:B4 m l with
   |none=>rw[hr2] at hr;cases hr
   |some l2=>
    rw[hr2] at hr;simp only[B4.renCons,aMJ] at hr;subst hr;exact⟨p,vs',by rw[(zQ hk (BT hi)).1];exact h1,h2,WS hk l l2 vs' h3 hr2⟩
theorem aFu {m:List (Nat×Nat)}{u t:Ty}{x y:t.den}{o:Nat}{l:List u.den}(h:xQ m t x=some y) (hg:pO (.list u) t x o=some l):pO (.list u) t y o=some l:=
 WE (xQ m) (fun _ _ _=>rfl) (fun _ _=>rfl) h hg
theorem MW {g:Gh}{w:World}{np:Nat}{m:List (Nat×Nat)}(hk:vU np m=true): ∀{t:Ty}{x y:t.den}{cs:List Value},Rd g w t x cs->xQ m t x=some y->Rd (t8 g np m) w t y cs
 | .bool,_,_,_,r,h=>by cases h;exact r
 | .int _,_,_,_,r,h=>by cases h;exact r
 | .str,_,_,_,r,h=>by cases h;exact r
 | .unit,_,_,_,r,h=>by cases h;exact r
 | .list t,x,y,_,r,h=>by
  simp only[xQ] at h;split at h
  ·rename_i hp;cases h;exact uJ (g:=g) (g':=t8 g np m) rfl (t:= .list t) (by simpa[Ty.pure] using hp) r
  ·cases h
 | .ref,none,y,_,r,h=>by cases h;exact r
 | .ref,some (i,o),y,_,⟨p,h1,h2⟩,h=>by
  simp only[xQ,Q4] at h;cases hi:vB m i with
  |none=>rw[hi] at h;cases h
  |some j=>
   rw[hi] at h;cases h;exact⟨p,by rw[(zQ hk (BT hi)).1];exact h1,h2⟩
 | .clo,none,y,_,r,h=>by cases h;exact r
 | .clo,some (f,l),y,_,⟨vs,h1,h2⟩,h=>by
  simp only[xQ,a5Q] at h;cases hi:B4 m l with
  |none=>rw[hi] at h;cases h
  |some l'=>
   rw[hi] at h;cases h;exact⟨vs,WS hk l l' vs h1 hi,h2⟩
 | .fn,_,_,_,r,h=>by cases h;exact r
 | .rl _ _,none,y,_,r,h=>by cases h;exact r
 | .rl _ _,some (k,n),y,_,⟨v,h1,h2⟩,h=>by
  simp only[xQ,a5S] at h;cases hi:vB m k with
  |none=>rw[hi] at h;cases h
  |some j=>
   rw[hi] at h;cases h;exact⟨v,by rw[(zQ hk (BT hi)).2];exact h1,h2⟩
 | .mref,none,y,_,r,h=>by cases h;exact r
 | .mref,some (i,o),y,_,⟨p,h1,h2⟩,h=>by
  simp only[xQ,Q4] at h;cases hi:vB m i with
  |none=>rw[hi] at h;cases h
  |some j=>
   rw[hi] at h;cases h;exact⟨p,by rw[(zQ hk (BT hi)).1];exact h1,h2⟩
 | .mp,none,y,_,r,h=>by cases h;exact r
 | .mp,some i,y,_,⟨p,h1,h2⟩,h=>by
  simp only[xQ,a5R] at h;cases hi:vB m i with
  |none=>rw[hi] at h;cases h
  |some j=>
   rw[hi] at h;cases h;exact⟨p,by rw[(zQ hk (BT hi)).1];exact h1,h2⟩
 | .pair a b,x,y,_,⟨c1,c2,e,r1,r2⟩,h=>by
  simp only[xQ] at h;obtain⟨h1,h2⟩:=WD h;refine⟨c1,c2,e,?_,?_⟩
  ·split at h1
   ·rename_i hp;exact(aML h1)▸uJ (g:=g) (g':=t8 g np m) rfl hp r1
   ·exact MW hk r1 h1
  ·split at h2
   ·rename_i hp;exact(aML h2)▸uJ (g:=g) (g':=t8 g np m) rfl hp r2
   ·exact MW hk r2 h2
theorem R1 {g:Gh}{w:World}{np:Nat}{m:List (Nat×Nat)}(hk:vU np m=true) {s:oZ}{v:Value}(h:pW g w s v):pW (t8 g np m) w (yM m s) v:=by
 have caps: ∀(l l':List (Nat×Nat)) (vs:List Value),wA g l vs->B4 m l=some l'->wA (t8 g np m) l' vs:=WS hk;unfold yM;split
 ·rename_i k n k';cases hi:vB m k with
  |none=>exact⟨trivial,trivial⟩
  |some j=>
   obtain⟨h1,h2⟩:=h.1;exact⟨⟨by rw[(zQ hk (BT hi)).2];exact h1,h2⟩,trivial⟩
 ·obtain h1:=h.1;refine⟨?_,trivial⟩;rcases h1 with⟨h1,_⟩ |⟨_,h2⟩
  ·cases h1
  ·exact .inr ⟨rfl,h2⟩
 ·rename_i p k;obtain⟨i,o⟩:=p;simp only[a5O];cases hi:vB m i with
  |none=>exact⟨trivial,trivial⟩
  |some j=>
   simp only[Option.map_some,yM.refSlot];obtain⟨q,hq,hv⟩:=xT h.1;exact⟨.inr ⟨rfl,q,by rw[(zQ hk (BT hi)).1];exact hq,by rw[hv]⟩,trivial⟩
 ·rename_i f l k;cases hl:B4 m l with
  |none=>exact⟨trivial,trivial⟩
  |some l'=>
   simp only[yM.cloSlot];rcases h.1 with⟨h1,_⟩ |⟨_,vs,h2,h3⟩
   ·cases h1
   ·exact⟨.inr ⟨rfl,vs,caps l l' vs h2 hl,h3⟩,trivial⟩
 ·rename_i i k;cases hi:vB m i with
  |none=>exact⟨trivial,trivial⟩
  |some j=>
   simp only[yM.mpSlot];rcases h.1 with⟨h1,_⟩ |⟨_,p,h2,h3⟩
   ·cases h1
   ·exact⟨.inr ⟨rfl,p,by rw[(zQ hk (BT hi)).1];exact h2,h3⟩,trivial⟩
 ·rename_i t x k _ _ _ _;split
  ·rename_i hp;have hv:rZ (t8 g np m) w t x v:=h.1.imp (fun⟨a,cs,e,q⟩=>⟨a,cs,e,uJ (g:=g) (g':=t8 g np m) rfl hp q⟩) (fun⟨a,q⟩=>⟨a,uJ (g:=g) (g':=t8 g np m) rfl hp q⟩);refine⟨hv,?_⟩;replace h:=a6E h;generalize htk:EB t k=k' at h⊢;cases k' with
   |none=>trivial
   |some k=>
    simp only[a5P];cases hj:vB m k with
    |none=>trivial
    |some j=>
     have h2:=h.2;cases t with
     |list u=>
      show (t8 g np m).cur j _=_;rw[(zQ hk (BT hj)).2];exact h2
     |pair a b=>exact h2
     |_=>exact h2.elim
  ·cases hy:xQ m t x with
   |none=>exact⟨trivial,trivial⟩
   |some y=>
    simp only[yM.valSlot];exact⟨h.1.imp (fun⟨a,cs,e,q⟩=>⟨a,cs,e,MW hk q hy⟩) (fun⟨a,q⟩=>⟨a,MW hk q hy⟩),trivial⟩
 ·rename_i t x k;split
  ·rename_i hp;obtain⟨b,o,cs,h1,h2,h3,h4⟩:=h.1;exact⟨⟨b,o,cs,h1,h2,h3,uJ (g:=g) (g':=t8 g np m) rfl hp h4⟩,trivial⟩
  ·exact⟨trivial,trivial⟩
 ·exact⟨trivial,trivial⟩
theorem a7h {q j:Nat}{x:Nat×Nat}: ∀{r:List (Nat×Nat)},x∈Q5 q j r->x=(q,j)\/x∈r
 |[],h=> .inl (aMW.1 h)
 |(a,b)::r,h=>by
  simp only[Q5] at h;split at h
  ·exact aM1.1 h
  ·rcases aM1.1 h with h|h
   ·exact .inr (by rw[h];exact aNf)
   ·exact(a7h h).imp id (aM4 _)
theorem R2 {m:List (Nat×Nat)}: ∀{ts:List (Nat×Nat)}{q j:Nat},(q,j)∈HP m ts->∃k,(q,k)∈ts/\vB m k=some j
 |[],_,_,h=>by cases h
 |(a,b)::ts,q,j,h=>by
  simp only[HP] at h;cases hb:vB m b with
  |none=>
   rw[hb] at h;obtain⟨k,h1,h2⟩:=R2 h;exact⟨k,aM4 _ h1,h2⟩
  |some j'=>
   rw[hb] at h;simp only[HP.renTok1] at h;rcases a7h h with h1|h1
   ·cases h1;exact⟨b,aNf,hb⟩
   ·obtain⟨k,h1,h2⟩:=R2 h1;exact⟨k,aM4 _ h1,h2⟩
theorem HY {g:Gh}{w:World}{np:Nat}{m:List (Nat×Nat)}(hk:vU np m=true) {n o:Nat}(hm:(n,o)∈m) {b:Option oX}(h: ∀c,b=some c->yO g w o c):
  yO (t8 g np m) w n (FX m b)/\∀bb oo,qP (t8 g np m) n (FX m b) bb oo->∃c,b=some c/\qP g o c bb oo:=by
 obtain⟨hJ,hcur⟩:=zQ (g:=g) hk hm;unfold FX;split
 ·rename_i t x toks;split
  ·rename_i hp;obtain⟨p,cs,h1,h2,h3,h4,h5,h6⟩:=h _ rfl;refine⟨⟨p,cs,by rw[hJ];exact h1,uJ (g:=g) (g':=t8 g np m) rfl hp h2,h3,h4,h5,fun q j hmem=> ?_⟩,fun bb oo ⟨pp,e1,e2⟩=>⟨_,rfl,pp,by rw[hJ] at e1;exact e1,e2⟩⟩;obtain⟨k,k1,k2⟩:=R2 hmem;obtain⟨u,l,v,g1,g2,g3⟩:=h6 q k k1;exact⟨u,l,v,g1,g2,by rw[(zQ hk (BT k2)).2];exact g3⟩
  ·cases hy:xQ m t x with
   |none=>exact⟨trivial,fun _ _ h=>h.elim⟩
   |some y=>
    obtain⟨p,cs,h1,h2,h3,h4,h5,h6⟩:=h _ rfl;simp only[VE];refine⟨⟨p,cs,by rw[hJ];exact h1,MW hk h2 hy,h3,h4,h5,fun q j hmem=> ?_⟩,fun bb oo ⟨pp,e1,e2⟩=>⟨_,rfl,pp,by rw[hJ] at e1;exact e1,e2⟩⟩;obtain⟨k,k1,k2⟩:=R2 hmem;obtain⟨u,l,v,g1,g2,g3⟩:=h6 q k k1;exact⟨u,l,v,aFu hy g1,g2,by rw[(zQ hk (BT k2)).2];exact g3⟩
 ·rename_i e c k;obtain⟨v,xs,h1,h2,h3,h4⟩:=h _ rfl;exact⟨⟨v,xs,by rw[hcur];exact h1,h2,fun q hq=>by rw[hcur];exact h3 q hq,h4⟩,fun bb oo ⟨v',e1,e2⟩=>⟨_,rfl,v',by rw[hcur] at e1;exact e1,e2⟩⟩
 ·rename_i e t l n;split
  ·rename_i hp;obtain⟨h0,v,xs,h1,h2,h5,h3,h4⟩:=h _ rfl;exact⟨⟨h0,v,xs,by rw[hcur];exact h1,h2,B5 (fun _ _ h=>uJ (g:=g) (g':=t8 g np m) rfl hp h) h5,fun q hq=>by rw[hcur];exact h3 q hq,h4⟩,fun bb oo ⟨v',e1,e2⟩=>⟨_,rfl,v',by rw[hcur] at e1;exact e1,e2⟩⟩
  ·exact⟨trivial,fun _ _ h=>h.elim⟩
 ·rename_i k v l;split
  ·rename_i hp;rw[aMS] at hp;obtain⟨p,es,cl,h1,h0,h2,h3,h4⟩:=h _ rfl;exact⟨⟨p,es,cl,by rw[hJ];exact h1,h0,h2,MD (g:=g) (g':=t8 g np m) rfl hp.1 hp.2 h3,h4⟩,fun bb oo ⟨pp,e1,e2⟩=>⟨_,rfl,pp,by rw[hJ] at e1;exact e1,e2⟩⟩
  ·exact⟨trivial,fun _ _ h=>h.elim⟩
 ·obtain⟨p,h1,h0,h2,h4⟩:=h _ rfl;exact⟨⟨p,by rw[hJ];exact h1,h0,h2,h4⟩,fun bb oo ⟨pp,e1,e2⟩=>⟨_,rfl,pp,by rw[hJ] at e1;exact e1,e2⟩⟩
 ·exact⟨trivial,fun _ _ h=>h.elim⟩
theorem G3 {m:List (Nat×Nat)}{H:qO}: ∀{l:List (Nat×Nat)}{n:Nat}{b:oX},p9 (Q6 m H l) n=some b->∃o,(n,o)∈l/\b=FX m (p9 H o)
 |[],_,_,h=>by cases h
 |(a,c)::l,n,b,h=>by
  simp only[Q6,p9] at h;split at h
  ·rename_i e;subst e;exact⟨c,aNf,(aML h).symm⟩
  ·obtain⟨o,h1,h2⟩:=G3 h;exact⟨o,aM4 _ h1,h2⟩
theorem a7i {m:List (Nat×Nat)}{env:List (Nat×oZ)}: ∀(l:List Nat) (t:Nat),lk (M7 m env l) t=(.any,none)\/lk (M7 m env l) t=yM m (lk env t)
 |[],_=> .inl rfl
 |a::l,t=>by
  simp only[M7,lk];split
  ·rename_i e;subst e;exact .inr rfl
  ·exact a7i l t
theorem a7j: ∀{m:List (Nat×Nat)}{n o:Nat},(n,o)∈m->n<Q7 m
 |(a,b)::m,n,o,h=>by
  simp only[Q7];rcases aM1.1 h with h1|h1
  ·cases h1;omega
  ·have:=a7j h1;omega
theorem WT: ∀{m:List (Nat×Nat)}{n o:Nat},xW m n=some o->(n,o)∈m
 |[],_,_,h=>by cases h
 |(a,b)::m,n,o,h=>by
  simp only[xW] at h;split at h
  ·rename_i e;subst e;simp only[aMJ] at h;subst h;exact aNf
  ·exact aM4 _ (WT h)
theorem WU {B:Nat}{A:Nat->Nat->Prop}{L:List oX}{g0 g:Gh}{w0 w:World}{s:St}{a:Act}(h:tT B g w s a) (hg:s3 A L g0 w0 g w s.H) (hnp:s.np=L.length) (k:uL) (hk:vU s.np k.ids=true):
  tT B (t8 g s.np k.ids) w (s.keep k) a/\s3 A L g0 w0 (t8 g s.np k.ids) w (s.keep k).H/\(s.keep k).np=L.length/\(s.keep k).N=s.N:=by
 unfold St.keep;rw[hk];refine⟨⟨fun t=> ?_,⟨fun i b hb=> ?_,fun i j bi bj b o hij h1 h2 o1 o2=> ?_,h.heap.sl,h.heap.tab.1,fun i b bb oo hb ho=>by
   obtain⟨o,h1,rfl⟩:=G3 hb;obtain⟨c1,e1,o1'⟩:=(HY hk h1 fun c hc=>h.heap.blk o c hc).2 bb oo ho;exact h.heap.tab.2 o c1 bb oo e1 o1'⟩,h.size,fun i hi=> ?_,h.def_,Nat.le_max_left _ _⟩,⟨hg.shut,hg.fr,fun i blk b o hb ho=> ?_,fun i p hi hp=> ?_,fun i hi=> ?_,fun i u y us hi hb=> ?_,fun i n u hi hu=>(by
   show (if i<s.np then g.cur i n else _)=_;rw[aMI (by omega)];exact hg.cur i n u hi hu)⟩,hnp,rfl⟩
 ·rcases a7i (m:=k.ids) (env:=s.env) k.slots t with e|e
  ·exact⟨by rw[show lk (M8 s k true).env t=_ from e];trivial,by rw[show lk (M8 s k true).env t=_ from e];trivial⟩
  ·have:=R1 hk (h.env t);rw[show lk (M8 s k true).env t=_ from e];exact this
 ·obtain⟨o,h1,rfl⟩:=G3 hb;exact(HY hk h1 fun c hc=>h.heap.blk o c hc).1
 ·obtain⟨p,k1,rfl⟩:=G3 h1;obtain⟨q,k2,rfl⟩:=G3 h2;obtain⟨c1,e1,o1'⟩:=(HY hk k1 fun c hc=>h.heap.blk p c hc).2 b o o1;obtain⟨c2,e2,o2'⟩:=(HY hk k2 fun c hc=>h.heap.blk q c hc).2 b o o2;refine h.heap.dis p q c1 c2 b o (fun e=> ?_) e1 e2 o1' o2';subst e;have inj: ∀{m:List (Nat×Nat)},vU s.np m=true->∀{i j o:Nat},(i,o)∈m->(j,o)∈m->i=j:=by
   intro m
   induction m with
   |nil=>intro _ _ _ _ h;cases h
   |cons z m ih=>
    obtain⟨z1,z2⟩:=z;intro hk i j o h1 h2;simp only[vU,aMS,aNh] at hk;rcases aM1.1 h1 with h1|h1<;>rcases aM1.1 h2 with h2|h2
    ·cases h1;cases h2;rfl
    ·cases h1;exact absurd rfl (R0 hk.1.2 _ _ h2).2
    ·cases h2;exact absurd rfl (R0 hk.1.2 _ _ h1).2
    ·exact ih hk.2 h1 h2
  exact hij (inj hk k1 k2)
 ·have hi': ¬i<s.np:=by have:=aNC (Nat.le_max_left _ _) hi;omega
  have hold:xW k.ids i=none:=by
   cases ho:xW k.ids i with
   |none=>rfl
   |some o=>
    have:=a7j (WT ho);have:=aNC (Nat.le_max_right _ _) hi;omega
  refine⟨?_,fun n=> ?_⟩
  ·show (if i<s.np then g.J i else(xW k.ids i).bind g.J)=none;rw[aMK hi',hold];rfl
  ·show (if i<s.np then g.cur i n else(xW k.ids i).bind fun o=>g.cur o n)=none;rw[aMK hi',hold];rfl
 ·obtain⟨p,h1,rfl⟩:=G3 hb;obtain⟨c,e1,e2⟩:=(HY hk h1 fun c hc=>h.heap.blk p c hc).2 b o ho;exact hg.perm p c b o e1 e2
 ·show (if i<s.np then g.J i else _)=_;rw[aMI (by omega)];exact hg.J i p hi hp
 ·rcases hg.live i hi with⟨p,hp⟩ |⟨n,v,hv⟩
  ·left;refine⟨p,?_⟩;show (if i<s.np then g.J i else _)=_;rw[aMI (by omega)];exact hp
  ·right;refine⟨n,v,?_⟩;show (if i<s.np then g.cur i n else _)=_;rw[aMI (by omega)];exact hv
 ·obtain⟨o,h1,h2⟩:=G3 hb;have ho:=(WR hk h1).2 (by omega);subst ho;unfold FX at h2;split at h2
  ·rename_i t x toks heq;split at h2
   ·simp only[oX.cells.injEq] at h2;obtain⟨rfl,_⟩:=h2;exact hg.ty o u x toks hi heq
   ·cases hy:xQ k.ids t x with
    |none=>rw[hy] at h2;cases h2
    |some y=>
     rw[hy] at h2;simp only[VE,oX.cells.injEq] at h2;obtain⟨rfl,_⟩:=h2;exact hg.ty o u x toks hi heq
  ·cases h2
  ·split at h2<;>cases h2
  ·split at h2<;>cases h2
  ·cases h2
  ·cases h2
theorem EO {B:Nat}{A:Nat->Nat->Prop}{L:List oX}{g0 g:Gh}{w0 w:World}{s:St}{a:Act}(h:tT B g w s a) (hg:s3 A L g0 w0 g w s.H) (hnp:s.np=L.length) (k:uL):
  ∃g',tT B g' w (s.keep k) a/\s3 A L g0 w0 g' w (s.keep k).H/\(s.keep k).np=L.length/\(s.keep k).N=s.N:=by
 unfold St.keep;cases hk:vU s.np k.ids with
 |false=>
  refine⟨g,⟨fun t=>⟨trivial,trivial⟩,⟨(fun i b h=>by cases h),(fun i j bi bj b o _ h=>by cases h),h.heap.sl,h.heap.tab.1,(fun i b bb oo h=>by cases h)⟩,h.size,h.nb,h.def_,h.np⟩,⟨hg.shut,hg.fr,(fun i blk b o h=>by cases h),hg.J,hg.live,(fun i u y us _ h=>by cases h),hg.cur⟩,hnp,rfl⟩
 |true=>
  have:=WU h hg hnp k hk;unfold St.keep at this;rw[hk] at this;exact⟨_,this⟩
theorem WV {g g':Gh}{w w':World}{env:List (Nat×oZ)}{a:Act}{o:Oper}{sl:oZ}{v:Value}(h:AD g w env a.tmps) (le:Le g w g' w') (hs:pW g' w' sl v) {N:Nat}(hN:a.tmps.size=N) (hd:FV N o.dst=true):AD g' w' (sQ o.dst sl env) (a.put o.dst v).tmps:=by
  intro t;cases ho:o.dst with
  |none=>exact A9 le (h t)
  | some d=>
    rw[ho] at hd;simp only[FV,aMQ] at hd;simp only[sQ,lk,Act.put];by_cases hdt:d=t
    · subst hdt
      rw[aMI rfl];have hlt:d<a.tmps.size:=by rw[hN];exact hd
      have:(a.tmps.setIfInBounds d v).getD d undef=v:=by
        rw[aNj,Array.getElem?_setIfInBounds_self_of_lt hlt];rfl
      rw[this];exact hs
    · rw[aMK hdt]
      have:(a.tmps.setIfInBounds d v).getD t undef=a.tmps.getD t undef:=by
        rw[aNj,aN4 hdt,←aNj]
      rw[this];exact A9 le (h t)
theorem MX {n:Nat}: ∀{u:List (Nat×oX)},FW n u=true→∀{i:Nat},i∈pB u→i<n
  | (k,b)::u,h,i,hi=>by
    simp only[FW,aMS,aMQ] at h;simp only[pB,aM1] at hi;rcases hi with rfl|hi
    ·exact h.1
    ·exact MX h.2 hi
theorem a7k (a:Act) (d:Option Tmp) (v:Value):(a.put d v).tmps.size=a.tmps.size:=by
  cases d<;>simp [Act.put]
theorem a7l (a:Act) (d:Option Tmp) (v:Value):(a.put d v).defers=a.defers:=by
  cases d<;>simp [Act.put]
theorem tT.step {B:Nat}{g g':Gh}{w w':World}{s:St}{a:Act}{o:Oper}{e:pC}{v:Value}(h:tT B g w s a) (k:yP g w s.H e g' w' v) (hd:FV s.N o.dst=true) (hi:FW (s.nb+32) e.upd=true):
    tT B g' w' ⟨sQ o.dst e.slot s.env,pF e.upd s.H,s.nb+32,s.N,s.np⟩ (a.put o.dst v):=by
  refine⟨WV h.env k.le k.slot h.size hd,k.heap,(a7k _ _ _).trans h.size,fun i hn=> ?_,by rw[a7l];exact h.def_.eff h.heap k,aNC h.np (Nat.le_add_right _ _)⟩;have:i∉pB e.upd:=fun hm=>by have:=MX hi hm;simp only at hn;omega
  have hk:=k.gho i this;have hb:=h.nb i (by simp only at hn;omega);exact⟨hk.1.trans hb.1,fun n=>by rw[hk.2];exact hb.2 n⟩
theorem a7m {T:rO}{Γ:sZ}{ops:List Oper}: ∀(l:List Oper),uQ T Γ ops l none=none
  |[]=>rfl
  |_::_=>rfl
theorem WW {T:rO}{Γ:sZ}{ops:List Oper}{o:Oper}{l:List Oper}{x y:uP}(h:uQ T Γ ops (o::l) (some x)=some y):
    ∃ e,DA T Γ ops o x.s=some e∧FV x.s.N o.dst=true∧FW (x.s.nb+32) e.upd=true∧
      uQ T Γ ops l (some ⟨⟨sQ o.dst e.slot x.s.env,pF e.upd x.s.H,x.s.nb+32,x.s.N,x.s.np⟩,pF x.side (pF (HN x.s.H e.upd e.rds e.upd) e.side),e::x.es⟩)=some y:=by
  simp only[uQ] at h;cases he:DA T Γ ops o x.s with
  |none=>rw[he] at h;simp only[VD] at h;rw[a7m] at h;cases h
  | some e=>
    rw[he] at h;simp only[VD] at h;by_cases hc:(FV x.s.N o.dst&&FW (x.s.nb+32) e.upd)=true
    · rw[aMI hc] at h
      simp only[aMS] at hc;exact⟨e,rfl,hc.1,hc.2,h⟩
    ·rw[aMK hc,a7m] at h;cases h
theorem HZ {T:rO}{Γ:sZ}{ops:List Oper}: ∀{l:List Oper}{x y:uP},uQ T Γ ops l (some x)=some y→(∀p∈x.side,p∈y.side)∧y.s.N=x.s.N∧y.s.np=x.s.np
  | [],x,y,h=>by
    simp only[uQ,aMJ] at h;subst h;exact⟨fun _ h=>h,rfl,rfl⟩
  | o::l,x,y,h=>by
    obtain⟨e,_,_,_,h4⟩:=WW h;obtain⟨h5,h6,h7⟩:=HZ h4;exact⟨fun p hp=>h5 p (vD.2 (.inl hp)),h6,h7⟩
def DF (ro:Option Nat):Fence:={Fence.wide with round:=ro}
theorem a7n {ro:Option Nat}{n:Nat}{P:Program}{f:FuncId}{args:Array Value}{w:World}{R:Ending→World→Prop}(h:Calls P f args w R):CallsIn (DF ro) n P f args w R:=callsIn_wide.2 h
section
variable {B:Nat}{P:Program}{T:rO}{Γ:sZ}(hT:vK P T) (hΓ:CM P Γ) {A:Nat→Nat→Prop}{L:List oX}{g0:Gh}{w0:World}{Q:Exit→Act→World→Prop}
include hT hΓ
theorem aFv {g:Gh}{w:World}{s:St}{a:Act}(h:tT B g w s a) (e:pC):yQ g s.nb e:=fun i _ hb=>h.nb i hb
omit hT hΓ in
theorem a7o {ops:List Oper}{o:Oper}{s:St}{e:pC}(h:DA T Γ ops o s=some e): ∀c,o.op≠.defer c:=by
  intro c hc;replace h:=(MV h).1;unfold JH at h;cases hg:o.guard with
  |none=>rw[hg,hc] at h;simp [JG,t6,JE] at h
  |some jb=>rw[hg,hc] at h;simp only at h;cases hG:EI s.env jb.2 (CD ops jb.1)<;>rw[hG] at h<;>simp [JF,t6,FT] at h
omit hT hΓ in
theorem a7p {ro:Option Nat}{o:Oper}{a:Act}{w:World}{K:Act→World→Prop}(hd: ∀c,o.op≠.defer c) (h:o.wp P a w K Q):o.wpIn (DF ro) 0 P a w K Q:=by
  refine⟨fun _ _=>trivial,?_⟩;rw[Oper.semAt_eq _ _ _ hd];unfold Oper.wp at h;generalize (execOp a.eval o).run P w=r at h⊢;unfold Oper.upon at h;unfold Oper.uponIn;split at h
  ·exact h
  ·exact h
  ·exact h
  ·exact⟨fun h0=>(by cases h0),a7n h⟩
  ·exact⟨fun h0=>(by cases h0),fun c cs _=>let ⟨v,w',r,s⟩:=h c cs;⟨v,w',r,stepsIn_wide.2 s⟩⟩
  ·exact h
  ·exact h.elim
theorem a7q {ro:Option Nat}{ops:Array Oper}: ∀{l:List Oper}{x y:uP}{a:Act}{w:World}{g:Gh},uQ T Γ ops.toList l (some x)=some y→(∀p∈y.side,p)→tT B g w x.s a→s3 A L g0 w0 g w x.s.H→L.length=x.s.np→
    (∀g' a' w',tT B g' w' y.s a'→s3 A L g0 w0 g' w' y.s.H→Q .normal a' w')→wpListIn (DF ro) 0 P ops Q l a w
  | [],x,y,a,w,g,h,hs,hr,hg,hn,hQ=>by
    simp only[uQ,aMJ] at h;subst h;exact hQ g a w hr hg
  | o::l,x,y,a,w,g,h,hs,hr,hg,hn,hQ=>by
    obtain⟨e,h1,h2,h3,h4⟩:=WW h;have hside: ∀p∈e.side,p:=fun p hp=>hs p ((HZ h4).1 p (vD.2 (.inr (vD.2 (.inr hp)))));have key:=a7g hT hΓ (ops:=ops.toList) (o:=o) (a:=a) (K:=wpListIn (DF ro) 0 P ops Q l) (Q:=Q) hr.env hr.heap h1 hside (aFv hT hΓ hr e) (fun g' w' v k=>a7q h4 hs (hr.step k h2 h3) (hg.eff k (hn▸(MV h1).2)) hn hQ);simp only[aOc] at key;unfold wpListIn;split at key
    ·rename_i hw;rw[aMI hw];exact a7p (a7o h1) key
    ·rename_i hw;rw[aMK hw];exact⟨fun _ _=>trivial,key⟩
theorem aFw {ro:Option Nat}{id:Nat}{ops:Array Oper}{s:St}{y:uP}{a:Act}{w:World}{g:Gh}(h:uQ T Γ ops.toList ops.toList (some ⟨s,[],[]⟩)=some y) (hs: ∀p∈y.side,p) (hr:tT B g w s a) (hg:s3 A L g0 w0 g w s.H) (hn:L.length=s.np)
    (hQ: ∀g' a' w',tT B g' w' y.s a'→s3 A L g0 w0 g' w' y.s.H→Q .normal a' w'):(Code.region id ops false).wpIn (DF ro) 0 P Q a w:=
  wpIn_region_list (a7q hT hΓ h hs hr hg hn hQ)
end
theorem aFx {H H':List (Nat×oX)}{t:Ty}{i off:Nat}{e:pC}(h:FS H t i off (p9 H i)=some e) (hl: ∀id∈e.rds,p9 H' id=p9 H id):i∈e.rds∧FS H' t i off (p9 H' i)=some e:=by
  have key: ∃k n v x ts,p9 H i=some (.cells v x ts)∧A8 v x=some (k,n)∧PA t i off k n v x (p9 H k)=some e∧e.rds=[1000000000,i,k]:=by
    unfold FS at h;split at h
    case h_2=>cases h
    rename_i v x ts hb;cases hf:A8 v x with
    |none=>rw[hf] at h;cases h
    | some q=>
      obtain⟨k,n⟩:=q;rw[hf] at h;refine⟨k,n,v,x,ts,hb,hf,h,?_⟩;simp only[PB] at h;unfold PA at h;split at h
      case h_2=>cases h
      generalize xO _ _ _ _=z at h;cases z with
      |none=>cases h
      | some z=>
        obtain⟨v',x'⟩:=z;simp only[US] at h;unfold UR at h;split at h
        ·simp only[aMJ] at h;rw[←h]
        ·cases h
  obtain⟨k,n,v,x,ts,h1,h2,h3,h4⟩:=key;refine⟨by rw[h4];simp,?_⟩;rw[hl i (by rw[h4];simp),h1];simp only[FS,h2,PB];rw[hl k (by rw[h4];simp)];exact h3
theorem WX {ρ ρ':Operand→oZ}: ∀{xs:List Operand},(∀x∈xs,ρ' x=ρ x)→uA ρ' xs=uA ρ xs
  |[],_=>rfl
  |x::xs,h=>by simp only[uA,h x (by simp),WX (fun y hy=>h y (aM4 _ hy))]
theorem WY {ρ ρ':Operand→oZ}: ∀{xs:List (Nat×Operand)},(∀x∈xs,ρ' x.2=ρ x.2)→t7 ρ' xs=t7 ρ xs
  |[],_=>rfl
  |(i,x)::xs,h=>by simp only[t7,h (i,x) (by simp),WY (fun y hy=>h y (aM4 _ hy))]
theorem a7r {T:rO}{ρ ρ':Operand→oZ}: ∀{xs:List Operand}{ts:List TypeId},(∀x∈xs,ρ' x=ρ x)→EG T ρ' xs ts=EG T ρ xs ts
  |[],_,_=>by simp [EG]
  |_::_,[],_=>by simp [EG]
  |x::xs,t::ts,h=>by simp only[EG,h x (by simp),a7r (fun y hy=>h y (aM4 _ hy))]
theorem aFy {T:rO}{Γ:sZ}{ty:TypeId}{ρ ρ':Operand→oZ}{base:Nat}{H:List (Nat×oX)}(op:Op) (h: ∀x∈op.operands,ρ' x=ρ x):t6 T Γ ty ρ' base H op=t6 T Γ ty ρ base H op:=by
  cases op
  case slice t x lo hi mx=>
    cases mx with
    |some m=>rfl
    | none=>
      have h1:=h x (by simp [Op.operands])
      have h2:xP ρ' lo=xP ρ lo:=by
        cases lo with
        |none=>rfl
        |some l=>simp only[xP,h l (by simp [Op.operands])]
      have h3:xP ρ' hi=xP ρ hi:=by
        cases hi with
        |none=>rfl
        |some l=>simp only[xP,h l (by simp [Op.operands])]
      simp only[t6,h1,h2,h3]
  case call c=>
    obtain⟨callee,args,tys⟩:=c
    have ha: ∀x∈args.toList,ρ' x=ρ x:=fun x hx=>h x (by
      have:x∈args:=by simpa using hx
      simp only[Op.operands,Call.operands];split<;>simp [this])
    cases callee with
    |builtin b=>cases b<;>simp only[t6,HM,WX ha]
    | value f=>
      have hf:=h f (by simp [Op.operands,Call.operands]);simp only[t6,HM,hf];cases HL args.toList tys.toList with
      |false=>rfl
      |true=>simp only[V6,a7r ha]
    |_=>rfl
  case build t ps=>simp only[t6,WY (fun x hx=>h x.2 (by simp only[Op.operands,aOC];exact List.mem_map_of_mem hx))]
  case buildSlice t n ps=>simp only[t6,WY (fun x hx=>h x.2 (by simp only[Op.operands,aOC];exact List.mem_map_of_mem hx))]
  case makeFunc f first caps=>
    cases f with
    | func f=>
      have hc: ∀x∈caps.toList,ρ' x=ρ x:=fun x hx=>h x (by
        have:x∈caps:=by simpa using hx
        simp [Op.operands,this])
      simp only[t6,WX hc]
    |_=>rfl
  all_goals first
    |rfl
    |(simp only[Op.operands,aOC,aM1,aOo,or_false,forall_eq,forall_eq_or_imp] at h;simp only[t6,h])
    |(simp [Op.operands] at h;simp only[t6,h])
theorem WZ: ∀{l acc:List pT}{i:Nat},i∈rD (xM l acc)↔i∈rD l∨i∈rD acc
  |[],_,_=>by simp [xM,rD]
  | w::l,acc,i=>by
    simp only[xM,WZ,rD,aM1];constructor
    · rintro(h|h|h)
      ·exact .inl (.inr h)
      ·exact .inl (.inl h)
      ·exact .inr h
    · rintro((h|h) |h)
      ·exact .inr (.inl h)
      ·exact .inl h
      ·exact .inr (.inr h)
section
variable {H H':List (Nat×oX)}
theorem aFz {k:Option Nat}{a b:rW}(h:xN H k (some a)=some b):(∀i,i∈rD a.ws→i∈rD b.ws)∧((∀i,i∈rD b.ws→p9 H' i=p9 H i)→xN H' k (some a)=some b):=by
  cases k with
  | none=>
    have h:none=some b:=h;cases h
  | some k=>
    simp only[xN] at h⊢
    have:(∃e c m,p9 H k=some (.grow e c m)):=by
      cases hg:p9 H k with
      |none=>rw[hg] at h;cases h
      | some bl=>cases bl with
        |grow e c m=>exact⟨_,_,_,rfl⟩
        |_=>rw[hg] at h;cases h
    obtain⟨e,c,m,hg⟩:=this;rw[hg] at h;simp only[AU] at h;split at h
    ·cases h
    · rename_i hm
      simp only[aMJ] at h;subst h;refine⟨fun i hi=>by simp only[rD,aM1];exact .inr hi,fun hl=> ?_⟩;rw[hl k (by simp [rD,pT.id]),hg];simp only[AU];rw[aMK hm]
theorem aFA (H:List (Nat×oX)) (k:Option Nat):xN H k none=none:=by
  cases k with
  |none=>rfl
  | some k=>
    simp only[xN];cases p9 H k with
    |none=>rfl
    |some bl=>cases bl<;>rfl
theorem a7s (H:List (Nat×oX)) (toks:List (Nat×Nat)) (o:Nat): ∀(qs:List Nat),wG H toks o qs none=none
  |[]=>rfl
  |q::qs=>by simp only[wG,aFA,a7s H toks o qs]
theorem a7t {H H':List (Nat×oX)}{toks:List (Nat×Nat)}{o:Nat}: ∀{qs:List Nat}{a b:rW},wG H toks o qs (some a)=some b→(∀i,i∈rD a.ws→i∈rD b.ws)∧((∀i,i∈rD b.ws→p9 H' i=p9 H i)→wG H' toks o qs (some a)=some b)
  |[],a,b,h=>by simp only[wG,aMJ] at h;subst h;exact⟨fun _ h=>h,fun _=>rfl⟩
  | q::qs,a,b,h=>by
    simp only[wG] at h⊢;cases hm:xN H (vI toks (o+q)) (some a) with
    |none=>rw[hm,a7s] at h;cases h
    | some m=>
      rw[hm] at h;obtain⟨h1,h2⟩:=aFz (H':=H') hm;obtain⟨h3,h4⟩:=a7t (H':=H') h;exact⟨fun i hi=>h3 i (h1 i hi),fun hl=>by rw[h2 (fun i hi=>hl i (h3 i hi))];exact h4 hl⟩
theorem aFB (H H':List (Nat×oX)) (a:rW) (s:oZ):w7 H' a .v s=w7 H a .v s:=by
  obtain⟨d,k⟩:=s;cases d with
  | val t x=>
    cases t with
    | clo=>
      cases x with
      |none=>rfl
      |some q=>obtain⟨f,l⟩:=q;cases l<;>rfl
    |_=>rfl
  |_=>rfl
theorem a7u {H H':List (Nat×oX)}{t:Ty}{os:List Nat}{i o:Nat}{a b:rW}(h:uI H t os i o a (p9 H i)=some b):(∀i,i∈rD a.ws→i∈rD b.ws)∧((∀i,i∈rD b.ws→p9 H' i=p9 H i)→uI H' t os i o a (p9 H' i)=some b):=by
  cases hg:p9 H i with
  |none=>rw[hg] at h;simp [uI] at h
  | some bl=>
    rw[hg] at h;cases bl with
    | cells u x toks=>
      simp only[uI] at h;cases hy:pO t u x o with
      |none=>rw[hy] at h;simp [D5] at h
      | some y=>
        rw[hy] at h;simp only[D5] at h;split at h
        · rename_i hc
          obtain⟨h3,h4⟩:=a7t (H':=H') h;refine⟨fun j hj=>h3 j (by simp only[rD,aM1];exact .inr hj),fun hl=> ?_⟩;rw[hl i (h3 i (by simp [rD,pT.id])),hg];simp only[uI,hy,D5];rw[aMI hc];exact h4 hl
        ·cases h
    |_=>simp [uI] at h
theorem aFC (H:List (Nat×oX)) (f:FuncId) (args:List oZ) (ks:List (Ty×List Nat)) (cs ids:List (Nat×Nat)):vQ H f args ks cs ids none=none:=by cases ks<;>cases cs<;>rfl
theorem a7v {H H':List (Nat×oX)}{f:FuncId}{args:List oZ}: ∀{ks:List (Ty×List Nat)}{cs ids:List (Nat×Nat)}{a b:rW},vQ H f args ks cs ids (some a)=some b→(∀i,i∈rD a.ws→i∈rD b.ws)∧((∀i,i∈rD b.ws→p9 H' i=p9 H i)→vQ H' f args ks cs ids (some a)=some b)
  | [],[],ids,a,b,h=>by
    simp only[vQ,aMJ] at h⊢;subst h;exact⟨fun _ h=>h,fun _=>rfl⟩
  |[],_::_,_,_,_,h=>by simp [vQ] at h
  |_::_,[],_,_,_,h=>by simp [vQ] at h
  | (t,os)::ks,(i,o)::cs,ids,a,b,h=>by
    simp only[vQ] at h⊢;cases hb:uI H t os i o a (p9 H i) with
    |none=>rw[hb,aFC] at h;cases h
    | some m=>
      rw[hb] at h;obtain⟨h1,h2⟩:=a7u (H':=H') hb;obtain⟨h3,h4⟩:=a7v (H':=H') h;exact⟨fun i hi=>h3 i (h1 i hi),fun hl=>by rw[h2 (fun i hi=>hl i (h3 i hi))];exact h4 hl⟩
theorem a7w {p:PK}{s:oZ}{a b:rW}(h:w7 H a p s=some b):(∀i,i∈rD a.ws→i∈rD b.ws)∧((∀i,i∈rD b.ws→p9 H' i=p9 H i)→w7 H' a p s=some b):=by
  by_cases hpv:p= .v
  · subst hpv
    refine⟨?_,fun _=>by rw[aFB H H'];exact h⟩;unfold w7 at h;split at h
    ·simp only[OV,aMJ] at h;subst h;exact fun _ h=>h
    · simp only[OU] at h
      split at h
      ·simp only[aMJ] at h;subst h;exact fun _ h=>h
      ·cases h
    ·rename_i h1;cases h1
    ·rename_i h1;cases h1
    ·rename_i h1;cases h1
    ·rename_i h1;cases h1
    ·rename_i h1;cases h1
    ·cases h
  unfold w7 at h;split at h
  ·exact absurd rfl hpv
  ·exact absurd rfl hpv
  · rename_i t x k
    simp only[w7];cases hg:p9 H k with
    |none=>rw[hg] at h;simp [AV] at h
    | some bl=>
      rw[hg] at h;cases bl with
      | grow e c m=>
        simp only[AV] at h;split at h
        · rename_i hc
          simp only[aMJ] at h;subst h;refine⟨fun i hi=>by simp only[rD,aM1];exact .inr hi,fun hl=> ?_⟩;rw[hl k (by simp [rD,pT.id]),hg];simp only[AV];rw[aMI hc]
        ·cases h
      |_=>simp [AV] at h
  · rename_i t os i o k
    simp only[w7];exact a7u h
  · rename_i i k
    simp only[w7];cases hg:p9 H i with
    |none=>rw[hg] at h;simp [AW] at h
    | some bl=>
      rw[hg] at h;cases bl with
      | map s t l=>
        simp only[AW] at h;split at h
        · rename_i hc
          simp only[aMJ] at h;subst h;refine⟨fun j hj=>by simp only[rD,aM1];exact .inr hj,fun hl=> ?_⟩;rw[hl i (by simp [rD,pT.id]),hg];simp only[AW];rw[aMI hc]
        ·cases h
      |_=>simp [AW] at h
  · rename_i k n k'
    simp only[w7];cases hg:p9 H k with
    |none=>rw[hg] at h;simp [AX] at h
    | some bl=>
      rw[hg] at h;cases bl with
      | row e t l m=>
        simp only[AX] at h;split at h
        · rename_i hc
          simp only[aMJ] at h;subst h;refine⟨fun j hj=>by simp only[rD,aM1];exact .inr hj,fun hl=> ?_⟩;rw[hl k (by simp [rD,pT.id]),hg];simp only[AX];rw[aMI hc]
        ·cases h
      |_=>simp [AX] at h
  · simp only[w7]
    exact a7v h
  ·cases h
theorem a7x (H:List (Nat×oX)) (gs:List (Nat×Nat×PK)):A5 H gs none=none:=by cases gs<;>rfl
theorem a7y {H H':List (Nat×oX)}: ∀{gs:List (Nat×Nat×PK)}{a b:rW},A5 H gs (some a)=some b→(∀i,i∈rD a.ws→i∈rD b.ws)∧((∀i,i∈rD b.ws→p9 H' i=p9 H i)→A5 H' gs (some a)=some b)
  |[],a,b,h=>by simp only[A5,aMJ] at h;subst h;exact⟨fun _ h=>h,fun _=>rfl⟩
  | (c,q,pk)::gs,a,b,h=>by
    simp only[A5] at h⊢;cases hm:w7 H a pk (HB q pk (FO a.H (a.n-1-c))) with
    |none=>rw[hm] at h;simp only[J4,a7x] at h;cases h
    | some m=>
      rw[hm] at h;simp only[J4] at h;obtain⟨h1,h2⟩:=a7w (H':=H') hm;obtain⟨h3,h4⟩:=a7y (H':=H') h;exact⟨fun i hi=>h3 i (h1 i hi),fun hl=>by rw[h2 (fun i hi=>hl i (h3 i hi))];simp only[J4];exact h4 hl⟩
theorem aFD (H:List (Nat×oX)): ∀(ps:List PK) (ss:List oZ),vR H ps ss none=none
  |[],[]=>rfl
  |[],_::_=>rfl
  |_::_,[]=>rfl
  |_::_,_::_=>rfl
theorem a7z {H H':List (Nat×oX)}: ∀{ps:List PK}{ss:List oZ}{a b:rW},vR H ps ss (some a)=some b→(∀i,i∈rD a.ws→i∈rD b.ws)∧((∀i,i∈rD b.ws→p9 H' i=p9 H i)→vR H' ps ss (some a)=some b)
  |[],[],a,b,h=>by simp only[vR,aMJ] at h;subst h;exact⟨fun _ h=>h,fun _=>rfl⟩
  |[],_::_,a,b,h=>by simp [vR] at h
  |_::_,[],a,b,h=>by simp [vR] at h
  | p::ps,s::ss,a,b,h=>by
    simp only[vR] at h⊢;cases hm:w7 H a p s with
    |none=>rw[hm,aFD] at h;cases h
    | some m=>
      rw[hm] at h;obtain⟨h1,h2⟩:=a7w (H':=H') hm;obtain⟨h3,h4⟩:=a7z (H':=H') h;exact⟨fun i hi=>h3 i (h1 i hi),fun hl=>by rw[h2 (fun i hi=>hl i (h3 i hi))];exact h4 hl⟩
theorem a7A {H H':List (Nat×oX)}{base:Nat}{args:List oZ}{s:pY}{e:pC}(h:EE H base args (some s)=some e) (hl: ∀i∈e.rds,p9 H' i=p9 H i):EE H' base args (some s)=some e:=by
  simp only[EE] at h⊢;cases hp0:vR H s.ps args (some ⟨[],[],[],0⟩) with
  |none=>rw[hp0,a7x] at h;cases h
  |some a0=>
   rw[hp0] at h;cases hp:A5 H s.gs (some a0) with
   |none=>rw[hp] at h;cases h
   |some a=>
    rw[hp] at h
    have hrd: ∀i,i∈rD (xM a.ws [])→i∈e.rds:=by
      simp only[LV] at h;cases hcl:FP (xM a.ws []) (xM a.H []) with
      |none=>rw[hcl] at h;cases h
      |some L=>
      rw[hcl] at h;simp only[P4] at h;cases hc:s.C (xM a.args []) L with
      |none=>rw[hc] at h;cases h
      | some r=>
        rw[hc] at h;simp only[P0] at h;unfold LT at h;split at h
        · simp only[aMJ] at h
          rw[←h];exact fun i hi=>vD.2 (.inl hi)
        ·cases h
    obtain⟨g1,g2⟩:=a7y (H':=H') hp;rw[(a7z (H':=H') hp0).2 (fun i hi=>hl i (hrd i (WZ.2 (.inl (g1 i hi))))),g2 (fun i hi=>hl i (hrd i (WZ.2 (.inl hi))))];exact h
theorem a7B {H H':List (Nat×oX)}{base:Nat}{args:List oZ}{s:Option pY}{e:pC}(h:HK H base args s=some e) (hl: ∀i∈e.rds,p9 H' i=p9 H i):HK H' base args s=some e:=by
  cases s with
  |none=>cases h
  | some s=>
    simp only[HK] at h⊢;cases hr:s.row with
    | some F=>
      rw[hr] at h;simp only[PS] at h⊢;unfold P5 at h⊢;split at h
      · rename_i k n x
        cases hg:p9 H k with
        |none=>rw[hg] at h;cases h
        | some b=>
          have hk:k∈e.rds:=by
            rw[hg] at h;cases b with
            | row e0 t l m=>
              simp only[UD] at h;unfold a5u at h;split at h
              ·simp only[aMJ] at h;rw[←h];simp
              ·cases h
            |_=>cases h
          rw[hl k hk];exact h
      ·cases h
    | none=>
      rw[hr] at h;simp only[PS] at h⊢;cases hn:LW s.ps args with
      |none=>rw[hn] at h;exact a7A h hl
      | some k=>
        rw[hn] at h;simp only[a5t] at h⊢;cases hg:p9 H k with
        |none=>rw[hg] at h;cases h
        | some b=>
          rw[hg] at h;cases b with
          | row e0 t l m=>
            simp only[LY] at h;cases hi:EE ((k,.dead)::H) base (LX k t l args) (some s) with
            |none=>rw[hi] at h;cases h
            | some e1=>
              rw[hi] at h
              have hk:k∈e.rds∧∀i∈e1.rds,i∈e.rds:=by
                unfold UC at h;split at h
                · rename_i heq
                  simp only[aMJ] at heq;subst heq;split at h
                  · simp only[aMJ] at h
                    rw[←h];exact⟨by simp,fun i hi=>aM4 _ hi⟩
                  ·cases h
                ·cases h
              rw[hl k hk.1,hg];simp only[LY]
              rw[a7A hi (fun i hi'=>by
                simp only[p9];split
                ·rfl
                ·exact hl i (hk.2 i hi'))]
              exact h
          |_=>cases h
theorem aFE {Γ:sZ}{base:Nat}{args:List oZ}{f:oZ}{e:pC}(h:JB Γ H base args f=some e) (hl: ∀i∈e.rds,p9 H' i=p9 H i):JB Γ H' base args f=some e:=by
  unfold JB at h⊢;split at h
  ·exact a7B h hl
  ·exact a7B h hl
  ·cases h
theorem aFF {T:rO}{Γ:sZ}{ty:TypeId}{ρ:Operand→oZ}{base:Nat}{op:Op}{e:pC}(h:t6 T Γ ty ρ base H op=some e) (hl: ∀i∈e.rds,p9 H' i=p9 H i):t6 T Γ ty ρ base H' op=some e:=by
  cases op
  case load t x=>
    simp only[t6] at h⊢;unfold PC at h⊢;split at h
    · rename_i ti k n c i o' _ e1 e2
      unfold M1 at h;split at h
      · rename_i e' t' l m hg
        split at h
        · rename_i hc
          have:e.rds=[k]:=by
            unfold a5A at h;split at h
            ·simp only[aMJ] at h;rw[←h]
            ·cases h
          rw[hl k (by rw[this];simp),hg];simp only[M1];rw[aMI hc];exact h
        ·cases h
      ·cases h
    ·exact h
    · rename_i ti i off k e1 e2
      rcases a6h h with h1|⟨h0,h1⟩
      · have hi:i∈e.rds:=by
          rcases a6g h1 with h|h
          · unfold M0 at h
            split at h
            · unfold a5z at h;split at h
              ·simp only[aMJ] at h;rw[←h];simp
              ·cases h
            ·cases h
          · unfold P9 at h
            split at h
            · unfold UN at h;split at h
              ·simp only[aMJ] at h;rw[←h];simp
              ·cases h
            ·cases h
        rw[hl i hi,h1];rfl
      · obtain⟨hi,h2⟩:=aFx h1 hl
        rw[hl i hi,h0];rw[hl i hi] at h2;exact h2
    ·cases h
  case store t x y=>
    simp only[t6] at h⊢;unfold PI at h⊢;split at h
    · rename_i ti i off k kk n k' e1 e2 e3
      have hi:i∈e.rds:=by
        unfold UW at h;split at h
        · rcases a6w h with h|h
          · unfold PD at h;split at h
            ·simp only[aMJ] at h;rw[←h];simp
            ·cases h
          · unfold UV at h;split at h
            ·simp only[aMJ] at h;rw[←h];simp
            ·cases h
        ·cases h
      rw[hl i hi];exact h
    · rename_i ti k n c i o' _ t y k' e1 e2 e3
      split at h
      · rename_i ht
        rw[aMI ht];unfold PH at h;split at h
        · rename_i e' t' l m hg
          split at h
          · rename_i hc
            have:e.rds=[k]:=by
              unfold a5D at h;split at h
              ·simp only[aMJ] at h;rw[←h]
              ·cases h
            rw[hl k (by rw[this];simp),hg];simp only[PH];rw[aMI hc];exact h
          ·cases h
        ·cases h
      ·cases h
    · rename_i ti i off k t y k' e1 e2 e3
      split at h
      · rename_i ht
        have hi:e.rds=[i]:=by
          unfold PG at h;split at h
          · unfold PF at h
            split at h
            · unfold a5C at h;split at h
              ·simp only[aMJ] at h;rw[←h]
              ·cases h
            ·cases h
          · unfold PE at h
            split at h
            · unfold PD at h;split at h
              ·simp only[aMJ] at h;rw[←h]
              ·cases h
            ·cases h
        rw[hl i (by rw[hi];simp)];simp only[aMI ht];exact h
      ·cases h
    ·cases h
  case call c=>
    obtain⟨callee,args,tys⟩:=c;cases callee with
    | builtin b=>
      cases b
      case append=>
        simp only[t6,HM] at h⊢;unfold PV at h⊢;split at h
        · split at h
          · rename_i hu
            rw[aMI hu];unfold PQ at h⊢;split at h
            · split at h
              · rename_i hbu
                rw[aMI hbu];unfold PP at h;split at h
                · rename_i hg
                  split at h
                  · rename_i hbt
                    split at h
                    · rename_i hc
                      simp only[aMJ] at h;subst h;rw[hl _ (aNf),hg];simp only[PP];rw[aOR hbt,aMI hc]
                    ·cases h
                  ·cases h
                ·cases h
              ·cases h
            · split at h
              · rename_i hba
                rw[aOR hba];unfold PO at h;split at h
                · rename_i hg
                  split at h
                  · rename_i hc
                    simp only[aMJ] at h;subst h;rw[hl _ (aNf),hg];simp only[PO];rw[aMI hc]
                  ·cases h
                ·cases h
              ·cases h
            ·cases h
          · rename_i hu
            rw[aMK hu];unfold V5 at h⊢;split at h
            · unfold PU at h
              split at h
              · rename_i hg
                split at h
                · rename_i hc
                  simp only[aMJ] at h;subst h;rw[hl _ (aNf),hg];simp only[PU];rw[aMI hc]
                ·cases h
              ·cases h
            ·cases h
        ·cases h
      case len=>
        simp only[t6,HM] at h⊢;unfold PT at h⊢;split at h
        · unfold V3 at h⊢
          split at h
          · unfold PN at h
            split at h
            · rename_i hg
              simp only[aMJ] at h;subst h;rw[hl _ (aNf),hg];simp only[PN]
            ·cases h
          all_goals exact h
        ·cases h
      all_goals exact h
    | value f=>
      simp only[t6,HM] at h⊢;cases hsl:HL args.toList tys.toList with
      |false=>rw[hsl] at h;cases h
      |true=>rw[hsl] at h;exact aFE h hl
    |_=>exact h
  case makeFunc f first caps=>
    cases f with
    |func f=>exact h
    |_=>exact h
  case slice t x lo hi mx=>
    cases mx with
    |none=>exact h
    |some m=>exact h
  case next x b=>
    simp only[t6] at h⊢;unfold Q0 at h⊢;split at h
    · rename_i i k e1
      unfold VB at h;split at h
      · rename_i hg
        have:e.rds=[i]:=by
          simp only[aMJ] at h;rw[←h]
        rw[hl i (by rw[this];simp),hg];exact h
      ·cases h
    ·cases h
  case lookup xt x ix ok=>
    simp only[t6] at h⊢;unfold PX at h⊢;split at h
    · rename_i el fl ar ls_ i kk e1 e2
      unfold V8 at h⊢;split at h
      · rename_i kt vt k a _
        split at h
        · rename_i hk
          rw[aMI hk];unfold PW at h;split at h
          · rename_i hg
            split at h
            · rename_i hkv
              split at h
              · rename_i hkey
                have:e.rds=[i]:=by
                  cases ok<;>(simp only[aMJ] at h;rw[←h])
                rw[hl i (by rw[this];simp),hg];simp only[PW];rw[aOR hkv,aMI hkey];exact h
              ·cases h
            ·cases h
          ·cases h
        ·cases h
      ·cases h
    ·cases h
  case mapUpdate mt m x y=>
    simp only[t6] at h⊢;unfold JD at h⊢;split at h
    · rename_i el fl ar ls_ i kk e1 e2
      unfold PY at h⊢;split at h
      · rename_i kt k a _ u b _
        split at h
        · rename_i hk
          rw[aMI hk];unfold JC at h;split at h
          · rename_i hg
            split at h
            · rename_i hkv
              split at h
              · rename_i hkey
                have:e.rds=[i]:=by
                  simp only[aMJ] at h;rw[←h]
                rw[hl i (by rw[this];simp),hg];simp only[JC];rw[aOR hkv,aMI hkey];exact h
              ·cases h
            ·cases h
          ·cases h
        ·cases h
      ·cases h
    ·cases h
  case insert mt m x y=>
    simp only[t6] at h⊢;unfold JD at h⊢;split at h
    · rename_i el fl ar ls_ i kk e1 e2
      unfold PY at h⊢;split at h
      · rename_i kt k a _ u b _
        split at h
        · rename_i hk
          rw[aMI hk];unfold JC at h;split at h
          · rename_i hg
            split at h
            · rename_i hkv
              split at h
              · rename_i hkey
                have:e.rds=[i]:=by
                  simp only[aMJ] at h;rw[←h]
                rw[hl i (by rw[this];simp),hg];simp only[JC];rw[aOR hkv,aMI hkey];exact h
              ·cases h
            ·cases h
          ·cases h
        ·cases h
      ·cases h
    ·cases h
  all_goals exact h
end
theorem aFG {T:rO}{Γ:sZ}{ops:Array Oper}{o:Oper}{s s':St}{e:pC}(h:JH T Γ ops.toList o s=some e) (ht: ∀t∈o.looksAt ops,lk s'.env t=lk s.env t) (hH: ∀i∈e.rds,p9 s'.H i=p9 s.H i) (hn:s'.nb=s.nb):JH T Γ ops.toList o s'=some e:=by
 have hop: ∀x∈o.op.operands,sM s'.env x=sM s.env x:=fun x hx=>by
  cases x with
  |tmp t=>exact ht t (by simp only[Oper.looksAt,aNE,List.mem_filterMap];exact .inl ⟨.tmp t,by simpa using hx,rfl⟩)
  |_=>rfl
 have hops:B3 s'.env (rK o.op)=B3 s.env (rK o.op):=by
  have hsub: ∀x∈rK o.op,x∈o.op.operands:=by
   have hp: ∀(l:List (Nat×Operand)) x,x∈rK.parts l->x∈l.map (·.2):=by
    intro l
    induction l with
    |nil=>intro x h;exact h
    |cons q l ih=>
     intro x h;obtain⟨i,y⟩:=q;simp only[rK.parts,aM1] at h;rcases h with rfl|h
     ·simp
     ·simp only[aNT,aM1];exact .inr (ih x h)
   have ho: ∀(y:Option Operand) x,x∈rK.opt y->y=some x:=by
    intro y x h;cases y with
    |none=>cases h
    |some y=>simp only[rK.opt,aMW] at h;rw[h]
   intro x hx;cases hop:o.op
   case call c=>
    rw[hop] at hx;obtain⟨callee,args,tys⟩:=c;cases callee<;>simp_all [rK,Op.operands,Call.operands]
   case slice t y lo hi mx=>
    rw[hop] at hx;simp only[rK,aM1,vD] at hx;simp only[Op.operands,Array.mem_append];rcases hx with rfl|hx|hx
    ·simp
    ·have:=ho _ _ hx;subst this;simp
    ·have:=ho _ _ hx;subst this;simp
   case build t ps=>rw[hop] at hx;simp only[Op.operands,aOC];exact hp _ _ hx
   case buildSlice t n ps=>rw[hop] at hx;simp only[Op.operands,aOC];exact hp _ _ hx
   all_goals (rw[hop] at hx;simp_all [rK,Op.operands])
  have: ∀(l:List Operand),(∀x∈l,x∈o.op.operands)->B3 s'.env l=B3 s.env l:=by
   intro l
   induction l with
   |nil=>intro _;rfl
   |cons x l ih=>intro h;simp only[B3,hop x (h x (by simp)),ih (fun y hy=>h y (aM4 _ hy))]
  exact this _ hsub
 have hpl: ∀{e0:pC},t6 T Γ o.type (fun x=>vT (sM s.env x)) s.nb s.H o.op=some e0->e0.rds=e.rds->t6 T Γ o.type (fun x=>vT (sM s'.env x)) s'.nb s'.H o.op=some e0:=by
  intro e0 h1 h2;rw[aFy (ρ:=fun x=>vT (sM s.env x)) (ρ':=fun x=>vT (sM s'.env x)) o.op (fun x hx=>by simp only[hop x hx]),hn];exact aFF h1 (by rw[h2];exact hH)
 unfold JH at h⊢;cases hg:o.guard with
 |none=>
  rw[hg] at h;simp only at h⊢;by_cases hpk: ∃c x y,o.op= .pick c x y
  ·obtain⟨c,x,y,hp⟩:=hpk;rw[hp] at h⊢;simp only[JG] at h⊢;rw[hop c (by rw[hp];simp [Op.operands]),hop x (by rw[hp];simp [Op.operands]),hop y (by rw[hp];simp [Op.operands])];exact h
  ·have e1: ∀s,JG T Γ o s o.op=JE (wZ true (B3 s.env (rK o.op))) (t6 T Γ o.type (fun x=>vT (sM s.env x)) s.nb s.H o.op):=by
    intro s;cases ho:o.op<;>first|rfl|(exact absurd ⟨_,_,_,ho⟩ hpk)
   rw[e1] at h⊢;rw[hops];cases hp0:t6 T Γ o.type (fun x=>vT (sM s.env x)) s.nb s.H o.op with
   |none=>rw[hp0] at h;cases h
   |some e0=>
    rw[hp0] at h;simp only[JE,aMJ] at h;rw[hpl hp0 (by rw[<-h])];simp only[JE,h]
 |some jb=>
  obtain⟨j,b⟩:=jb;rw[hg] at h;simp only at h⊢;have hgu:EI s'.env b (CD ops.toList j)=EI s.env b (CD ops.toList j):=by
   rw[WP];cases hd:(ops.toList[j]?).bind (·.dst) with
   |none=>rfl
   |some t=>
    simp only[EI];rw[ht t (by
     simp only[Oper.looksAt,hg,aNE];right;have:(ops[j]?).bind (·.dst)=some t:=by simpa using hd
     rw[this];simp)]
  rw[hgu];cases hG:EI s.env b (CD ops.toList j) with
  |none=>rw[hG] at h;cases h
  |some G=>
   rw[hG] at h;by_cases hpk: ∃c x y,o.op= .pick c x y
   ·obtain⟨c,x,y,hp⟩:=hpk;rw[hp] at h⊢;simp only[JF] at h⊢;rw[hop c (by rw[hp];simp [Op.operands]),hop x (by rw[hp];simp [Op.operands]),hop y (by rw[hp];simp [Op.operands])];exact h
   have e1: ∀s,JF T Γ o s (some G) o.op=FT G (wZ G (B3 s.env (rK o.op))) (t6 T Γ o.type (fun x=>vT (sM s.env x)) s.nb s.H o.op):=by
    intro s;cases ho:o.op<;>first|rfl|(exact absurd ⟨_,_,_,ho⟩ hpk)
   rw[e1] at h⊢;rw[hops];cases hp0:t6 T Γ o.type (fun x=>vT (sM s.env x)) s.nb s.H o.op with
   |none=>rw[hp0] at h;cases h
   |some e0=>
    rw[hp0] at h;have hrd:e0.rds=e.rds:=by
     unfold FT at h;split at h
     ·rename_i heq;simp only[aMJ] at h heq;subst heq;rw[<-h]
     ·rename_i heq;simp only[aMJ] at h heq;subst heq;rw[<-h]
     ·cases h
    rw[hpl hp0 hrd];exact h
theorem aFH {T:rO}{Γ:sZ}{ops:Array Oper}{o:Oper}{s s':St}{e:pC}(h:DA T Γ ops.toList o s=some e) (ht: ∀t∈o.looksAt ops,lk s'.env t=lk s.env t) (hH: ∀i∈e.rds,p9 s'.H i=p9 s.H i) (hn:s'.nb=s.nb) (hp:s'.np=s.np):DA T Γ ops.toList o s'=some e:=by
 obtain⟨h1,h2⟩:=MV h;unfold DA at h⊢;rw[h1] at h;rw[aFG h1 ht hH hn,hp];exact h
def uC {α:Type}(p:Nat->Bool) (wr:Nat->Option α) (b:α):Nat->α
 |0=>b
 |k+1=>if p k=true then(wr k).getD (uC p wr b k) else uC p wr b k
theorem JX {α:Type}{p q:Nat->Bool}{wr:Nat->Option α}{b:α}: ∀{n:Nat},(∀j,j<n->wr j≠none->p j=q j)->uC p wr b n=uC q wr b n
 |0,_=>rfl
 |n+1,h=>by
  simp only[uC];have ih:=JX (p:=p) (q:=q) (wr:=wr) (b:=b) (n:=n) (fun j hj=>h j (by omega));cases hw:wr n with
  |none=>simp [ih]
  |some v=>rw[h n (by omega) (by rw[hw];simp),ih]
theorem a7C {α:Type}{wr:Nat->Option α}{b:α}{i:Nat}: ∀{n:Nat},i<=n->uC (fun j=>decide (j<i)) wr b n=uC (fun _=>true) wr b i
 |0,h=>by
  have:i=0:=by omega
  subst this;rfl
 |n+1,h=>by
  by_cases hi:i=n+1
  ·subst hi;exact JX (fun j hj _=>by simp [hj])
  ·have: ¬n<i:=by omega
   simp only[uC];rw[aMK (by simp [this])];exact a7C (by omega)
theorem X0 {α:Type}{p q:Nat->Bool}{wr:Nat->Option α}{b:α}{i:Nat}(hi:p i=false) (hq: ∀j,q j=if j=i then true else p j): ∀{n:Nat},i<n->(∀j,i<j->j<n->p j=true->wr j=none\/wr i=none)->uC q wr b n=(wr i).getD (uC p wr b n)
 |0,h,_=>by omega
 |n+1,h,hd=>by
  simp only[uC];by_cases hn:n=i
  ·subst hn;rw[aMI (by rw[hq];simp),aMK (by simp [hi])];rw[JX (p:=q) (q:=p) (fun j hj _=>by rw[hq,aMK (by omega)])]
  ·have ih:=X0 (b:=b) hi hq (n:=n) (by omega) (fun j h1 h2=>hd j h1 (by omega));rw[hq,aMK hn,ih];by_cases hp:p n=true
   ·rw[aMI hp,aMI hp];rcases hd n (by omega) (by omega) hp with h1|h1
    ·rw[h1];rfl
    ·rw[h1];rfl
   ·rw[aMK hp,aMK hp]
theorem X1 {α:Type}{p:Nat->Bool}{wr:Nat->Option α}{b:α}: ∀(k:Nat),uC p wr b (k+1)=uC (fun j=>p (j+1)) (fun j=>wr (j+1)) (if p 0=true then(wr 0).getD b else b) k
 |0=>rfl
 |k+1=>by
  rw[uC,X1 k];rfl
theorem X2 {rds:List Nat}{i:Nat}: ∀{u:List (Nat×oX)},i∈pB (JI rds u)↔i∈pB u/\CE i rds=false
 |[]=>by simp [JI,pB]
 |(j,b)::u=>by
  simp only[JI];cases h:CE j rds with
  |true=>
   rw[aMI rfl,X2 (u:=u)];simp only[pB,aM1];constructor
   ·rintro⟨h1,h2⟩;exact⟨.inr h1,h2⟩
   ·rintro⟨rfl|h1,h2⟩
    ·rw[h] at h2;cases h2
    ·exact⟨h1,h2⟩
  |false=>
   rw[aMK (by simp)];simp only[pB,aM1,X2 (u:=u)];constructor
   ·rintro(rfl|⟨h1,h2⟩)
    ·exact⟨.inl rfl,h⟩
    ·exact⟨.inr h1,h2⟩
   ·rintro⟨rfl|h1,h2⟩
    ·exact .inl rfl
    ·exact .inr ⟨h1,h2⟩
theorem R3 {e:pC}{i:Nat}:i∈pB (BQ e)↔i∈pB e.upd/\CE i e.rds=false:=X2
theorem a7D {i:Nat}: ∀{l:List Nat},CE i l=true->i∈l
 |[],h=>by cases h
 |j::l,h=>by
  simp only[CE] at h;split at h
  ·rename_i e;subst e;exact aNf
  ·exact aM4 _ (a7D h)
theorem a7E {H U:List (Nat×oX)}{rds:List Nat}{i:Nat}(h:CE i rds=true): ∀{u:List (Nat×oX)},i∈pB u->(p9 U i=p9 H i)∈HN H U rds u
 |[],hi=>by cases hi
 |(j,b)::u,hi=>by
  simp only[HN];simp only[pB,aM1] at hi;rcases hi with rfl|hi
  ·rw[aMI h];exact aNf
  ·have:=a7E (H:=H) (U:=U) h hi;split
   ·exact aM4 _ this
   ·exact this
theorem aFI {H:List (Nat×oX)}{e:pC}(hs: ∀p∈HN H e.upd e.rds e.upd,p) {i:Nat}(h1:i∈pB e.upd) (h2:i∉pB (BQ e)):p9 e.upd i=p9 H i/\i∈e.rds:=by
 have h:CE i e.rds=true:=by
  cases h3:CE i e.rds with
  |true=>rfl
  |false=>exact absurd (R3.2 ⟨h1,h3⟩) h2
 exact⟨hs _ (a7E h h1),a7D h⟩
def AE (os:List Oper) (es:List pC) (t j:Nat):Option oZ:=
 match os[j]?,es[j]? with
 |some o,some e=>if o.dst=some t then some e.slot else none
 |_,_=>none
def AF (es:List pC) (id j:Nat):Option (Option oX):=
 match es[j]? with
 |some e=>if id∈pB (BQ e) then some (p9 e.upd id) else none
 |none=>none
theorem X3 {id:Nat}{H:qO}: ∀{u:List (Nat×oX)},p9 (pF u H) id=if id∈pB u then p9 u id else p9 H id
 |[]=>by simp [pF,pB]
 |(k,b)::u=>by
  simp only[pF,p9,pB,aM1];by_cases h:k=id
  ·subst h;simp
  ·rw[aMK h,aMK h,X3 (u:=u)];have:(id=k\/id∈pB u)↔id∈pB u:=⟨fun h'=>h'.resolve_left (Ne.symm h),.inr⟩;simp only[this]
theorem a7F {d:Option Tmp}{s:oZ}{env:List (Nat×oZ)}{t:Nat}:lk (sQ d s env) t=if d=some t then s else lk env t:=by
 cases d with
 |none=>simp [sQ]
 |some d=>simp only[sQ,lk,aMJ]
structure aFJ (T:rO) (Γ:sZ) (ops:List Oper) (os:List Oper) (es:List pC) (s:St) (y:uP) (k:Nat) (o:Oper) (e:pC) (sk:St):Prop where
 ev:DA T Γ ops o sk=some e
 nb:sk.nb=s.nb+32*k
 dst:FV s.N o.dst=true
 ids:FW (s.nb+32*k+32) e.upd=true
 np:sk.np=s.np
 side: ∀p∈e.side,p∈y.side
 env: ∀t,lk sk.env t=uC (fun _=>true) (AE os es t) (lk s.env t) k
 heap: ∀id,p9 sk.H id=uC (fun _=>true) (AF es id) (p9 s.H id) k
 same: ∀id,id∈pB e.upd->id∉pB (BQ e)->p9 e.upd id=p9 sk.H id/\id∈e.rds
structure a7G (T:rO) (Γ:sZ) (ops:List Oper) (os:List Oper) (es:List pC) (s:St) (y:uP):Prop where
 len:es.length=os.length
 nb:y.s.nb=s.nb+32*os.length
 step: ∀k o e,os[k]? =some o->es[k]? =some e->∃sk,aFJ T Γ ops os es s y k o e sk
 env: ∀t,lk y.s.env t=uC (fun _=>true) (AE os es t) (lk s.env t) os.length
 heap: ∀id,p9 y.s.H id=uC (fun _=>true) (AF es id) (p9 s.H id) os.length
theorem a7H {T:rO}{Γ:sZ}{ops:List Oper}: ∀{l:List Oper}{x y:uP},uQ T Γ ops l (some x)=some y->(∀p∈y.side,p)->∃es:List pC,y.es=es.reverse++x.es/\a7G T Γ ops l es x.s y
 |[],x,y,h,_=>by
  simp only[uQ,aMJ] at h;subst h;exact⟨[],rfl,rfl,rfl,fun k o e h=>by simp at h,fun _=>rfl,fun _=>rfl⟩
 |o::l,x,y,h,hsy=>by
  obtain⟨e,h1,h2,h3,h4⟩:=WW h;obtain⟨es,h5,h6⟩:=a7H h4 hsy;have hsame: ∀{i:Nat},i∈pB e.upd->i∉pB (BQ e)->p9 e.upd i=p9 x.s.H i/\i∈e.rds:=fun h1 h2=>aFI (fun p hp=>hsy p ((HZ h4).1 p (vD.2 (.inr (vD.2 (.inl hp)))))) h1 h2;have envs: ∀t k,uC (fun _=>true) (AE (o::l) (e::es) t) (lk x.s.env t) (k+1)=uC (fun _=>true) (AE l es t) (lk (sQ o.dst e.slot x.s.env) t) k:=fun t k=>by
   rw[X1,aMI rfl,a7F];have:(AE (o::l) (e::es) t 0).getD (lk x.s.env t)=if o.dst=some t then e.slot else lk x.s.env t:=by
    simp only[AE,aNe];split<;>rfl
   rw[this];rfl
  have heaps: ∀id k,uC (fun _=>true) (AF (e::es) id) (p9 x.s.H id) (k+1)=uC (fun _=>true) (AF es id) (p9 (pF e.upd x.s.H) id) k:=fun id k=>by
   rw[X1,aMI rfl,X3];have:(AF (e::es) id 0).getD (p9 x.s.H id)=if id∈pB e.upd then p9 e.upd id else p9 x.s.H id:=by
    simp only[AF,aNe];by_cases h7:id∈pB (BQ e)
    ·rw[aMI h7,aMI (R3.1 h7).1];rfl
    ·rw[aMK h7];by_cases h8:id∈pB e.upd
     ·rw[aMI h8,(hsame h8 h7).1];rfl
     ·rw[aMK h8];rfl
   rw[this];rfl
  refine⟨e::es,by rw[h5];simp,by simp [h6.len],?_,?_,fun t=> ?_,fun id=> ?_⟩
  ·have:=h6.nb;simp only at this;rw[this];simp only[aMO];omega
  ·intro k o' e' ho he;cases k with
   |zero=>
    simp only[aNe,aMJ] at ho he;subst ho;subst he;exact⟨x.s,h1,rfl,h2,h3,rfl,fun p hp=>(HZ h4).1 p (vD.2 (.inr (vD.2 (.inr hp)))),fun _=>rfl,fun _=>rfl,fun id=>hsame⟩
   |succ k=>
    simp only[aNk] at ho he;obtain⟨sk,q⟩:=h6.step k o' e' ho he;refine⟨sk,q.ev,by rw[q.nb];simp only;omega,q.dst,?_,q.np,q.side,fun t=>by rw[q.env t,envs],fun id=>by rw[q.heap id,heaps],q.same⟩;have:=q.ids;simp only at this;rw[show x.s.nb+32*(k+1)+32=x.s.nb+32+32*k+32 by omega];exact this
  ·rw[aMO,envs];exact h6.env t
  ·rw[aMO,heaps];exact h6.heap id
theorem a7I {ops:Array Oper}{bs:List Nat}{nb i:Nat}{o:Oper}{e:pC}: ∀{ps:List Oper}{fs:List pC}{j:Nat},Q1 ops bs nb i o e ps fs j=true->∀k p f,ps[k]? =some p->fs[k]? =some f->
  (bs.getD (j+k) 0).testBit i=true\/(o.apart ops p=true/\EJ e f=true/\HO (nb+32*i) f.upd=true)
 |p::ps,f::fs,j,h,k,p',f',hp,hf=>by
  simp only[Q1,aMS,aNz] at h;cases k with
  |zero=>
   simp only[aNe,aMJ] at hp hf;subst hp;subst hf;exact h.1.imp id (fun h=>⟨h.1.1,h.1.2,h.2⟩)
  |succ k=>
   simp only[aNk] at hp hf;have:=a7I h.2 k p' f' hp hf;rw[show j+(k+1)=j+1+k by omega];exact this
 |[],_,_,_,_,_,_,hp,_=>by simp at hp
 |_::_,[],_,_,_,_,_,_,hf=>by simp at hf
theorem X4 {ops:Array Oper}{bs:List Nat}{nb:Nat}: ∀{os:List Oper}{es:List pC}{m:Nat},Q2 ops bs nb os es m=true->∀i j o e p f,i<j->os[i]? =some o->es[i]? =some e->os[j]? =some p->es[j]? =some f->
  (bs.getD (m+j) 0).testBit (m+i)=true\/(o.apart ops p=true/\EJ e f=true/\HO (nb+32*(m+i)) f.upd=true)
 |o'::os,e'::es,m,h,i,j,o,e,p,f,hij,ho,he,hp,hf=>by
  simp only[Q2,aMS] at h;obtain⟨j,rfl⟩: ∃k,j=k+1:=⟨j-1,by omega⟩;simp only[aNk] at hp hf;cases i with
  |zero=>
   simp only[aNe,aMJ] at ho he;subst ho;subst he;have:=a7I h.1 j p f hp hf;rw[show m+(j+1)=m+1+j by omega];exact this
  |succ i=>
   simp only[aNk] at ho he;have:=X4 h.2 i j o e p f (by omega) ho he hp hf;rw[show m+(j+1)=m+1+j by omega,show m+(i+1)=m+1+i by omega];exact this
 |[],_,_,_,_,_,_,_,_,_,_,ho,_,_,_=>by simp at ho
 |_::_,[],_,_,_,_,_,_,_,_,_,_,he,_,_=>by simp at he
theorem a7J: ∀{os:List Oper}{m:Nat},Q3 os m=true->∀i o,os[i]? =some o->∀e∈o.after,Region.binds .any e=true->e.on<m+i
 |o'::os,m,h,i,o,ho,e,he,hb=>by
  simp only[Q3,aMS] at h;cases i with
  |zero=>
   simp only[aNe,aMJ] at ho;subst ho;have:=aOa.1 h.1 e (by simpa using he);simpa[hb] using this
  |succ i=>
   simp only[aNk] at ho;have:=a7J h.2 i o ho e he hb;omega
 |[],_,_,_,_,ho,_,_,_=>by simp at ho
theorem R4 {l:List Nat}: ∀{u:List (Nat×oX)},M5 u l=false->∀i,i∈pB u->i∉l
 |(k,b)::u,h,i,hi=>by
  simp only[M5,aOb] at h;simp only[pB,aM1] at hi;rcases hi with rfl|hi
  ·simpa using h.1
  ·exact R4 h.2 i hi
theorem X5 {a b:pC}(h:EJ a b=true):(∀i∈pB (BQ a),i∉b.rds/\i∉pB b.upd)/\(∀i∈pB (BQ b),i∉a.rds):=by
 simp only[EJ,aMS,aNh] at h;exact⟨fun i hi=>⟨fun h1=>R4 h.1 i hi (vD.2 (.inl h1)),fun h1=>R4 h.1 i hi (vD.2 (.inr h1))⟩,fun i hi=>R4 h.2 i hi⟩
theorem a7K {lo:Nat}: ∀{u:List (Nat×oX)},HO lo u=true->∀i∈pB u,i<lo\/lo+32<=i
 |(k,b)::u,h,i,hi=>by
  simp only[HO,aMS,aNz,aMQ] at h;simp only[pB,aM1] at hi;rcases hi with rfl|hi
  ·exact h.1
  ·exact a7K h.2 i hi
def X6 (os:List Oper) (p:Nat->Bool):Prop:= ∀j o,os[j]? =some o->p j=true->∀e∈o.after,Region.binds .any e=true->p e.on=true
theorem a7L {p:Nat->Bool}{acc:Array Nat}(hacc: ∀i j,(acc.getD i 0).testBit j=true->p i=true->p j=true) {i:Nat}: ∀{es:List Edge}{s:Nat},(s.testBit i=true->p i=true)->(∀e∈es,Region.binds .any e=true->p e.on=true)->
  (es.foldl (fun s e=>if Region.binds .any e then s|||2^e.on|||acc.getD e.on 0 else s) s).testBit i=true->p i=true
 |[],s,hs,_,h=>hs h
 |e::es,s,hs,he,h=>by
  simp only[List.foldl_cons] at h;refine a7L hacc (es:=es) (fun h1=> ?_) (fun e' h'=>he e' (aM4 _ h')) h;split at h1
  ·rename_i hb;simp only[Nat.testBit_or,aNz,Nat.testBit_two_pow,aMQ] at h1;rcases h1 with(h1|h1) |h1
   ·exact hs h1
   ·rw[<-h1];exact he e (by simp) hb
   ·exact hacc _ _ h1 (he e (by simp) hb)
  ·exact hs h1
theorem a7M {p:Nat->Bool}: ∀{os:List Oper}{acc:Array Nat},(∀i j,(acc.getD i 0).testBit j=true->p i=true->p j=true)->(∀j o,os[j]? =some o->p (acc.size+j)=true->∀e∈o.after,Region.binds .any e=true->p e.on=true)->
  ∀i j,((os.foldl (fun acc o=>acc.push (o.after.foldl (fun s e=>if Region.binds .any e then s|||2^e.on|||acc.getD e.on 0 else s) 0)) acc).getD i 0).testBit j=true->p i=true->p j=true
 |[],acc,hacc,_,i,j,h,hp=>hacc i j h hp
 |o::os,acc,hacc,hos,i,j,h,hp=>by
  simp only[List.foldl_cons] at h;refine a7M (os:=os) (fun i j h hp=> ?_) (fun k o' ho hk=> ?_) i j h hp
  ·rw[aNj,Array.getElem?_push] at h;split at h
   ·rename_i hi;simp only[aN1] at h;rw[<-aOL] at h;refine a7L hacc (es:=o.after.toList) (s:=0) (fun h=>by simp at h) (fun e he hb=>hos 0 o rfl (by rw[hi] at hp;exact hp) e (by simpa using he) hb) h
   ·rw[<-aNj] at h;exact hacc i j h hp
  ·refine hos (k+1) o' ho ?_;rw[Array.size_push] at hk;rw[show acc.size+(k+1)=acc.size+1+k by omega];exact hk
theorem a7N {ops:Array Oper}{p:Nat->Bool}(hp:X6 ops.toList p) {i j:Nat}(h:((Region.before ops).toList.getD i 0).testBit j=true) (hi:p i=true):p j=true:=by
 refine a7M (os:=ops.toList) (acc:= #[]) (p:=p) (fun i j h=>by simp at h) (fun j o ho hj=>hp j o ho (by simpa using hj)) i j ?_ hi;unfold Region.before at h;rw[<-aOL] at h;rw[aNj,<-aNQ,<-aNa];exact h
def BU (l:Array Bool):Nat->Nat
 |0=>0
 |k+1=>BU l k+if l.getD k false=true then 0 else 1
theorem a7O {l l':Array Bool}: ∀{n:Nat},(∀j,j<n->l'.getD j false=l.getD j false)->BU l' n=BU l n
 |0,_=>rfl
 |n+1,h=>by simp only[BU];rw[a7O (fun j hj=>h j (by omega)),h n (by omega)]
theorem a7P {l:Array Bool}: ∀{n:Nat},BU l n=0->∀j,j<n->l.getD j false=true
 |n+1,h,j,hj=>by
  simp only[BU] at h;by_cases hn:l.getD n false=true
  ·by_cases hjn:j=n
   ·subst hjn;exact hn
   ·exact a7P (n:=n) (by omega) j (by omega)
  ·rw[aMK hn] at h;omega
theorem EP {l:Array Bool}{i j:Nat}(hi:i<l.size):(l.setIfInBounds i true).getD j false=if j=i then true else l.getD j false:=by
 by_cases h:j=i
 ·subst h;rw[aMI rfl,aNj,Array.getElem?_setIfInBounds_self_of_lt hi];rfl
 ·rw[aMK h,aNj,aN4 (Ne.symm h),<-aNj]
theorem a7Q {l:Array Bool}{i:Nat}(hi:i<l.size) (hf:l.getD i false=false): ∀{n:Nat},i<n->BU (l.setIfInBounds i true) n+1=BU l n
 |n+1,h=>by
  simp only[BU];by_cases hn:n=i
  ·subst hn;rw[EP hi,aMI rfl,aMI rfl,hf,a7O (l:=l) (fun j hj=>by rw[EP hi,aMK (by omega)])];simp
  ·rw[EP hi,aMK hn];have:=a7Q hi hf (n:=n) (by omega);omega
theorem a7R {p:Nat->Bool}: ∀{n:Nat},(∃j,j<n/\p j=false)->∃j,j<n/\p j=false/\∀k,k<j->p k=true
 |0,⟨j,h,_⟩=>by omega
 |n+1,⟨j,h,hj⟩=>by
  by_cases hs: ∃j,j<n/\p j=false
  ·obtain⟨k,h1,h2,h3⟩:=a7R hs;exact⟨k,by omega,h2,h3⟩
  ·refine⟨j,h,hj,fun k hk=> ?_⟩;cases hp:p k with
   |true=>rfl
   |false=>exact absurd ⟨k,by omega,hp⟩ hs
theorem rH.ext {g:Gh}{w:World}{H H':qO}(h:rH g w H) (e: ∀i,p9 H' i=p9 H i):rH g w H':=
 ⟨fun i b hb=>h.blk i b (by rw[<-e];exact hb),fun i j bi bj b o hij h1 h2=>h.dis i j bi bj b o hij (by rw[<-e];exact h1) (by rw[<-e];exact h2),h.sl,h.tab.1,fun i b bb oo hb ho=>h.tab.2 i b bb oo (by rw[<-e];exact hb) ho⟩
theorem s3.ext {A:Nat->Nat->Prop}{L:List oX}{g0 g:Gh}{w0 w:World}{H H':qO}(h:s3 A L g0 w0 g w H) (e: ∀i,p9 H' i=p9 H i):s3 A L g0 w0 g w H':=
 ⟨h.shut,h.fr,fun i blk b o hb=>h.perm i blk b o (by rw[<-e];exact hb),h.J,h.live,fun i u y us hi hb=>h.ty i u y us hi (by rw[<-e];exact hb),h.cur⟩
theorem a7S (g:Gh) (w:World) (d:Nat):Le g w g {w with drawn:=d}:=⟨fun _ _ h=>h,fun _ _ _=>rfl,fun _ _ h=>h,fun _ _ _ h=>h⟩
theorem rH.drawn {g:Gh}{w:World}{H:qO}(h:rH g w H) (d:Nat):rH g {w with drawn:=d} H:=
 ⟨fun i b hb=>HQ (h.blk i b hb) (a7S g w d) rfl rfl (fun _ _ _=>⟨rfl,rfl⟩) (fun _ _=>rfl) (fun _ _ _ h=>h) (fun _ _ _ _ h=>h),h.dis,h.sl,LP h.tab.1 (aM2 _) (fun _ _=>rfl),h.tab.2⟩
theorem s3.drawn {A:Nat->Nat->Prop}{L:List oX}{g0 g:Gh}{w0 w:World}{H:qO}(h:s3 A L g0 w0 g w H) (d:Nat):s3 A L g0 w0 g {w with drawn:=d} H:=
 ⟨h.shut,⟨h.fr.os,h.fr.tape,h.fr.output,h.fr.size,h.fr.blk,h.fr.cell,h.fr.new,h.fr.shape⟩,h.perm,h.J,h.live,h.ty,h.cur⟩
section
variable {B:Nat}{P:Program}{T:rO}{Γ:sZ}(hT:vK P T) (hΓ:CM P Γ) {A:Nat->Nat->Prop}{L:List oX}{g0:Gh}{w0:World}{Q:Exit->Act->World->Prop}
structure Mid (B:Nat) (A:Nat->Nat->Prop) (L:List oX) (g0:Gh) (w0:World) (ops:Array Oper) (es:List pC) (s:St) (listed:Array Bool) (g:Gh) (w:World) (a:Act) (env:List (Nat×oZ)) (H:qO):Prop where
 size:listed.size=ops.size
 closed:X6 ops.toList (fun j=>listed.getD j false)
 eok:AD g w env a.tmps
 look: ∀t,lk env t=uC (fun j=>listed.getD j false) (AE ops.toList es t) (lk s.env t) ops.size
 heap:rH g w H
 get: ∀id,p9 H id=uC (fun j=>listed.getD j false) (AF es id) (p9 s.H id) ops.size
 tmps:a.tmps.size=s.N
 def_:xV B w a.defers
 good:s3 A L g0 w0 g w H
 len:L.length=s.np
 free: ∀j,j<ops.size->listed.getD j false=false->∀id,s.nb+32*j<=id->id<s.nb+32*j+32->g.J id=none/\∀n,g.cur id n=none
 top: ∀id,s.nb+32*ops.size<=id->g.J id=none/\∀n,g.cur id n=none
include hT hΓ
theorem aFK {ro:Option Nat}{ops:Array Oper}{es:List pC}{s:St}{y:uP}(run:a7G T Γ ops.toList ops.toList es s y) (hs: ∀p∈y.side,p) (hchk:DB ops s.nb es=true)
  (hQ: ∀g a w env H,AD g w env a.tmps->(∀t,lk env t=lk y.s.env t)->rH g w H->(∀id,p9 H id=p9 y.s.H id)->a.tmps.size=s.N->xV B w a.defers->s3 A L g0 w0 g w H->(∀id,s.nb+32*ops.size<=id->g.J id=none/\∀n,g.cur id n=none)->Q .normal a w):
  ∀(fuel:Nat) (listed:Array Bool) (g:Gh) (w:World) (a:Act) (env:List (Nat×oZ)) (H:qO),BU listed ops.size<=fuel->Mid B A L g0 w0 ops es s listed g w a env H->wpAnyIn (DF ro) 0 P .any ops Q fuel listed a w:=by
 simp only[DB,aMS] at hchk;obtain⟨haf,hfr⟩:=hchk;have hsz:ops.toList.length=ops.size:=aNi;have done: ∀(listed:Array Bool) (g:Gh) (w:World) (a:Act) (env:List (Nat×oZ)) (H:qO),Mid B A L g0 w0 ops es s listed g w a env H->(∀j,j<ops.size->listed.getD j false=true)->Q .normal a w:=by
  intro listed g w a env H m hall;refine hQ g a w env H m.eok (fun t=> ?_) m.heap (fun id=> ?_) m.tmps m.def_ m.good m.top
  ·rw[m.look t,run.env t,hsz];exact JX (fun j hj _=>hall j hj)
  ·rw[m.get id,run.heap id,hsz];exact JX (fun j hj _=>hall j hj)
 have stuck: ∀(listed:Array Bool),listed.size=ops.size->Region.ready .any ops listed=[]->∀j,j<ops.size->listed.getD j false=true:=by
  intro listed hls hr j hj;cases hp:listed.getD j false with
  |true=>rfl
  |false=>
   obtain⟨k,h1,h2,h3⟩:=a7R (p:=fun j=>listed.getD j false) ⟨j,hj,hp⟩;have:k∈Region.ready .any ops listed:=by
    rw[mem_ready];refine⟨?_,ops[k],by simp [h1],fun e he hb=> ?_⟩
    ·have h2:listed.getD k false=false:=h2;rw[aNj] at h2⊢;rw[aOB (by omega)] at h2⊢;exact h2
    ·have:=a7J haf k ops[k] (by simp [h1]) e he hb;exact h3 e.on (by omega)
   rw[hr] at this;cases this
 intro fuel
 induction fuel with
 |zero=>
  intro listed g w a env H hu m;have hall:=a7P (l:=listed) (n:=ops.size) (by omega);refine⟨?_,done listed g w a env H m hall⟩;cases hr:Region.ready .any ops listed with
  |nil=>rfl
  |cons i r=>
   have:i∈Region.ready .any ops listed:=by rw[hr];simp
   obtain⟨h0,o,ho,_⟩:=mem_ready.1 this;have hi:i<ops.size:=(aNc.1 ho).1;have:=hall i hi;rw[aNj] at this h0;rw[aOB (by rw[m.size];exact hi)] at this h0;simp at this h0;rw[this] at h0;cases h0
 |succ fuel ih=>
  intro listed g w a env H hu m;refine⟨fun hr=>done listed g w a env H m (stuck listed m.size hr),fun i hi=> ?_⟩;obtain⟨h0,o,ho,hall⟩:=mem_ready.1 hi;have hin:i<ops.size:=(aNc.1 ho).1;have hil:i<listed.size:=by rw[m.size];exact hin
  have hpi:listed.getD i false=false:=by
   rw[aNj] at h0⊢;rw[aOB hil] at h0⊢;exact h0
  have hoL:ops.toList[i]? =some o:=by simpa using ho
  obtain⟨e,he⟩: ∃e,es[i]? =some e:=⟨es[i]'(by rw[run.len,hsz];exact hin),by simp⟩;obtain⟨sk,st⟩:=run.step i o e hoL he;have hcl':X6 ops.toList (fun j=>(listed.setIfInBounds i true).getD j false):=by
   intro j o' ho' hj ed hed hb;simp only[EP hil] at hj⊢;by_cases hji:j=i
   ·subst hji;rw[hoL] at ho';obtain rfl:=aML ho';have:=hall ed hed hb;split
    ·rfl
    ·exact this
   ·rw[aMK hji] at hj;have:=m.closed j o' ho' hj ed hed hb;split
    ·rfl
    ·exact this
  have hbef: ∀j,((Region.before ops).toList.getD i 0).testBit j=true->j≠i->listed.getD j false=true:=by
   intro j hj hne;have:=a7N hcl' hj (by simp only[EP hil];simp);simp only[EP hil,aMK hne] at this;exact this
  have haft: ∀j,((Region.before ops).toList.getD j 0).testBit i=true->listed.getD j false=true->False:=by
   intro j hj hl;have:=a7N m.closed hj hl;rw[hpi] at this;cases this
  have pairLt: ∀j p f,j<i->ops.toList[j]? =some p->es[j]? =some f->listed.getD j false=true\/(p.apart ops o=true/\EJ f e=true/\HO (s.nb+32*j) e.upd=true):=by
   intro j p f hji hp hf;rcases X4 hfr j i p f o e hji hp hf hoL he with h1|h1
   ·rw[aNd,aNd] at h1;exact .inl (hbef j h1 (by omega))
   ·rw[aNd] at h1;exact .inr h1
  have pairGt: ∀j p f,i<j->ops.toList[j]? =some p->es[j]? =some f->listed.getD j false=true->o.apart ops p=true/\EJ e f=true:=by
   intro j p f hij hp hf hl;rcases X4 hfr i j o e p f hij hoL he hp hf with h1|h1
   ·rw[aNd,aNd] at h1;exact(haft j h1 hl).elim
   ·exact⟨h1.1,h1.2.1⟩
  have same: ∀{α:Type}(wr:Nat->Option α) (b:α),(∀j p f,j<i->ops.toList[j]? =some p->es[j]? =some f->wr j≠none->p.apart ops o=true->EJ f e=true->False)->
    (∀j p f,i<j->ops.toList[j]? =some p->es[j]? =some f->wr j≠none->o.apart ops p=true->EJ e f=true->False)->(∀j,wr j≠none->∃f,es[j]? =some f)->
    uC (fun j=>listed.getD j false) wr b ops.size=uC (fun _=>true) wr b i:=by
   intro α wr b hlt hgt hex;rw[<-a7C (n:=ops.size) (by omega)];refine JX (fun j hj hw=> ?_);obtain⟨f,hf⟩:=hex j hw;have hpj:ops.toList[j]? =some ops[j]:=by simp [hj]
   rcases Nat.lt_trichotomy j i with h1|h1|h1
   ·rw[aNK h1];rcases pairLt j _ f h1 hpj hf with h2|h2
    ·exact h2
    ·exact(hlt j _ f h1 hpj hf hw h2.1 h2.2.1).elim
   ·subst h1;simp [hpi]
   ·have: ¬j<i:=by omega
    rw[decide_eq_false this];cases hl:listed.getD j false with
    |false=>rfl
    |true=>
     obtain⟨h2,h3⟩:=pairGt j _ f h1 hpj hf hl;exact(hgt j _ f h1 hpj hf hw h2 h3).elim
  have exS: ∀t j,AE ops.toList es t j≠none->∃f,es[j]? =some f:=by
   intro t j h;unfold AE at h;cases hf:es[j]? with
   |none=>rw[hf] at h;exact absurd (by split<;>first|rfl|(rename_i h1;cases h1)) h
   |some f=>exact⟨f,rfl⟩
  have exH: ∀t j,AF es t j≠none->∃f,es[j]? =some f:=by
   intro t j h;unfold AF at h;cases hf:es[j]? with
   |none=>rw[hf] at h;exact absurd rfl h
   |some f=>exact⟨f,rfl⟩
  have dS: ∀t j p f,ops.toList[j]? =some p->es[j]? =some f->AE ops.toList es t j≠none->p.dst=some t:=by
   intro t j p f hp hf h;unfold AE at h;rw[hp,hf] at h;simp only at h;split at h
   ·assumption
   ·exact absurd rfl h
  have dH: ∀id j f,es[j]? =some f->AF es id j≠none->id∈pB (BQ f):=by
   intro id j f hf h;unfold AF at h;rw[hf] at h;simp only at h;split at h
   ·assumption
   ·exact absurd rfl h
  have hrds: ∀id∈e.rds,p9 H id=p9 sk.H id:=fun id hid=>by
   rw[m.get id,st.heap id];refine same _ _ (fun j p f _ hp hf hw _ ha=> ?_) (fun j p f _ hp hf hw _ ha=> ?_) (exH id)
   ·exact((X5 ha).1 id (dH id j f hf hw)).1 hid
   ·exact(X5 ha).2 id (dH id j f hf hw) hid
  have hev:DA T Γ ops.toList o ⟨env,H,s.nb+32*i,s.N,s.np⟩=some e:=by
   refine aFH st.ev (fun t ht=> ?_) (fun id hid=> ?_) st.nb.symm st.np.symm
   ·show lk env t=_;rw[m.look t,st.env t];refine same _ _ (fun j p f _ hp hf hw ha _=> ?_) (fun j p f _ hp hf hw ha _=> ?_) (exS t)
    ·exact(Oper.apart_spec ha).1 t (dS t j p f hp hf hw) ht
    ·exact(Oper.apart_spec ha).2.2 t (dS t j p f hp hf hw) ht
   ·exact hrds id hid
  have hfresh:yQ g (s.nb+32*i) e:=fun id hid hle=>m.free i hin hpi id hle (MX st.ids hid);have key:=a7g hT hΓ (ops:=ops.toList) (o:=o) (a:=a) (s:=⟨env,H,s.nb+32*i,s.N,s.np⟩) (K:=wpAnyIn (DF ro) 0 P .any ops Q fuel (listed.setIfInBounds i true)) (Q:=Q) m.eok m.heap hev (fun p hp=>hs p (st.side p hp)) hfresh (fun g' w' v k=>by
   refine ih (listed.setIfInBounds i true) g' w' (a.put o.dst v) (sQ o.dst e.slot env) (pF e.upd H) ?_ ⟨by rw[Array.size_setIfInBounds];exact m.size,hcl',WV m.eok k.le k.slot m.tmps st.dst,fun t=> ?_,k.heap,fun id=> ?_,(a7k _ _ _).trans m.tmps,by rw[a7l];exact m.def_.eff m.heap k,m.good.eff k (m.len▸(MV hev).2),m.len,fun j hj hjp id h1 h2=> ?_,fun id hid=> ?_⟩
   ·have:=a7Q hil hpi hin;omega
   ·rw[a7F,X0 (p:=fun j=>listed.getD j false) (i:=i) hpi (fun j=>by simp only[EP hil]) hin (fun j hij hj hl=> ?_),<-m.look t]
    ·unfold AE;rw[hoL,he];simp only;split<;>rfl
    ·have hpj:ops.toList[j]? =some ops[j]:=by simp [hj]
     obtain⟨f,hf⟩: ∃f,es[j]? =some f:=⟨es[j]'(by rw[run.len,hsz];exact hj),by simp⟩;obtain⟨h3,_⟩:=pairGt j _ f hij hpj hf hl;by_cases hw:AE ops.toList es t j=none
     ·exact .inl hw
     ·right;have hd:=dS t j _ f hpj hf hw;by_cases hwi:AE ops.toList es t i=none
      ·exact hwi
      ·have hdi:=dS t i _ e hoL he hwi;exact absurd hd ((Oper.apart_spec h3).2.1 t hdi)
   ·rw[X3,X0 (p:=fun j=>listed.getD j false) (i:=i) hpi (fun j=>by simp only[EP hil]) hin (fun j hij hj hl=> ?_),<-m.get id]
    ·unfold AF;rw[he];simp only;by_cases h7:id∈pB (BQ e)
     ·rw[aMI h7,aMI (R3.1 h7).1];rfl
     ·rw[aMK h7];by_cases h8:id∈pB e.upd
      ·obtain⟨q1,q2⟩:=st.same id h8 h7;rw[aMI h8,q1,<-hrds id q2];rfl
      ·rw[aMK h8];rfl
    ·have hpj:ops.toList[j]? =some ops[j]:=by simp [hj]
     obtain⟨f,hf⟩: ∃f,es[j]? =some f:=⟨es[j]'(by rw[run.len,hsz];exact hj),by simp⟩;obtain⟨_,h3⟩:=pairGt j _ f hij hpj hf hl;by_cases hw:AF es id j=none
     ·exact .inl hw
     ·right;have hd:=dH id j f hf hw;by_cases hwi:AF es id i=none
      ·exact hwi
      ·have hdi:=dH id i e he hwi;exact absurd (R3.1 hd).1 ((X5 h3).1 id hdi).2
   ·rw[EP hil] at hjp;have hji:j≠i:=fun h=>by rw[aMI h] at hjp;cases hjp
    rw[aMK hji] at hjp;have hnot:id∉pB e.upd:=by
     intro hm;have hlt:=MX st.ids hm;rcases Nat.lt_or_gt_of_ne hji with h3|h3
     ·obtain⟨f,hf⟩: ∃f,es[j]? =some f:=⟨es[j]'(by rw[run.len,hsz];exact hj),by simp⟩;rcases pairLt j ops[j] f h3 (by simp [hj]) hf with h4|h4
      ·rw[hjp] at h4;cases h4
      ·have:=a7K h4.2.2 id hm;omega
     ·omega
    have hg:=k.gho id hnot;have hb:=m.free j hj hjp id h1 h2;exact⟨hg.1.trans hb.1,fun n=>by rw[hg.2];exact hb.2 n⟩
   ·have hnot:id∉pB e.upd:=fun hm=>by have:=MX st.ids hm;omega
    have hg:=k.gho id hnot;have hb:=m.top id hid;exact⟨hg.1.trans hb.1,fun n=>by rw[hg.2];exact hb.2 n⟩)
  unfold wpOpIn;rw[ho];simp only[aOc] at key⊢;split at key
  ·rename_i hw;rw[aMI hw];exact a7p (a7o hev) key
  ·rename_i hw;rw[aMK hw];exact⟨fun _ _=>trivial,key⟩
theorem aFL {ro:Option Nat}(hm:P.follows .mixedOrders=true) {id:Nat}{ops:Array Oper}{s:St}{y:uP}{a:Act}{w:World}{g:Gh}(h:uQ T Γ ops.toList ops.toList (some ⟨s,[],[]⟩)=some y) (hchk:DB ops s.nb y.es.reverse=true) (hs: ∀p∈y.side,p) (hr:tT B g w s a) (hg:s3 A L g0 w0 g w s.H) (hn:L.length=s.np)
  (hQ: ∀g' a' w',tT B g' w' y.s a'->s3 A L g0 w0 g' w' y.s.H->Q .normal a' w'):(Code.region id ops true).wpIn (DF ro) 0 P Q a w:=by
 obtain⟨es,h1,run⟩:=a7H h hs;have hes:y.es.reverse=es:=by rw[h1];simp
 simp only at run;rw[hes] at hchk;have hsd:=HZ h;have hrep: ∀j,(Array.replicate ops.size false).getD j false=false:=by
  intro j;rw[aNj,Array.getElem?_replicate];split<;>rfl
 have none: ∀{α:Type}(wr:Nat->Option α) (b:α) n,uC (fun j=>(Array.replicate ops.size false).getD j false) wr b n=b:=by
  intro α wr b n
  induction n with
  |zero=>rfl
  |succ n ih=>simp only[uC];rw[aMK (by rw[hrep];simp)];exact ih
 have hsz:ops.toList.length=ops.size:=aNi;refine wpIn_region_any hm (aFK hT hΓ run hs hchk (fun g' a' w' env H he hl hh hgt hz hd hgd htop=> ?_) _ _ g _ a s.env s.H ?_ ⟨by simp,fun j o ho hj=> ?_,fun t=>A9 (a7S g w _) (hr.env t),fun t=> ?_,hr.heap.drawn _,fun id=> ?_,hr.size,hr.def_.same (fun _ h=>h),hg.drawn _,hn,fun j _ _ id h1 _=>hr.nb id (by omega),fun id h1=>hr.nb id (by omega)⟩)
 ·refine hQ g' a' w' ⟨fun t=>by rw[<-hl t];exact he t,hh.ext (fun i=>(hgt i).symm),by rw[hsd.2.1];exact hz,fun i hi=>htop i ?_,hd,?_⟩ (hgd.ext (fun i=>(hgt i).symm))
  ·rw[run.nb,hsz] at hi;exact hi
  ·rw[hsd.2.2,run.nb];exact aNC hr.np (Nat.le_add_right _ _)
 ·have: ∀n (l:Array Bool),BU l n<=n:=by
   intro n l
   induction n with
   |zero=>exact aM2 _
   |succ n ih=>simp only[BU];split<;>omega
  exact this _ _
 ·simp only[hrep] at hj;cases hj
 ·rw[none]
 ·exact(none _ _ _).symm
end
theorem X7: ∀{l:List Prop},qE l->∀p∈l,p
 |[p],h,q,hq=>by simp only[aMW] at hq;subst hq;exact h
 |p::q::r,h,x,hx=>by
  rcases aM1.1 hx with rfl|hx
  ·exact h.1
  ·exact X7 h.2 x hx
theorem a7U {p:Nat->Prop}(h: ∃n,p n): ∃n,p n/\∀m,p m->n<=m:=by
 obtain⟨n,hn⟩:=h
 induction n using Nat.strongRecOn with
 |_ n ih=>
  by_cases hs: ∃m,m<n/\p m
  ·obtain⟨m,hm,hp⟩:=hs;exact ih m hm hp
  ·exact⟨n,hn,fun m hm=>Nat.le_of_not_lt fun hlt=>hs ⟨m,hlt,hm⟩⟩
noncomputable def MY (p:Nat->Prop):Nat:=open Classical in if h: ∃n,p n then(a7U h).choose else 0
theorem R5 {p:Nat->Prop}(h: ∃n,p n):p (MY p)/\∀m,p m->MY p<=m:=by
 unfold MY;rw[aOR h];exact(a7U h).choose_spec
def BV:Exit->Option Ex
 | .normal=>some .normal
 | .exit id=>some (.exit id)
 | .ret=>some .ret
 |_=>none
def a7V (B:Nat) (A:Nat->Nat->Prop) (L:List oX) (g0:Gh) (w0:World) (Q:Ex->St->Prop) (x:Exit) (a:Act) (w:World):Prop:=
 ∃e g s,BV x=some e/\Q e s/\tT B g w s a/\s3 A L g0 w0 g w s.H/\s.np=L.length
section
variable {B:Nat}{P:Program}{T:rO}{Γ:sZ}(hT:vK P T) (hΓ:CM P Γ) (hm:P.follows .mixedOrders=true) {A:Nat->Nat->Prop}{L:List oX}{g0:Gh}{w0:World}
include hT hΓ hm
theorem EQ {ro:Option Nat}: ∀(c:Code) (s:St) (Q:Ex->St->Prop) (g:Gh) (a:Act) (w:World),uR T Γ c s Q->tT B g w s a->s3 A L g0 w0 g w s.H->s.np=L.length->c.wpIn (DF ro) 0 P (a7V B A L g0 w0 Q) a w
 | .skip,s,Q,g,a,w,h,hr,hg,hn=>by
  unfold uR at h;exact wpIn_skip ⟨.normal,g,s,rfl,h,hr,hg,hn⟩
 | .label l,s,Q,g,a,w,h,hr,hg,hn=>by
  unfold uR at h;exact wpIn_label ⟨.normal,g,s,rfl,h,hr,hg,hn⟩
 | .exit id,s,Q,g,a,w,h,hr,hg,hn=>by
  unfold uR at h;exact wpIn_exit ⟨.exit id,g,s,rfl,h,hr,hg,hn⟩
 | .ret,s,Q,g,a,w,h,hr,hg,hn=>by
  unfold uR at h;exact wpIn_ret ⟨.ret,g,s,rfl,h,hr,hg,hn⟩
 | .region id ops draw,s,Q,g,a,w,h,hr,hg,hn=>by
  unfold uR at h;cases draw with
  |false=>
   simp only[M6] at h;cases hy:uQ T Γ ops.toList ops.toList (some ⟨s,[],[]⟩) with
   |none=>rw[hy] at h;cases h
   |some y=>
    rw[hy] at h;refine aFw hT hΓ hy (X7 h.1) hr hg hn.symm (fun g' a' w' hr' hg'=>⟨.normal,g',y.s,rfl,h.2,hr',hg',(HZ hy).2.2.trans hn⟩)
  |true=>
   simp only[M6] at h;cases hy:uQ T Γ ops.toList ops.toList (some ⟨s,[],[]⟩) with
   |none=>rw[hy] at h;cases h
   |some y=>
    rw[hy] at h;simp only[a5N] at h;by_cases hc:DB ops s.nb y.es.reverse=true
    ·rw[aMI hc] at h;refine aFL hT hΓ hm hy hc (X7 h.1) hr hg hn.symm (fun g' a' w' hr' hg'=>⟨.normal,g',y.s,rfl,h.2,hr',hg',(HZ hy).2.2.trans hn⟩)
    ·rw[aMK hc] at h;cases h
 | .seq x y,s,Q,g,a,w,h,hr,hg,hn=>by
  unfold uR at h;refine wpIn_seq (aOn (EQ x s _ g a w h hr hg hn) fun e a' w' hp=> ?_);obtain⟨e',g',s',h1,h2,h3,h4,h5⟩:=hp;cases e<;>simp only[BV,aMJ] at h1
  case normal=>subst h1;exact EQ y s' Q g' a' w' h2 h3 h4 h5
  case exit id=>subst h1;exact⟨.exit id,g',s',rfl,h2,h3,h4,h5⟩
  case ret=>subst h1;exact⟨.ret,g',s',rfl,h2,h3,h4,h5⟩
  all_goals cases h1
 | .cond c x y,s,Q,g,a,w,h,hr,hg,hn=>by
  unfold uR at h;have hc:=yT hr.env c;generalize sM s.env c=sc at h hc;unfold a5U at h;split at h
  ·exact wpIn_cond_split (vL hc.1) (fun ht=>EQ x s Q g a w (h.1 ht) hr hg hn) (fun ht=>EQ y s Q g a w (h.2 ht) hr hg hn)
  ·obtain⟨b,hb,hp,hq⟩:=hc.1;exact wpIn_cond_split hb (fun ht=>EQ x s Q g a w (h.1 (hp ht)) hr hg hn) (fun ht=>EQ y s Q g a w (h.2 (hq ht)) hr hg hn)
  ·cases h
 | .block id c,s,Q,g,a,w,h,hr,hg,hn=>by
  unfold uR at h;refine wpIn_block (aOn (EQ c s _ g a w h hr hg hn) fun e a' w' hp=> ?_);obtain⟨e',g',s',h1,h2,h3,h4,h5⟩:=hp;cases e<;>simp only[BV,aMJ] at h1
  case normal=>subst h1;exact⟨.normal,g',s',rfl,h2,h3,h4,h5⟩
  case exit j=>
   subst h1;simp only[FY] at h2;simp only[Exit.inBlock];split
   ·rename_i hj;rw[aMI hj] at h2;exact⟨.normal,g',s',rfl,h2,h3,h4,h5⟩
   ·rename_i hj;rw[aMK hj] at h2;exact⟨.exit j,g',s',rfl,h2,h3,h4,h5⟩
  case ret=>subst h1;exact⟨.ret,g',s',rfl,h2,h3,h4,h5⟩
  all_goals cases h1
 | .loop c,s,Q,g,a,w,h,hr,hg,hn=>by
  unfold uR at h;obtain⟨k,I,μ,h0,hround⟩:=h;obtain⟨g1,k1,k2,k3,_⟩:=EO hr hg hn k
  let R:Act->World->Nat->Prop:=fun a w n=> ∃g s,I s/\μ s=n/\tT B g w s a/\s3 A L g0 w0 g w s.H/\s.np=L.length
  refine wpIn_loop (fun a w=> ∃n,R a w n) (fun a w=>MY (R a w)) ⟨_,g1,s.keep k,h0,rfl,k1,k2,k3⟩ (fun a w hI=> ?_);obtain⟨⟨g2,s2,i1,i2,i3,i4,i5⟩,_⟩:=R5 hI;refine aOn (EQ c s2 _ g2 a w (hround s2 i1) i3 i4 i5) fun e a' w' hp=> ?_;obtain⟨e',g',s',h1,h2,h3,h4,h5⟩:=hp;cases e<;>simp only[BV,aMJ] at h1
  case normal=>
   subst h1;obtain⟨k',j1,j2⟩:=h2;obtain⟨g3,l1,l2,l3,_⟩:=EO h3 h4 h5 k';have hR:R a' w' (μ (s'.keep k')):=⟨g3,s'.keep k',j1,rfl,l1,l2,l3⟩;refine⟨⟨_,hR⟩,Nat.lt_of_le_of_lt ((R5 ⟨_,hR⟩).2 _ hR) (by rw[<-i2];exact j2)⟩
  case exit id=>subst h1;exact⟨.exit id,g',s',rfl,h2,h3,h4,h5⟩
  case ret=>subst h1;exact⟨.ret,g',s',rfl,h2,h3,h4,h5⟩
  all_goals cases h1
 | .rangeFunc _ _ _ _,_,_,_,_,_,h,_,_,_=>by unfold uR at h;cases h
 | .scope _,_,_,_,_,_,h,_,_,_=>by unfold uR at h;cases h
 | .goto _,_,_,_,_,_,h,_,_,_=>by unfold uR at h;cases h
 | .refuse _,_,_,_,_,_,h,_,_,_=>by unfold uR at h;cases h
end
section
variable {f:St->Prop}{Q:Ex->St->Prop}{s:St}{id j:Nat}{I:St->Prop}{μ:St->Nat}{m:Nat}
theorem pM (h:f s):M9 f Q .normal s:=h
theorem wC (h:Q (.exit j) s):M9 f Q (.exit j) s:=h
theorem rI (h:Q .ret s):M9 f Q .ret s:=h
theorem qV (h:Q .normal s):FY id Q .normal s:=h
theorem wL (h:Q .normal s):FY id Q (.exit id) s:=by show (if id=id then Q .normal s else Q (.exit id) s);rw[aMI rfl];exact h
theorem X8 (hne:j≠id) (h:Q (.exit j) s):FY id Q (.exit j) s:=by show (if j=id then Q .normal s else Q (.exit j) s);rw[aMK hne];exact h
theorem rS (h:Q .ret s):FY id Q .ret s:=h
end
@[go_sem] def qI:Nat->List oZ->List (Nat×oZ)
 |_,[]=>[]
 |c,s::r=>(c,s)::qI (c+1) r
@[go_sem] def uD:Nat->List oX->List (Nat×Nat)
 |_,[]=>[]
 |c,_::L=>(c,c)::uD (c+1) L
@[go_sem] def MZ (m:List (Nat×Nat)):List oZ->Prop
 |[]=>True
 |s::r=>yM m s=s/\MZ m r
@[go_sem] def N0 (m:List (Nat×Nat)):List oX->Prop
 |[]=>True
 | .dead::_=>False
 |b::r=>FX m (some b)=b/\N0 m r
def qK:List oX->Prop
 |[]=>True
 | .row _ _ l n::r=>n=List.length l/\qK r
 |_::r=>qK r
theorem a7W {g:Gh}{w:World}: ∀{L:List oX},(∀(i:Nat) b,L[i]? =some b->∃j,yO g w j b)->qK L
 |[],_=>trivial
 |b::L,h=>by
  have h1:=a7W (L:=L) fun i b' hb=>h (i+1) b' (by simpa using hb);obtain⟨j,h0⟩:=h 0 b rfl;cases b with
  |row e t l n=>exact⟨h0.1.symm,h1⟩
  |_=>exact h1
def X9:List Value->Value
 |[v]=>v
 |l=> .tuple l.toArray
@[go_sem] def a7X (env:List (Nat×oZ)):List Nat->List oZ
 |[]=>[]
 |t::r=>lk env t::a7X env r
attribute [go_sem] pG
@[go_sem] def aFM:oZ->Int
 |(.val (.int _) n,_)=>n
 |_=>0
@[go_sem] def Fin (ts:List Nat) (r:pD):Ex->St->Prop
 | .exit _,_=>False
 |_,s=> ∃k:uL,(s.keep k).H=pG 0 r.H/\a7X (s.keep k).env ts=r.ret
theorem a7Y: ∀(l:List oZ) (c t:Nat),lk (qI c l) t=if c<=t then(l[t-c]?).getD (.any,none) else(.any,none)
 |[],c,t=>by simp [qI,lk]
 |s::l,c,t=>by
  simp only[qI,lk];by_cases h:c=t
  ·subst h;simp
  ·rw[aMK h,a7Y l (c+1) t];by_cases h2:c<=t
   ·rw[aMI h2,aMI (by omega)];obtain⟨d,hd⟩: ∃d,t-c=d+1:=⟨t-c-1,by omega⟩;rw[hd,aNk,show t- (c+1)=d by omega]
   ·rw[aMK h2,aMK (by omega)]
theorem JY: ∀{L:List oX}{c i j:Nat},(i,j)∈uD c L↔i=j/\c<=i/\i<c+L.length
 |[],c,i,j=>by simp only[uD,aOo,aNw,false_iff];omega
 |b::L,c,i,j=>by
  simp only[uD,aM1,aM9,JY,aMO];omega
theorem R6: ∀{L:List oX}{c:Nat},vU 0 (uD c L)=true
 |[],_=>rfl
 |b::L,c=>by
  simp only[uD,vU,aMS];refine⟨⟨by simp,?_⟩,R6⟩;have: ∀{m:List (Nat×Nat)},(∀i j,(i,j)∈m->i≠c/\j≠c)->JJ c c m=false:=by
   intro m
   induction m with
   |nil=>intro _;rfl
   |cons q m ih=>
    intro h;obtain⟨i,j⟩:=q;have:=h i j (by simp);simp only[JJ,ih (fun i j hm=>h i j (aM4 _ hm)),decide_eq_false this.1,decide_eq_false this.2];rfl
  rw[this]
  ·rfl
  ·intro i j hm;obtain⟨rfl,h1,_⟩:=JY.1 hm;omega
theorem a7Z {m:List (Nat×Nat)}: ∀{l:List oZ},MZ m l->∀s∈l,yM m s=s
 |x::l,h,s,hs=>by
  rcases aM1.1 hs with rfl|hs
  ·exact h.1
  ·exact a7Z h.2 s hs
theorem I0 {m:List (Nat×Nat)}: ∀{l:List oX},N0 m l->∀b∈l,FX m (some b)=b/\b≠.dead
 |x::l,h,b,hb=>by
  cases x with
  |dead=>exact h.elim
  |cells t y ts=>
   rcases aM1.1 hb with rfl|hb
   ·exact⟨h.1,fun h=>by cases h⟩
   ·exact I0 h.2 b hb
  |row e t l n=>
   rcases aM1.1 hb with rfl|hb
   ·exact⟨h.1,fun h=>by cases h⟩
   ·exact I0 h.2 b hb
  |map k v l=>
   rcases aM1.1 hb with rfl|hb
   ·exact⟨h.1,fun h=>by cases h⟩
   ·exact I0 h.2 b hb
  |iter s n=>
   rcases aM1.1 hb with rfl|hb
   ·exact⟨h.1,fun h=>by cases h⟩
   ·exact I0 h.2 b hb
  |grow e c n=>
   rcases aM1.1 hb with rfl|hb
   ·exact⟨h.1,fun h=>by cases h⟩
   ·exact I0 h.2 b hb
theorem R7 {g:Gh}{w:World}: ∀{ss:List oZ}{vs:List Value},uB g w ss vs->vs.length=ss.length/\∀(i:Nat) s,ss[i]? =some s->∃v,vs[i]? =some v/\pW g w s v
 |[],vs,h=>by rw[show vs=[] from h];exact⟨rfl,fun i s h=>by simp at h⟩
 |s::ss,vs,⟨v,vs',e,h1,h2⟩=>by
  subst e;obtain⟨h3,h4⟩:=R7 h2;refine⟨by simp [h3],fun i s' hi=> ?_⟩;cases i with
  |zero=>simp only[aNe,aMJ] at hi;subst hi;exact⟨v,rfl,h1⟩
  |succ i=>simp only[aNk] at hi⊢;exact h4 i s' hi
theorem R9: ∀(L:List oX),pN L=L.length
 |[]=>rfl
 |_::L=>by simp only[pN,aMO,R9 L]
theorem XA {g:Gh}{w:World}{args:List oZ}{vals:List Value}{L:List oX}{N:Nat}(hH:rH g w (pG 0 L)) (ha:uB g w args vals) (hs:MZ (uD 0 L) args) (hb:N0 (uD 0 L) L) (hN:args.length<=N):
  tT w.heap.size (t8 g 0 (uD 0 L)) w ⟨qI 0 args,pG 0 L,pN L,N,pN L⟩ {tmps:=vals.toArray++Array.replicate (N-vals.toArray.size) undef,defers:=[]}/\
  (∀i blk,L[i]? =some blk->(t8 g 0 (uD 0 L)).J i=g.J i/\yO (t8 g 0 (uD 0 L)) w i blk/\∀b o,qP (t8 g 0 (uD 0 L)) i blk b o->qP g i blk b o):=by
 have hk:vU 0 (uD 0 L)=true:=R6;have hmem: ∀i blk,L[i]? =some blk->(i,i)∈uD 0 L:=fun i blk h=>JY.2 ⟨rfl,by omega,by have:=(aMX.1 h).1;omega⟩;have hblk: ∀i blk,L[i]? =some blk->yO (t8 g 0 (uD 0 L)) w i blk/\∀b o,qP (t8 g 0 (uD 0 L)) i blk b o->qP g i blk b o:=by
  intro i blk h;have hr:=(I0 hb blk (List.mem_of_getElem? h)).1;have:=HY (g:=g) (w:=w) hk (hmem i blk h) (b:=some blk) (fun c hc=>by cases hc;exact hH.blk i blk (by rw[wB];exact h));rw[hr] at this;exact⟨this.1,fun b o ho=>by obtain⟨c,hc,hco⟩:=this.2 b o ho;cases hc;exact hco⟩
 obtain⟨hl,hv⟩:=R7 ha;refine⟨⟨fun t=> ?_,⟨fun i b h=> ?_,fun i j bi bj b o hij h1 h2 o1 o2=> ?_,hH.sl,hH.tab.1,fun i blk b o hg ho=>hH.tab.2 i blk b o hg ((hblk i blk (by rw[<-wB];exact hg)).2 b o ho)⟩,?_,fun i hi=> ?_,a7e _ _,aM2 _⟩,fun i blk h=>⟨(zQ hk (hmem i blk h)).1,hblk i blk h⟩⟩
 ·rw[a7Y,aMI (aNt _),Nat.sub_zero];cases ht:args[t]? with
  |none=>exact⟨trivial,trivial⟩
  |some s=>
   obtain⟨v,hv1,hv2⟩:=hv t s ht;have hlt:t<vals.length:=(aMX.1 hv1).1;have:(vals.toArray++Array.replicate (N-vals.toArray.size) undef).getD t undef=v:=by
    rw[aNj,Array.getElem?_append_left (by simpa using hlt)];simp [hv1]
   simp only[aN1];rw[this];have:=R1 hk hv2;rw[a7Z hs s (List.mem_of_getElem? ht)] at this;exact this
 ·rw[wB] at h;exact(hblk i b h).1
 ·rw[wB] at h1 h2;exact hH.dis i j bi bj b o hij (by rw[wB];exact h1) (by rw[wB];exact h2) ((hblk i bi h1).2 b o o1) ((hblk j bj h2).2 b o o2)
 ·simp only[aOO,Array.size_replicate,aNA];omega
 ·have hold:xW (uD 0 L) i=none:=by
   cases ho:xW (uD 0 L) i with
   |none=>rfl
   |some o=>
    obtain⟨rfl,_,h2⟩:=JY.1 (WT ho);have hi:pN L<=i:=hi;rw[R9] at hi;omega
  refine⟨?_,fun n=> ?_⟩
  ·show (if i<0 then g.J i else(xW (uD 0 L) i).bind g.J)=none;rw[aMK (by omega),hold];rfl
  ·show (if i<0 then g.cur i n else(xW (uD 0 L) i).bind fun o=>g.cur o n)=none;rw[aMK (by omega),hold];rfl
structure tN (B:Nat) (w w':World):Prop where
 os:w'.os=w.os
 tape:w'.tape=w.tape
 output:w'.output=w.output
 size:w.heap.size<=w'.heap.size
 blk: ∀b,b<w.heap.size->w'.heap[b]? =w.heap[b]? \/(B<=b/\NG<=b/\∃o o',w.heap[b]? =some o/\w'.heap[b]? =some o'/\EN o=true/\EN o'=true)
theorem a71 {w:World}{b:Nat}{ob:Obj}(hd:w.heap[b]? =some ob) (hm:EN ob=true) (o:Nat):w.frozen? ⟨b,o,none⟩=false:=by
 unfold World.frozen?;simp only[hd];cases ob<;>first|rfl|cases hm
theorem aFN {w:World}{b:Nat}{ob:Obj}(hd:w.heap[b]? =some ob) (hm:EN ob=true):w.shape? b=none:=by
 unfold World.shape?;simp only[hd];cases ob<;>first|rfl|cases hm
section
variable {B:Nat}{w w' w'':World}
theorem tN.refl (B:Nat) (w:World):tN B w w:=⟨rfl,rfl,rfl,aM2 _,fun _ _=> .inl rfl⟩
theorem tN.trans (h:tN B w w') (k:tN B w' w''):tN B w w'':=by
 refine⟨k.os.trans h.os,k.tape.trans h.tape,k.output.trans h.output,aNC h.size k.size,fun b hb=> ?_⟩;rcases k.blk b (aNm hb h.size) with k1|⟨k0,k1,o,o',k2,k3,k4,k5⟩
 ·rcases h.blk b hb with h1|⟨h0,h1,o,o',h2,h3,h4,h5⟩
  ·exact .inl (k1.trans h1)
  ·exact .inr ⟨h0,h1,o,o',h2,k1.trans h3,h4,h5⟩
 ·rcases h.blk b hb with h1|⟨h0,h1,p,p',h2,h3,h4,h5⟩
  ·exact .inr ⟨k0,k1,o,o',h1▸k2,k3,k4,k5⟩
  ·exact .inr ⟨h0,h1,p,o',h2,k3,h4,k5⟩
theorem tN.cell (t:tN B w w') {b:Nat}(hb:b<w.heap.size) (o:Nat):w'.cell? ⟨b,o,none⟩=w.cell? ⟨b,o,none⟩/\w'.frozen? ⟨b,o,none⟩=w.frozen? ⟨b,o,none⟩:=by
 rcases t.blk b hb with h|⟨_,_,o1,o2,h1,h2,m1,m2⟩
 ·exact⟨aM7 h,by unfold World.frozen?;simp only[h]⟩
 ·exact⟨by rw[WO h1 m1,WO h2 m2],by rw[a71 h1 m1,a71 h2 m2]⟩
theorem tN.shape (t:tN B w w') {b:Nat}{s:TypeId×Nat}(h:w.shape? b=some s):w'.shape? b=some s:=by
 have hb:b<w.heap.size:=by
  unfold World.shape? at h;cases hx:w.heap[b]? with
  |none=>rw[hx] at h;cases h
  |some _=>exact(aNc.1 hx).1
 rcases t.blk b hb with k|⟨_,_,o1,o2,h1,h2,m1,m2⟩
 ·unfold World.shape? at h⊢;rw[k];exact h
 ·rw[aFN h1 m1] at h;cases h
theorem tN.le (t:tN B w w') {g:Gh}(hs: ∀b o,g.S b o->b<w.heap.size):Le g w g w':=⟨fun _ _ h=>h,fun b o h=>(t.cell (hs b o h) o).1,fun _ _ h=>h,fun _ _ _ h=>h⟩
theorem tN.heapOk (t:tN B w w') {g:Gh}{H:qO}(h:rH g w H):rH g w' H:=by
 have own: ∀{i blk b o},p9 H i=some blk->qP g i blk b o->w'.heap[b]? =w.heap[b]? :=fun hg ho=>by
  rcases t.blk _ (MF (h.blk _ _ hg) ho) with k|⟨_,_,o1,o2,h1,_,m1,_⟩
  ·exact k
  ·exact(QY (h.blk _ _ hg) ho h1 m1).elim
 refine⟨fun i blk hb=>HQ (h.blk i blk hb) (t.le h.sl) rfl rfl (fun b o ho=>t.cell (MF (h.blk i blk hb) ho) o) (fun b ho=>own hb (ho 0)) (fun _ _ _ x=>x) (fun b o s _ x=>t.shape x),h.dis,fun b o x=>aNm (h.sl b o x) t.size,LP h.tab.1 t.size (fun b hb=> ?_),h.tab.2⟩;rcases t.blk b (aNm hb h.tab.1.1) with k|⟨_,k,_⟩
 ·exact k
 ·omega
theorem tT.turn {g:Gh}{s:St}{a:Act}{ds:List Deferred}(h:tT B g w s a) (t:tN B w w') (hd:xV B w' ds):tT B g w' s {a with defers:=ds}:=
 ⟨fun x=>A9 (t.le h.heap.sl) (h.env x),t.heapOk h.heap,h.size,h.nb,hd,h.np⟩
theorem s3.turn {A:Nat->Nat->Prop}{L:List oX}{g0 g:Gh}{w0:World}{H:qO}(h:s3 A L g0 w0 g w H) (hs: ∀b o,g.S b o->b<w.heap.size) (t:tN w0.heap.size w w'):s3 A L g0 w0 g w' H:=by
 refine⟨fun b o x=>⟨(h.shut b o x).1,(t.cell (hs b o (h.shut b o x).1) o).1.trans (h.shut b o x).2⟩,⟨t.os.trans h.fr.os,t.tape.trans h.fr.tape,t.output.trans h.fr.output,aNC h.fr.size t.size,fun b hb hA=> ?_,fun b o hb hA=> ?_,h.fr.new,fun b s x=> ?_⟩,h.perm,h.J,h.live,h.ty,h.cur⟩
 ·rcases t.blk b (aNm hb h.fr.size) with k|⟨k,_⟩
  ·exact k.trans (h.fr.blk b hb hA)
  ·omega
 ·have:=t.cell (aNm hb h.fr.size) o;have k:=h.fr.cell b o hb hA;exact⟨this.1.trans k.1,this.2.trans k.2⟩
 ·rcases h.fr.shape b s x with k|k
  ·exact .inl (t.shape k)
  ·exact .inr k
end
theorem a73 {P:Program}{fn:Func}{R:Ending->World->Prop}{A:Nat->Nat->Prop}{L:List oX}{g0 g:Gh}{w0:World}{s:St}{tmps:Array Value}: ∀(ds:List Deferred) (w:World),tT w0.heap.size g w s {tmps:=tmps,defers:=ds}->s3 A L g0 w0 g w s.H->
  (∀w',tT w0.heap.size g w' s {tmps:=tmps,defers:=[]}->s3 A L g0 w0 g w' s.H->∃v,(results fn tmps).run P w'= .ok v w'/\R (.returned v) w')->LeavesInM Fence.wide 0 P fn tmps R ds .returning w
 |[],w,hr,hg,h=>h w hr hg
 |d::ds,w,hr,hg,h=>by
  obtain⟨hnd,hall⟩:=hr.def_;obtain⟨D,rfl,h1,h2,h3⟩:=hall d aNf;have hlt:=(aNc.1 h3).1;have t:tN w0.heap.size w (w.putObj D (.deferred none)):=by
   refine⟨rfl,rfl,rfl,by simp [World.putObj],fun b hb=> ?_⟩;by_cases e:b=D
   ·subst e;exact .inr ⟨h1,h2,_,_,h3,World.putObj_heap_same hlt,rfl,rfl⟩
   ·exact .inl (World.putObj_heap_other e)
  have hd:xV w0.heap.size (w.putObj D (.deferred none)) ds:=by
   refine⟨(List.nodup_cons.1 hnd).2,fun d' hd'=> ?_⟩;obtain⟨D',rfl,k1,k2,k3⟩:=hall d' (aM4 _ hd');refine⟨D',rfl,k1,k2,?_⟩;rw[World.putObj_heap_other (fun e:D'=D=>(List.nodup_cons.1 hnd).1 (by subst e;exact hd'))];exact k3
  exact⟨by simp,.inl ⟨D,_,rfl,run_takeDeferred h3,a73 ds _ (hr.turn t hd) (hg.turn hr.heap.sl t) h⟩⟩
def Ev (R:Bool) (P:Program) (c:Code) (s:St) (Q:Ex->St->Prop):Prop:=
 ∀(ro:Option Nat),ro.isSome=R->
 ∀(A:Nat->Nat->Prop) (L:List oX) (g0:Gh) (w0:World) (g:Gh) (a:Act) (w:World) (B:Nat),B<=w0.heap.size->tT B g w s a->s3 A L g0 w0 g w s.H->s.np=L.length->c.wpIn (DF ro) 0 P (a7V B A L g0 w0 Q) a w
variable {R:Bool}
theorem a74 {P:Program}{T:rO}{Γ:sZ}(hT:vK P T) (hΓ:CM P Γ) (hm:P.follows .mixedOrders=true) {c:Code}{s:St}{Q:Ex->St->Prop}(h:uR T Γ c s Q):Ev R P c s Q:=
 fun ro hro A L g0 w0 g a w B hB hr hg hn=>EQ hT hΓ hm c s Q g a w h hr hg hn
structure qB (P:Program) (T:rO) (Γ:sZ):Prop where
 T:vK P T
 Γ:CM P Γ
 m:P.follows .mixedOrders=true
theorem aFO {P:Program}{c:Code}{s:St}{Q Q':Ex->St->Prop}(h:Ev R P c s Q') (hq: ∀e s,Q' e s->Q e s):Ev R P c s Q:=by
 intro ro hro A L g0 w0 g a w B hB hr hg hn;refine aOn (h ro hro A L g0 w0 g a w B hB hr hg hn) fun x a' w' hp=> ?_;obtain⟨e,g',s',h1,h2,h3,h4,h5⟩:=hp;exact⟨e,g',s',h1,hq e s' h2,h3,h4,h5⟩
theorem a75 {P:Program}{c:Code}{s:St}{Q:Ex->St->Prop}(k:uL) (h:Ev R P c (s.keep k) Q):Ev R P c s Q:=by
 intro ro hro A L g0 w0 g a w B hB hr hg hn;obtain⟨g1,k1,k2,k3,_⟩:=EO hr hg hn k;exact h ro hro A L g0 w0 g1 a w B hB k1 k2 k3
section
variable {P:Program}{s:St}{Q:Ex->St->Prop}
theorem qJ (h:Q .normal s):Ev R P .skip s Q:=fun _ _ _ _ _ _ g _ _ _ _ hr hg hn=>wpIn_skip ⟨.normal,g,s,rfl,h,hr,hg,hn⟩
theorem aFP {l:Nat}(h:Q .normal s):Ev R P (.label l) s Q:=fun _ _ _ _ _ _ g _ _ _ _ hr hg hn=>wpIn_label ⟨.normal,g,s,rfl,h,hr,hg,hn⟩
theorem vW {id:Nat}(h:Q (.exit id) s):Ev R P (.exit id) s Q:=fun _ _ _ _ _ _ g _ _ _ _ hr hg hn=>wpIn_exit ⟨.exit id,g,s,rfl,h,hr,hg,hn⟩
theorem pH (h:Q .ret s):Ev R P .ret s Q:=fun _ _ _ _ _ _ g _ _ _ _ hr hg hn=>wpIn_ret ⟨.ret,g,s,rfl,h,hr,hg,hn⟩
theorem pX {x y:Code}(h:Ev R P x s (M9 (fun s'=>Ev R P y s' Q) Q)):Ev R P (.seq x y) s Q:=by
 intro ro hro A L g0 w0 g a w B hB hr hg hn;refine wpIn_seq (aOn (h ro hro A L g0 w0 g a w B hB hr hg hn) fun e a' w' hp=> ?_);obtain⟨e',g',s',h1,h2,h3,h4,h5⟩:=hp;cases e<;>simp only[BV,aMJ] at h1
 case normal=>subst h1;exact h2 ro hro A L g0 w0 g' a' w' B hB h3 h4 h5
 case exit id=>subst h1;exact⟨.exit id,g',s',rfl,h2,h3,h4,h5⟩
 case ret=>subst h1;exact⟨.ret,g',s',rfl,h2,h3,h4,h5⟩
 all_goals cases h1
theorem aFQ {c:Operand}{x y:Code}{b:Bool}{k:Option Nat}(h:sM s.env c=(.val .bool b,k)) (ht:b=true->Ev R P x s Q) (hf:b=false->Ev R P y s Q):Ev R P (.cond c x y) s Q:=by
 intro ro hro A L g0 w0 g a w B hB hr hg hn;have hc:=yT hr.env c;rw[h] at hc;exact wpIn_cond_split (vL hc.1) (fun e=>ht e ro hro A L g0 w0 g a w B hB hr hg hn) (fun e=>hf e ro hro A L g0 w0 g a w B hB hr hg hn)
theorem a76 {c:Operand}{x y:Code}{p q:Prop}{k:Option Nat}(h:sM s.env c=(.flag p q,k)) (ht:p->Ev R P x s Q) (hf:q->Ev R P y s Q):Ev R P (.cond c x y) s Q:=by
 intro ro hro A L g0 w0 g a w B hB hr hg hn;have hc:=yT hr.env c;rw[h] at hc;obtain⟨b,hb,hp,hq⟩:=hc.1;exact wpIn_cond_split hb (fun e=>ht (hp e) ro hro A L g0 w0 g a w B hB hr hg hn) (fun e=>hf (hq e) ro hro A L g0 w0 g a w B hB hr hg hn)
theorem aFR {c:Code}(h:Ev false P c s Q):Ev false P (.scope c) s Q:=by
 intro ro hro A L g0 w0 g a w B hB hr hg hn;have hN:ro=none:=by cases ro<;>first|rfl|cases hro
 subst hN;refine(wpIn_wide (n:=0)).2 (wp_scope_straight ((wpIn_wide (n:=0)).1 (aOn (h none rfl A L g0 w0 g a w B hB hr hg hn) fun e a' w' hp=> ?_)));obtain⟨e',g',s',h1,h2,h3,h4,h5⟩:=hp;cases e<;>simp only[BV,aMJ] at h1
 all_goals first|(cases h1;done) |exact⟨e',g',s',by simp only[BV];rw[h1],h2,h3,h4,h5⟩
theorem rR {id:Nat}{c:Code}(h:Ev R P c s (FY id Q)):Ev R P (.block id c) s Q:=by
 intro ro hro A L g0 w0 g a w B hB hr hg hn;refine wpIn_block (aOn (h ro hro A L g0 w0 g a w B hB hr hg hn) fun e a' w' hp=> ?_);obtain⟨e',g',s',h1,h2,h3,h4,h5⟩:=hp;cases e<;>simp only[BV,aMJ] at h1
 case normal=>subst h1;exact⟨.normal,g',s',rfl,h2,h3,h4,h5⟩
 case exit j=>
  subst h1;simp only[FY] at h2;simp only[Exit.inBlock];split
  ·rename_i hj;rw[aMI hj] at h2;exact⟨.normal,g',s',rfl,h2,h3,h4,h5⟩
  ·rename_i hj;rw[aMK hj] at h2;exact⟨.exit j,g',s',rfl,h2,h3,h4,h5⟩
 case ret=>subst h1;exact⟨.ret,g',s',rfl,h2,h3,h4,h5⟩
 all_goals cases h1
end
@[go_sem] def RA (k:Nat) (t:Ty) (l:List t.den):oZ->oZ
 |(.own j m,x)=>if j=k then(.val (.list t) l,some k) else(.own j m,x)
 |s=>s
@[go_sem] def G4 (k:Nat) (t:Ty) (l:List t.den):List (Nat×oZ)->List (Nat×oZ)
 |[]=>[]
 |(i,s)::r=>(i,RA k t l s)::G4 k t l r
@[go_sem] def a77 (k n:Nat):oZ->Prop
 |(.own j m,_)=>j=k->m=n
 |_=>True
@[go_sem] def N1 (k n:Nat):List (Nat×oZ)->Prop
 |[]=>True
 |(_,s)::r=>a77 k n s/\N1 k n r
theorem XB {k:Nat}{t:Ty}{l:List t.den}: ∀{env:List (Nat×oZ)}{i:Nat},lk (G4 k t l env) i=RA k t l (lk env i)
 |[],i=>rfl
 |(j,s)::r,i=>by
  simp only[G4,lk];split
  ·rfl
  ·exact XB
theorem XC {k n:Nat}: ∀{env:List (Nat×oZ)}{i:Nat},N1 k n env->a77 k n (lk env i)
 |[],i,_=>trivial
 |(j,s)::r,i,⟨h1,h2⟩=>by
  simp only[lk];split
  ·exact h1
  ·exact XC h2
theorem XD {P:Program}{c:Code}{s:St}{Q:Ex->St->Prop}(k:Nat) {e:TypeId}{t:Ty}{l:List t.den}{n:Nat}(hk:p9 s.H k=some (.row e t l n)) (hok:N1 k n s.env)
  (h:Ev R P c ⟨G4 k t l s.env,(k,.grow e t.cells (List.length l))::s.H,s.nb,s.N,s.np⟩ Q):Ev R P c s Q:=by
 intro ro hro A L g0 w0 g a w B hB hr hg hn;obtain⟨hl,v,xs,hv,hown,hF,hnone,hseal⟩:=hr.heap.blk k _ hk
 let g':Gh:={g with S:=fun b o=>g.S b o\/(v.ownBlock=some b/\o<n*t.cells)}
 have le:Le g w g' w:=⟨fun _ _ h=> .inl h,fun _ _ _=>rfl,fun _ _ h=>h,fun _ _ _ h=>h⟩;have hown2: ∀b,v.ownBlock=some b->∀o,qP g k (.row e t l n) b o:=fun b hb o=>⟨v,hv,hb⟩;have hlist: ∀u,g.cur k n=some u->((u= .slice none 0 0/\n=0)\/∃b cap,u= .slice (some ⟨b,0,none⟩) n cap/\n<=cap)->rZ g' w (.list t) l u:=by
  intro u hu hshape;rw[hv] at hu;obtain rfl:=aML hu;rcases hshape with⟨rfl,h0⟩ |⟨b,cap,rfl,hcap⟩
  ·have:l=[]:=aNb (by rw[hl,h0]);subst this;exact .inr ⟨rfl,none,0,rfl,aM2 _,.inl rfl⟩
  ·refine .inr ⟨rfl,some ⟨b,0,none⟩,cap,by rw[hl],by rw[hl];exact hcap,.inr ⟨b,0,rfl,HU (B5 (fun _ _ h=>uX le h) hF) (fun j u hu=> ?_) (fun j hj=> ?_)⟩⟩
   ·have:=hown.cells (g:=b) rfl j u hu;rwa [aNW] at this
   ·right;exact⟨rfl,by rw[hl] at hj;omega⟩
 have hget: ∀i b,p9 ((k,oX.grow e t.cells (List.length l))::s.H) i=some b->(i=k/\b= .grow e t.cells (List.length l))\/(i≠k/\p9 s.H i=some b):=by
  intro i b hb;simp only[p9] at hb;split at hb
  ·rename_i e1;exact .inl ⟨e1.symm,(aML hb).symm⟩
  ·rename_i e1;exact .inr ⟨Ne.symm e1,hb⟩
 have howns: ∀i b bb o,p9 ((k,oX.grow e t.cells (List.length l))::s.H) i=some b->qP g' i b bb o->∃b0,p9 s.H i=some b0/\qP g i b0 bb o:=by
  intro i b bb o hb ho;rcases hget i b hb with⟨rfl,rfl⟩ |⟨_,h1⟩
  ·obtain⟨u,hu,hub⟩:=ho;have hu':g.cur i (List.length l)=some u:=hu;rw[hl] at hu';exact⟨_,hk,u,hu',hub⟩
  ·exact⟨b,h1,(x9 (g':=g') (g:=g) rfl rfl).1 ho⟩
 have hrel:tT B g' w ⟨G4 k t l s.env,(k,.grow e t.cells (List.length l))::s.H,s.nb,s.N,s.np⟩ a:=by
  refine⟨fun i=> ?_,⟨fun i b hb=> ?_,fun i j bi bj b o hij h1 h2 o1 o2=> ?_,fun b o hS=> ?_,hr.heap.tab.1,fun i b bb oo hb ho=>by
   obtain⟨c1,k1,k2⟩:=howns i b bb oo hb ho;exact hr.heap.tab.2 i c1 bb oo k1 k2⟩,hr.size,hr.nb,hr.def_,hr.np⟩
  ·rw[XB];have h1:=hr.env i;have h2:=XC (i:=i) hok;generalize lk s.env i=sl at h1 h2;obtain⟨d,x⟩:=sl;cases d with
   |own j m=>
    simp only[RA];split
    ·rename_i hj;subst hj;have hm:m=n:=h2 rfl;subst hm;refine⟨hlist _ h1.1.1 h1.1.2,?_⟩;show g'.cur j (List.length l)=_;rw[hl];exact h1.1.1
    ·exact A9 le h1
   |_=>exact A9 le h1
  ·rcases hget i b hb with⟨rfl,rfl⟩ |⟨hne,h1⟩
   ·refine⟨v,xs,by rw[hl];exact hv,by rw[hl];exact hown,fun m hm=>hnone m (by rw[hl] at hm;exact hm),fun b hb o hS=> ?_⟩;rw[hl];rcases hS with hS|hS
    ·exact absurd hS (hseal b hb o)
    ·exact hS.2
   ·exact HQ (hr.heap.blk i b h1) le rfl rfl (fun _ _ _=>⟨rfl,rfl⟩) (fun _ _=>rfl) (fun bb o ho hS=>by
     rcases hS with hS|hS
     ·exact hS
     ·exact absurd (hown2 bb hS.1 o) (fun h5=>hr.heap.dis i k b _ bb o hne h1 hk ho h5)) (fun _ _ _ _ h=>h)
  ·obtain⟨c1,k1,k2⟩:=howns i bi b o h1 o1;obtain⟨c2,k3,k4⟩:=howns j bj b o h2 o2;exact hr.heap.dis i j c1 c2 b o hij k1 k3 k2 k4
  ·rcases hS with hS|hS
   ·exact hr.heap.sl b o hS
   ·exact JM hown hS.1
 have hgood:s3 A L g0 w0 g' w ((k,.grow e t.cells (List.length l))::s.H):=by
  refine⟨fun b o h0=>⟨.inl (hg.shut b o h0).1,(hg.shut b o h0).2⟩,⟨hg.fr.os,hg.fr.tape,hg.fr.output,hg.fr.size,hg.fr.blk,hg.fr.cell,fun b o hS=> ?_,hg.fr.shape⟩,fun i b bb o hb ho=> ?_,hg.J,hg.live,fun i u y us hi hb=> ?_,hg.cur⟩
  ·rcases hS with hS|hS
   ·exact hg.fr.new b o hS
   ·exact .inr (hg.perm k _ b o hk (hown2 b hS.1 o))
  ·obtain⟨c1,k1,k2⟩:=howns i b bb o hb ho;exact hg.perm i c1 bb o k1 k2
  ·rcases hget i _ hb with⟨_,h1⟩ |⟨_,h1⟩
   ·cases h1
   ·exact hg.ty i u y us hi h1
 exact h ro hro A L g0 w0 g' a w B hB hrel hgood hn
theorem aFS {P:Program}{c:Code}{s:St}{Q:Ex->St->Prop}(k i:Nat) {e:TypeId}{t:Ty}{l:List t.den}{n:Nat}(hk:p9 s.H k=some (.row e t l n)) {u:Ty}{x:u.den}{toks:List (Nat×Nat)}(hi:p9 s.H i=some (.cells u x toks)) (hnp:s.np<=i)
  (hok:N1 k n s.env) (hxo:M2 k n u x)
  (h:Ev R P c ⟨G4 k t l s.env,(i,.cells (zO k t l u x).1 (zO k t l u x).2 [])::(k,.grow e t.cells (List.length l))::s.H,s.nb,s.N,s.np⟩ Q):Ev R P c s Q:=by
 intro ro hro A L g0 w0 g a w B hB hr hg hn;obtain⟨hl,v,xs,hv,hown,hF,hnone,hseal⟩:=hr.heap.blk k _ hk
 let g':Gh:={g with S:=fun b o=>g.S b o\/(v.ownBlock=some b/\o<n*t.cells)}
 have le:Le g w g' w:=⟨fun _ _ h=> .inl h,fun _ _ _=>rfl,fun _ _ h=>h,fun _ _ _ h=>h⟩;have hown2: ∀b,v.ownBlock=some b->∀o,qP g k (.row e t l n) b o:=fun b hb o=>⟨v,hv,hb⟩;have hlist: ∀u,g.cur k n=some u->((u= .slice none 0 0/\n=0)\/∃b cap,u= .slice (some ⟨b,0,none⟩) n cap/\n<=cap)->rZ g' w (.list t) l u:=by
  intro u hu hshape;rw[hv] at hu;obtain rfl:=aML hu;rcases hshape with⟨rfl,h0⟩ |⟨b,cap,rfl,hcap⟩
  ·have:l=[]:=aNb (by rw[hl,h0]);subst this;exact .inr ⟨rfl,none,0,rfl,aM2 _,.inl rfl⟩
  ·refine .inr ⟨rfl,some ⟨b,0,none⟩,cap,by rw[hl],by rw[hl];exact hcap,.inr ⟨b,0,rfl,HU (B5 (fun _ _ h=>uX le h) hF) (fun j u hu=> ?_) (fun j hj=> ?_)⟩⟩
   ·have:=hown.cells (g:=b) rfl j u hu;rwa [aNW] at this
   ·right;exact⟨rfl,by rw[hl] at hj;omega⟩
 have hik:i≠k:=fun e1=>by rw[e1,hk] at hi;cases hi
 obtain⟨p0,cs0,hp0,hR0,hra0,hth0,hns0,_⟩:=hr.heap.blk i _ hi
 let b':oX:= .cells (zO k t l u x).1 (zO k t l u x).2 []
 let H':qO:=(i,b')::(k,oX.grow e t.cells (List.length l))::s.H
 have hget: ∀i' b,p9 H' i'=some b->(i'=i/\b=b')\/(i'=k/\b= .grow e t.cells (List.length l))\/(i'≠k/\i'≠i/\p9 s.H i'=some b):=by
  intro i' b hb;simp only[H',p9] at hb;split at hb
  ·rename_i e1;exact .inl ⟨e1.symm,(aML hb).symm⟩
  ·rename_i e1;split at hb
   ·rename_i e2;exact .inr (.inl ⟨e2.symm,(aML hb).symm⟩)
   ·rename_i e2;exact .inr (.inr ⟨Ne.symm e2,Ne.symm e1,hb⟩)
 have howns: ∀i' b bb o,p9 H' i'=some b->qP g' i' b bb o->∃b0,p9 s.H i'=some b0/\qP g i' b0 bb o:=by
  intro i' b bb o hb ho;rcases hget i' b hb with⟨rfl,rfl⟩ |⟨rfl,rfl⟩ |⟨_,_,h1⟩
  ·obtain⟨p,hp,e1,e2,e3⟩:=ho;rw[MK] at e3;exact⟨_,hi,p,hp,e1,e2,e3⟩
  ·obtain⟨u,hu,hub⟩:=ho;have hu':g.cur i' (List.length l)=some u:=hu;rw[hl] at hu';exact⟨_,hk,u,hu',hub⟩
  ·exact⟨b,h1,(x9 (g':=g') (g:=g) rfl rfl).1 ho⟩
 have hrel:tT B g' w ⟨G4 k t l s.env,H',s.nb,s.N,s.np⟩ a:=by
  refine⟨fun j=> ?_,⟨fun i' b hb=> ?_,fun i' j bi bj b o hij h1 h2 o1 o2=> ?_,fun b o hS=> ?_,hr.heap.tab.1,fun i' b bb oo hb ho=>by
   obtain⟨c1,k1,k2⟩:=howns i' b bb oo hb ho;exact hr.heap.tab.2 i' c1 bb oo k1 k2⟩,hr.size,hr.nb,hr.def_,hr.np⟩
  ·rw[XB];have h1:=hr.env j;have h2:=XC (i:=j) hok;generalize lk s.env j=sl at h1 h2;obtain⟨d,x⟩:=sl;cases d with
   |own j m=>
    simp only[RA];split
    ·rename_i hj;subst hj;have hm:m=n:=h2 rfl;subst hm;refine⟨hlist _ h1.1.1 h1.1.2,?_⟩;show g'.cur j (List.length l)=_;rw[hl];exact h1.1.1
    ·exact A9 le h1
   |_=>exact A9 le h1
  ·rcases hget i' b hb with⟨rfl,rfl⟩ |⟨rfl,rfl⟩ |⟨hne,_,h1⟩
   ·have hk2: ∀cs,BR g' (some (k,n)) cs->Rd g' w (.list t) l cs:=by
     rintro cs ⟨v1,q1,q2,q3⟩;rw[q2];exact AA rfl (hlist v1 q1 q3)
    refine⟨p0,cs0,hp0,VU (n:=n) hk2 hxo (uX le hR0),hra0,?_,?_,fun _ _ hm=>by cases hm⟩
    ·rw[MK];exact⟨hth0.1,hth0.2⟩
    ·rw[MK];intro j hj hS;rcases hS with hS|hS
     ·exact hns0 j hj hS
     ·exact hr.heap.dis i' k _ _ p0.1 (p0.2+j) hik hi hk ⟨p0,hp0,rfl,by omega,by omega⟩ (hown2 _ hS.1 _)
   ·refine⟨v,xs,by rw[hl];exact hv,by rw[hl];exact hown,fun m hm=>hnone m (by rw[hl] at hm;exact hm),fun b hb o hS=> ?_⟩;rw[hl];rcases hS with hS|hS
    ·exact absurd hS (hseal b hb o)
    ·exact hS.2
   ·exact HQ (hr.heap.blk i' b h1) le rfl rfl (fun _ _ _=>⟨rfl,rfl⟩) (fun _ _=>rfl) (fun bb o ho hS=>by
     rcases hS with hS|hS
     ·exact hS
     ·exact absurd (hown2 bb hS.1 o) (fun h5=>hr.heap.dis i' k b _ bb o hne h1 hk ho h5)) (fun _ _ _ _ h=>h)
  ·obtain⟨c1,k1,k2⟩:=howns i' bi b o h1 o1;obtain⟨c2,k3,k4⟩:=howns j bj b o h2 o2;exact hr.heap.dis i' j c1 c2 b o hij k1 k3 k2 k4
  ·rcases hS with hS|hS
   ·exact hr.heap.sl b o hS
   ·exact JM hown hS.1
 have hgood:s3 A L g0 w0 g' w H':=by
  refine⟨fun b o h0=>⟨.inl (hg.shut b o h0).1,(hg.shut b o h0).2⟩,⟨hg.fr.os,hg.fr.tape,hg.fr.output,hg.fr.size,hg.fr.blk,hg.fr.cell,fun b o hS=> ?_,hg.fr.shape⟩,fun i' b bb o hb ho=> ?_,hg.J,hg.live,fun i' u' y us hi' hb=> ?_,hg.cur⟩
  ·rcases hS with hS|hS
   ·exact hg.fr.new b o hS
   ·exact .inr (hg.perm k _ b o hk (hown2 b hS.1 o))
  ·obtain⟨c1,k1,k2⟩:=howns i' b bb o hb ho;exact hg.perm i' c1 bb o k1 k2
  ·rcases hget i' _ hb with⟨rfl,_⟩ |⟨_,h1⟩ |⟨_,_,h1⟩
   ·omega
   ·cases h1
   ·exact hg.ty i' u' y us hi' h1
 exact h ro hro A L g0 w0 g' a w B hB hrel hgood hn
theorem aFT {P:Program}{c:Code}{s:St}{Q:Ex->St->Prop}(k i:Nat) {e:TypeId}{t:Ty}{l:List t.den}{n:Nat}(hk:p9 s.H k=some (.row e t l n)) {u:Ty}{x:u.den}{toks:List (Nat×Nat)}(hi:p9 s.H i=some (.cells u x toks)) (hnp:s.np<=i)
  (hok:N1 k n s.env) (hxo:M2 k n u x) {u':Ty}{y':u'.den}(hz:zO k t l u x=⟨u',y'⟩)
  (h:Ev R P c ⟨G4 k t l s.env,(i,.cells u' y' [])::(k,.grow e t.cells (List.length l))::s.H,s.nb,s.N,s.np⟩ Q):Ev R P c s Q:=
 aFS k i hk hi hnp hok hxo (by rw[hz];exact h)
def iter {σ ρ:Type}(f:σ->Option (σ⊕ρ)):Nat->σ->Option ρ
 |0,_=>none
 |n+1,x=>match f x with
  |none=>none
  |some (.inl y)=>iter f n y
  |some (.inr r)=>some r
theorem a78 {σ ρ:Type}{f:σ->Option (σ⊕ρ)}{r:ρ}: ∀{n:Nat}{x:σ},iter f n x=some r->iter f (n+1) x=some r
 |0,_,h=>by cases h
 |n+1,x,h=>by
  unfold iter at h⊢;split
  ·rename_i e;rw[e] at h;cases h
  ·rename_i y e;rw[e] at h;exact a78 h
  ·rename_i r' e;rw[e] at h;exact h
theorem XE {σ ρ:Type}{f:σ->Option (σ⊕ρ)}{r:ρ}{n:Nat}{x:σ}(h:iter f n x=some r): ∀m,iter f (n+m) x=some r
 |0=>h
 |m+1=>a78 (XE h m)
theorem a79 {σ ρ:Type}{f:σ->Option (σ⊕ρ)}{r r':ρ}{n m:Nat}{x:σ}(h:iter f n x=some r) (h':iter f m x=some r'):r=r':=by
 have h1:=XE h m;have h2:=XE h' n;rw[Nat.add_comm] at h2;exact aML (h1.symm.trans h2)
noncomputable def N2 {σ ρ:Type}(f:σ->Option (σ⊕ρ)) (x:σ):Option ρ:=open Classical in if h: ∃n r,iter f n x=some r then some (Classical.choose (aOi h)) else none
def aFU {ρ:Type}:Option ρ->Option ρ->Option ρ
 |some r,_=>some r
 |none,r=>r
noncomputable def pR {σ ρ:Type}(f:σ->Option (σ⊕ρ)) (x:σ):Option ρ:=aFU (iter f 2000 x) (N2 f x)
theorem aFV {σ ρ:Type}{f:σ->Option (σ⊕ρ)}{x:σ}{r:ρ}{n:Nat}(h:iter f n x=some r):N2 f x=some r:=by
 have hx: ∃n r,iter f n x=some r:=⟨n,r,h⟩;unfold N2;rw[aOR hx,a79 h (aOi (aOi hx))]
theorem XF {σ ρ:Type}{f:σ->Option (σ⊕ρ)}{x:σ}{r:ρ}{n:Nat}(h:iter f n x=some r):pR f x=some r:=by
 unfold pR;cases hi:iter f 2000 x with
 |some r'=>rw[a79 h hi];rfl
 |none=>exact aFV h
theorem RB {σ ρ:Type}{f:σ->Option (σ⊕ρ)}{x:σ}{r:ρ}(h:pR f x=some r): ∃n,iter f n x=some r:=by
 unfold pR at h;cases hi:iter f 2000 x with
 |some r'=>
  rw[hi] at h;cases h;exact⟨_,hi⟩
 |none=>
  rw[hi] at h;have h:N2 f x=some r:=h;unfold N2 at h;split at h
  ·rename_i hx;have:=aOi (aOi hx);rw[aML h] at this;exact⟨_,this⟩
  ·cases h
attribute [irreducible] pR
theorem JZ {σ ρ:Type}{f:σ->Option (σ⊕ρ)}{x y:σ}(h:f x=some (.inl y)):pR f x=pR f y:=by
 cases hy:pR f y with
 |some r=>
  obtain⟨n,hn⟩:=RB hy;exact XF (n:=n+1) (by unfold iter;rw[h];exact hn)
 |none=>
  cases hx:pR f x with
  |none=>rfl
  |some r=>
   obtain⟨n,hn⟩:=RB hx;cases n with
   |zero=>cases hn
   |succ n=>
    unfold iter at hn;rw[h] at hn;rw[XF hn] at hy;cases hy
theorem xA {σ ρ:Type}{f:σ->Option (σ⊕ρ)}{x:σ}{r:ρ}(h:f x=some (.inr r)):pR f x=some r:=XF (n:=1) (by unfold iter;rw[h])
def Nxt {σ ρ:Type}(f:σ->Option (σ⊕ρ)) (y:ρ) (n:Nat):σ⊕ρ->Prop
 | .inl x=>iter f n x=some y
 | .inr r=>r=y
def qL {σ ρ:Type}(enc:σ->St) (f:σ->Option (σ⊕ρ)) (y:ρ) (n:Nat) (Q:Ex->St->Prop):Ex->St->Prop
 | .normal,s=> ∃(k:uL) (x:σ),s.keep k=enc x/\iter f n x=some y
 | .exit j,s=>Q (.exit j) s
 | .ret,s=>Q .ret s
theorem aFX {P:Program}{c:Code}{s:St}{Q:Ex->St->Prop}(I:Nat->St->Prop) (h0: ∃(k:uL) (n:Nat),I n (s.keep k))
  (h: ∀n s,I n s->Ev R P c s (fun e s'=>match e with| .normal=> ∃(k:uL) (m:Nat),m<n/\I m (s'.keep k) |e=>Q e s')):Ev R P (.loop c) s Q:=by
 intro ro hro A L g0 w0 g a w B hB hr hg hn;obtain⟨k,n0,h0⟩:=h0;obtain⟨g1,k1,k2,k3,_⟩:=EO hr hg hn k
 let R:Act->World->Nat->Prop:=fun a w n=> ∃g s,I n s/\tT B g w s a/\s3 A L g0 w0 g w s.H/\s.np=L.length
 refine wpIn_loop (fun a w=> ∃n,R a w n) (fun a w=>MY (R a w)) ⟨_,g1,s.keep k,h0,k1,k2,k3⟩ (fun a w hI=> ?_);obtain⟨⟨g2,s2,i1,i3,i4,i5⟩,_⟩:=R5 hI;refine aOn (h _ s2 i1 ro hro A L g0 w0 g2 a w B hB i3 i4 i5) fun e a' w' hp=> ?_;obtain⟨e',g',s',h1,h2,h3,h4,h5⟩:=hp;cases e<;>simp only[BV,aMJ] at h1
 case normal=>
  subst h1;obtain⟨k',m,j1,j2⟩:=h2;obtain⟨g3,l1,l2,l3,_⟩:=EO h3 h4 h5 k';have hR:R a' w' m:=⟨g3,s'.keep k',j2,l1,l2,l3⟩;exact⟨⟨_,hR⟩,Nat.lt_of_le_of_lt ((R5 ⟨_,hR⟩).2 _ hR) j1⟩
 case exit id=>subst h1;exact⟨.exit id,g',s',rfl,h2,h3,h4,h5⟩
 case ret=>subst h1;exact⟨.ret,g',s',rfl,h2,h3,h4,h5⟩
 all_goals cases h1
theorem wM {P:Program}{c:Code}{s:St}{Q:Ex->St->Prop}{σ ρ:Type}{f:σ->Option (σ⊕ρ)}{x0:σ}{y:ρ}(hy:pR f x0=some y) (enc:σ->St) (k:uL) (h0:s.keep k=enc x0)
  (round: ∀x w n,f x=some w->Nxt f y n w->Ev R P c (enc x) (qL enc f y n Q)):Ev R P (.loop c) s Q:=by
 obtain⟨n,hn⟩:=RB hy;refine aFX (fun n s=> ∃x,s=enc x/\iter f n x=some y) ⟨k,n,x0,h0,hn⟩ fun n s ⟨x,e,hx⟩=> ?_;subst e;cases n with
 |zero=>cases hx
 |succ n=>
  unfold iter at hx;refine aFO (Q':=qL enc f y n Q) ?_ (fun e s' hq=> ?_)
  ·split at hx
   ·cases hx
   ·rename_i x' e;exact round x _ n e hx
   ·rename_i r e;exact round x _ n e (aML hx)
  ·cases e with
   |normal=>obtain⟨k,x',h1,h2⟩:=hq;exact⟨k,n,by omega,x',h1,h2⟩
   |exit j=>exact hq
   |ret=>exact hq
def qX (j:Nat) (X:St->Prop) (Q:Ex->St->Prop):Ex->St->Prop
 | .normal,s=>Q .normal s
 | .exit i,s=>if i=j then∃k:uL,X (s.keep k) else Q (.exit i) s
 | .ret,s=>Q .ret s
theorem wN {P:Program}{c:Code}{s:St}{Q:Ex->St->Prop}(j:Nat) (X:St->Prop) (h:Ev R P c s (qX j X Q)) (J: ∀s',X s'->Q (.exit j) s'):Ev R P c s Q:=by
 intro ro hro A L g0 w0 g a w B hB hr hg hn;refine aOn (h ro hro A L g0 w0 g a w B hB hr hg hn) fun x a' w' hp=> ?_;obtain⟨e,g',s',h1,h2,h3,h4,h5⟩:=hp;cases e with
 |normal=>exact⟨.normal,g',s',h1,h2,h3,h4,h5⟩
 |ret=>exact⟨.ret,g',s',h1,h2,h3,h4,h5⟩
 |exit i=>
  have h2:(if i=j then∃k:uL,X (s'.keep k) else Q (.exit i) s'):=h2;by_cases hij:i=j
  ·rw[aMI hij] at h2;obtain⟨k,hk⟩:=h2;obtain⟨g1,k1,k2,k3,_⟩:=EO h3 h4 h5 k;exact⟨.exit i,g1,s'.keep k,h1,by rw[hij];exact J _ hk,k1,k2,k3⟩
  ·rw[aMK hij] at h2;exact⟨.exit i,g',s',h1,h2,h3,h4,h5⟩
section
variable {Q:Ex->St->Prop}{s:St}{j i:Nat}{X:St->Prop}{σ ρ:Type}{enc:σ->St}{f:σ->Option (σ⊕ρ)}{y:ρ}{n:Nat}
theorem yU (h:Q .ret s):qX j X Q .ret s:=h
theorem vX (h: ∃k:uL,X (s.keep k)):qX j X Q (.exit j) s:=by show (if j=j then _ else _);rw[aMI rfl];exact h
theorem tO (h: ∃(k:uL) (x:σ),s.keep k=enc x/\iter f n x=some y):qL enc f y n Q .normal s:=h
theorem vY (h:Q (.exit j) s):qL enc f y n Q (.exit j) s:=h
theorem yV (h:Q .ret s):qL enc f y n Q .ret s:=h
end
def qN (X:St->Prop) (Q:Ex->St->Prop):Ex->St->Prop
 | .normal,s=> ∃k:uL,X (s.keep k)
 | .exit j,s=>Q (.exit j) s
 | .ret,s=>Q .ret s
theorem I1 {P:Program}{c:Code}{s:St}{Q:Ex->St->Prop}(X:St->Prop) (h:Ev R P c s (qN X Q)) (J: ∀s',X s'->Q .normal s'):Ev R P c s Q:=by
 intro ro hro A L g0 w0 g a w B hB hr hg hn;refine aOn (h ro hro A L g0 w0 g a w B hB hr hg hn) fun x a' w' hp=> ?_;obtain⟨e,g',s',h1,h2,h3,h4,h5⟩:=hp;cases e with
 |exit j=>exact⟨.exit j,g',s',h1,h2,h3,h4,h5⟩
 |ret=>exact⟨.ret,g',s',h1,h2,h3,h4,h5⟩
 |normal=>
  obtain⟨k,hk⟩:=h2;obtain⟨g1,k1,k2,k3,_⟩:=EO h3 h4 h5 k;exact⟨.normal,g1,s'.keep k,h1,J _ hk,k1,k2,k3⟩
section
variable {Q:Ex->St->Prop}{s:St}{j:Nat}{X:St->Prop}
theorem AG (h: ∃k:uL,X (s.keep k)):qN X Q .normal s:=h
end
def val {ρ:Type}[Inhabited ρ] (x:Option ρ):ρ:=x.getD default
theorem rG {ρ:Type}[Inhabited ρ] {x:Option ρ}{y:ρ}(h:x=some y):val x=y:=by rw[h];rfl
theorem pU {ρ:Type}{x:Option ρ}{y:ρ}(h:x=some y):x.isSome=true:=by rw[h];rfl
theorem pJ {ρ:Type}{c:Prop}[Decidable c] {x:Option ρ}{r:ρ}(h:(if c then x else none)=some r):c/\x=some r:=by
 by_cases hc:c
 ·rw[aMI hc] at h;exact⟨hc,h⟩
 ·rw[aMK hc] at h;cases h
theorem pA {σ ρ:Type}{x:Option σ}{k:σ->Option ρ}{r:ρ}(h:x.bind k=some r): ∃y,x=some y/\k y=some r:=by
 cases x with
 |none=>cases h
 |some y=>exact⟨y,rfl,h⟩
theorem aFY {ρ:Type}{b:Bool}{x y:ρ}{r:ρ}(h:(if b=true then x else y)=r) (hb:b=true):x=r:=by rw[aMI hb] at h;exact h
theorem aFZ {ρ:Type}{b:Bool}{x y:ρ}{r:ρ}(h:(if b=true then x else y)=r) (hb:b=false):y=r:=by rw[hb,aMK (by decide)] at h;exact h
def s5 {σ ρ:Type}(x:Option (σ⊕ρ)) (k:σ->Option ρ):Option ρ:=x.bind fun y=>match y with
 | .inl v=>k v
 | .inr r=>some r
theorem yW {σ ρ:Type}{x:Option (σ⊕ρ)}{k:σ->Option ρ}{r:ρ}(h:s5 x k=some r): ∃y,x=some y/\(match y with| .inl v=>k v| .inr r=>some r)=some r:=pA h
def rE {σ ρ:Type}(x:Option σ) (k:σ->Option ρ):Option ρ:=x.bind k
def qW {σ ρ:Type}(x:σ) (k:σ->ρ):ρ:=k x
theorem aF0 {σ ρ:Type}{x:σ}{k:σ->ρ}{r:ρ}(h:qW x k=r):k x=r:=h
theorem vE {σ ρ:Type}{x:σ}{k:σ->ρ}{r:ρ}(h:qW x k=r): ∃y,x=y/\k y=r:=⟨x,rfl,h⟩
theorem sG {x:Bool}(h:x=true):(x==true)=true:=by rw[h];rfl
theorem K0 {G x:Bool}(hG:G=true) (h:x=true):(G&&(x==true))=true:=by rw[hG,h];rfl
theorem G5 {G x:Bool}(hG:G=true) (h:x=false):(G&&(x==false))=true:=by rw[hG,h];rfl
theorem xX {x:Bool}(h:x=false):(x==false)=true:=by rw[h];rfl
section
variable {P:Program}{T:rO}{Γ:sZ}(E:qB P T Γ) {s:St}{Q:Ex->St->Prop}
include E
theorem a8a {id:Nat}{ops:Array Oper}{a:uP}(h:uQ T Γ ops.toList ops.toList (some ⟨s,[],[]⟩)=some a) (hp:qE a.side) (hq:Q .normal a.s):Ev R P (.region id ops false) s Q:=
 a74 E.T E.Γ E.m (aDQ h hp hq)
theorem a8b {id:Nat}{ops:Array Oper}{a:uP}(h:uQ T Γ ops.toList ops.toList (some ⟨s,[],[]⟩)=some a) (hf:DB ops s.nb a.es.reverse=true) (hp:qE a.side) (hq:Q .normal a.s):Ev R P (.region id ops true) s Q:=
 a74 E.T E.Γ E.m (aDR h hf hp hq)
end
end Go.Proofs.YtbbpilohihldiaaGreatDoor.Vc
namespace Go.Proofs.YtbbpilohihldiaaGreatDoor.Vc
open Go.RowKit
variable {R:Bool}
attribute [go_sem] Option.map_some Option.map_none
@[go_sem] theorem aLh {H:List (Nat×oX)}{ps:List PK}{b:List oZ}{a:Option rW}:vR H ps ([]++b) a=vR H ps b a:=rfl
@[go_sem] theorem aLi {H:List (Nat×oX)}{ps:List PK}{x:oZ}{l b:List oZ}{a:Option rW}:vR H ps ((x::l)++b) a=vR H ps (x::(l++b)) a:=rfl
@[go_sem] def a8c:Option oZ->Option (List oZ)->Option (List oZ)
 |some s,some l=>some (s::l)
 |_,_=>none
@[go_sem] def a8d:Option pC->Option oZ
 |some e=>some e.slot
 |none=>none
@[go_sem] def RC (H:List (Nat×oX)):Option TI->oZ->Option pC
 |some ti,(.val .ref (some (i,off)),_)=>M0 ti.ty i off (p9 H i)
 |_,_=>none
@[go_sem] def N3 (T:rO) (s:St) (m:List (Nat×Nat)):Nat×Option TypeId->Option oZ
 |(t,none)=>some (yM m (lk s.env t))
 |(t,some ty)=>(a8d (RC s.H (qC T ty) (lk s.env t))).map (yM m)
@[go_sem] def G6 (T:rO) (s:St) (m:List (Nat×Nat)):List (Nat×Option TypeId)->Option (List oZ)
 |[]=>some []
 |q::r=>a8c (N3 T s m q) (G6 T s m r)
def BW:Nat×Option TypeId->ResultVar
 |(t,none)=> .tmp t
 |(t,some ty)=> .cell t ty
@[go_sem] def CN:Nat->Nat->List (Nat×oX)->List (Nat×oX)
 |0,_,H=>H
 |n+1,i,[]=>(i,.dead)::CN n (i+1) []
 |n+1,i,(j,b)::H=>if j=i then(j,b)::CN n (i+1) H else(i,.dead)::CN n (i+1) ((j,b)::H)
theorem I2: ∀{n i:Nat}{H:List (Nat×oX)}{k:Nat}{b:oX},p9 (CN n i H) k=some b->p9 H k=some b\/b= .dead
 |0,_,_,_,_,h=> .inl h
 |n+1,i,[],k,b,h=>by
  simp only[CN,p9] at h;split at h
  ·exact .inr (aML h).symm
  ·exact I2 h
 |n+1,i,(j,c)::H,k,b,h=>by
  unfold CN at h;split at h
  ·simp only[p9] at h⊢;split at h
   ·rename_i e;rw[aMI e];exact .inl h
   ·rename_i e;rw[aMK e];exact I2 h
  ·simp only[p9] at h;split at h
   ·exact .inr (aML h).symm
   ·exact I2 h
theorem rH.pad {g:Gh}{w:World}{H:qO}(h:rH g w H) (n i:Nat):rH g w (CN n i H):=by
 have own: ∀{k blk b o},p9 (CN n i H) k=some blk->qP g k blk b o->p9 H k=some blk:=fun hg ho=>by
  rcases I2 hg with h1|h1
  ·exact h1
  ·subst h1;exact ho.elim
 refine⟨fun k b hb=> ?_,fun i j bi bj b o hij h1 h2 o1 o2=>h.dis i j bi bj b o hij (own h1 o1) (own h2 o2) o1 o2,h.sl,h.tab.1,fun k blk b o h1 h2=>h.tab.2 k blk b o (own h1 h2) h2⟩;rcases I2 hb with h1|h1
 ·exact h.blk k b h1
 ·subst h1;trivial
theorem s3.pad {A:Nat->Nat->Prop}{L:List oX}{g0 g:Gh}{w0 w:World}{H:qO}(h:s3 A L g0 w0 g w H) (n i:Nat):s3 A L g0 w0 g w (CN n i H):=by
 refine⟨h.shut,h.fr,fun k blk b o hg ho=> ?_,h.J,h.live,fun k u y us hk hg=> ?_,h.cur⟩
 ·rcases I2 hg with h1|h1
  ·exact h.perm k blk b o h1 ho
  ·subst h1;exact ho.elim
 ·rcases I2 hg with h1|h1
  ·exact h.ty k u y us hk h1
  ·cases h1
def a8e (T:rO) (ts:List (Nat×Option TypeId)) (r:pD):Ex->St->Prop
 | .exit _,_=>False
 |_,s=> ∃m:List (Nat×Nat),vU s.np m=true/\CN (pN r.H) 0 (s.keep ⟨[],m⟩).H=pG 0 r.H/\G6 T s m ts=some r.ret
section
variable {P:Program}{o:Oper}{a:Act}{g:Gh}{w:World}{H:qO}{T:rO}(hT:vK P T) (hH:rH g w H)
include hT hH
theorem aF1 {t:TypeId}{vx:Value}{sx:oZ}(hx:pW g w sx vx) {e:pC}(hr:RC H (qC T t) sx=some e): ∃ad v,vx= .pointer (some ad)/\(loadVar t ad).run P w= .ok v w/\pW g w e.slot v:=by
 generalize hs:qC T t=ot at hr;replace hx:=hx.1;unfold RC at hr;split at hr
 ·rename_i ti i off k;have hty:=s0 hT hs;generalize hb:p9 H i=ob at hr;unfold M0 at hr;split at hr
  ·rename_i u z toks;generalize hga:pO ti.ty u z off=oy at hr;cases oy with
   |none=>cases hr
   |some y=>
    cases hr;obtain⟨p,hp,hv⟩:=xT hx;obtain⟨p',cs,hp',hR,hra,_,_,htk⟩:=hH.blk i _ hb;rw[hp] at hp';obtain rfl:=aML hp';obtain⟨c1,c2,c3,rfl,rfl,hR2⟩:=CG hR hga;obtain⟨v,h1,h2,h3⟩:=ML hT hH hty (JO hT hH hra) hR2;refine⟨_,v,hv,by simpa[Instr.loadAt,Instr.sureAddr] using h1,h2,?_⟩;obtain⟨ty,el,by',ar,ls⟩:=ti;cases ty with
    |list u'=>
     simp only[EB];generalize htt:vI toks c1.length=ok;cases ok with
     |none=>trivial
     |some k=>
      obtain⟨u2,l,v',g1,g2,g3⟩:=htk _ _ (VW hT hH htt);obtain⟨heq,hl⟩:=a6f hT hH g1 hga rfl;injection heq with heq'
      subst heq';have hlen:=rP hR2;obtain⟨v2,rfl⟩:=aN2.1 hlen;have e2:v'=v2:=by
       have e:(c1++[v2]++c3)[c1.length]? =some v2:=by simp
       rw[e] at g2;exact(aML g2).symm
      have e3:v=v2:=by
       have h4:=AA rfl h2;have hone:=zP h4 v (by simp);have:v.cells= #[v]:=by cases v<;>first|rfl|(simp [Value.oneCell'] at hone)
       rw[this] at h3;simpa using h3
      subst e2;subst e3;have e4:(y:List u'.den)=l:=hl;subst e4;exact g3
    |_=>trivial
  ·cases hr
 ·cases hr
end
def I3 (tmps:Array Value) (q:Nat×Option TypeId):Sem Value:=match BW q with
 | .tmp t=>pure (tmps.getD t undef)
 | .cell a t=>do loadVar t (<-asAddr (tmps.getD a undef))
theorem a8f {P:Program}{T:rO}(hT:vK P T) {B:Nat}{g:Gh}{w:World}{s:St}{a:Act}{m:List (Nat×Nat)}(hk:vU s.np m=true) (hr:tT B g w s a): ∀{ts:List (Nat×Option TypeId)}{l:List oZ},G6 T s m ts=some l->
  ∃vs:List Value,(ts.mapM (I3 a.tmps)).run P w= .ok vs w/\uB (t8 g s.np m) w l vs
 |[],l,h=>by
  simp only[G6,aMJ] at h;subst h;exact⟨[],by simp,rfl⟩
 |q::ts,l,h=>by
  simp only[G6] at h;obtain⟨s1,l1,e1,e2,rfl⟩: ∃s1 l1,N3 T s m q=some s1/\G6 T s m ts=some l1/\l=s1::l1:=by
   cases h1:N3 T s m q<;>cases h2:G6 T s m ts<;>rw[h1,h2] at h<;>simp [a8c] at h
   exact⟨_,_,rfl,rfl,h.symm⟩
  obtain⟨vs,v1,v2⟩:=a8f hT hk hr e2;obtain⟨v,w1,w2⟩: ∃v,(I3 a.tmps q).run P w= .ok v w/\pW (t8 g s.np m) w s1 v:=by
   obtain⟨t,oty⟩:=q;cases oty with
   |none=>
    simp only[N3,aMJ] at e1;subst e1;exact⟨_,by simp [I3,BW],R1 hk (hr.env t)⟩
   |some ty=>
    simp only[N3] at e1;cases he:RC s.H (qC T ty) (lk s.env t) with
    |none=>rw[he] at e1;cases e1
    |some e=>
     rw[he] at e1;simp only[a8d,Option.map_some,aMJ] at e1;subst e1;obtain⟨ad,v,hv,hl,hs⟩:=aF1 hT hr.heap (hr.env t) he;exact⟨v,by simp only[I3,BW,hv,asAddr,aMY,aM6,aMT,hl],R1 hk hs⟩
  exact⟨v::vs,by simp only[List.mapM_cons,aMY,w1,aMT,v1,aM6],v,vs,rfl,w2,v2⟩
def K1 (tmps:Array Value):ResultVar->Sem Value
 | .tmp t=>pure (tmps.getD t undef)
 | .cell a t=>do loadVar t (<-asAddr (tmps.getD a undef))
theorem aF2 {P:Program}{fn:Func}{w:World}{tmps:Array Value}{ts:List (Nat×Option TypeId)}(h:fn.results.toList=ts.map BW) {vs:List Value}(hv:(ts.mapM (I3 tmps)).run P w= .ok vs w):(results fn tmps).run P w= .ok (X9 vs) w:=by
 obtain⟨rs,hrs⟩: ∃rs,fn.results=⟨rs⟩:=⟨fn.results.toList,rfl⟩;have hm:rs=ts.map BW:=by rw[hrs] at h;exact h
 have key:Sem.run P (((ts.map BW).toArray).mapM (K1 tmps)) w=Result.ok vs.toArray w:=by
  rw[List.mapM_toArray,List.mapM_map];have e:K1 tmps∘BW=I3 tmps:=by
   funext q;obtain⟨t,o⟩:=q;cases o<;>rfl
  have e2:(fun q=>K1 tmps (BW q))=I3 tmps:=e;show Sem.run P (List.mapM (fun q=>K1 tmps (BW q)) ts>>=fun l=>pure l.toArray) w=_;rw[e2,aMY,hv];rfl
 have hu:results fn tmps=(fn.results.mapM (K1 tmps) >>=fun vs=>pure (if h:vs.size=1 then vs[0] else .tuple vs)):=by
  unfold results;congr 2
 rw[hu,hrs,hm,aMY];have key2:Sem.run P (Array.mapM (K1 tmps) (⟨ts.map BW⟩:Array ResultVar)) w=Result.ok vs.toArray w:=key;rw[key2];simp only[aMT,aM6]
 match vs with
 |[]=>rfl
 |[v]=>rfl
 |v::u::l=>simp [X9]
theorem aF3 {P:Program}{T:rO}(hT:vK P T) {f:FuncId}{fn:Func}{c:Code}{C:List oZ->List oX->Option pD}{ts:List (Nat×Option TypeId)}(hf:P.funcs[f]? =some fn) (hb:fn.body=some c) {N:Nat}(hN:fn.ntmps=N)
  (hcall: ∀args w,(callFunc f args).run P w= .ok (.enter f args) w) (hres:fn.results.toList=ts.map BW)
  (h: ∀args L r,C args L=some r->(∀p∈r.side,p)->qK L->args.length<=N/\MZ (uD 0 L) args/\N0 (uD 0 L) L/\Ev false P c ⟨qI 0 args,pG 0 L,pN L,N,pN L⟩ (a8e T ts r)):B7 P f C:=by
 subst hN;refine⟨hcall,fun g w args vals L r hH ha hC hs=> ?_⟩;obtain⟨h1,h2,h3,h4⟩:=h args L r hC hs (a7W fun i b hb=>⟨i,hH.blk i b (by rw[wB];exact hb)⟩);obtain⟨hr,hent⟩:=XA hH ha h2 h3 h1;have hsub: ∀b o,xU (t8 g 0 (uD 0 L)) (pG 0 L) b o->xU g (pG 0 L) b o:=fun b o ⟨i,blk,hg,ho⟩=>⟨i,blk,hg,(hent i blk (by rw[<-wB];exact hg)).2.2 b o ho⟩;have hgood:s3 (xU (t8 g 0 (uD 0 L)) (pG 0 L)) L (t8 g 0 (uD 0 L)) w (t8 g 0 (uD 0 L)) w (pG 0 L):=by
  refine⟨fun b o h=>⟨h,rfl⟩,Fr.refl _ _ _,fun i blk b o hg ho=> .inr ⟨i,blk,hg,ho⟩,fun _ _ _ h=>h,fun i hi=> ?_,fun i u y us _ hg=>⟨y,us,by rw[<-wB];exact hg⟩,fun _ _ _ _ h=>h⟩;have hL:L[i]? =some L[i]:=by simp
  obtain⟨_,hbk,_⟩:=hent i L[i] hL;have hnd:=(I0 h3 L[i] (aNR hi)).2;generalize L[i]=blk at hbk hnd;cases blk with
  |cells t x ts=>obtain⟨p,cs,hp,_⟩:=hbk;exact .inl ⟨p,hp⟩
  |grow e c n=>obtain⟨v,xs,hv,_⟩:=hbk;exact .inr ⟨n,v,hv⟩
  |row e t l n=>obtain⟨_,v,xs,hv,_⟩:=hbk;exact .inr ⟨n,v,hv⟩
  |map k v l=>obtain⟨p,es,cl,hp,_⟩:=hbk;exact .inl ⟨p,hp⟩
  |iter s n=>obtain⟨p,hp,_⟩:=hbk;exact .inl ⟨p,hp⟩
  |dead=>exact absurd rfl hnd
 refine callsIn_wide.1 (callsIn_of_wp_marks (F:=Fence.wide) (n:=0) hf hb trivial (aOn (h4 none rfl _ _ _ _ _ _ _ _ (aM2 _) hr hgood (R9 L)) fun x a' w' hp=> ?_) rfl);obtain⟨e,g',s',e1,e2,e3,e4,e5⟩:=hp;have tX: ∀m:List (Nat×Nat),vU s'.np m=true->CN (pN r.H) 0 (s'.keep ⟨[],m⟩).H=pG 0 r.H->G6 T s' m ts=some r.ret->LeavesInM Fence.wide 0 P fn a'.tmps (fun e w'=> ∃v' g',e= .returned v'/\HV g w L r g' w' v') a'.defers .returning w':=by
  intro m hk k1 k2;refine a73 a'.defers w' e3 e4 (fun w1 e3 e4=> ?_);obtain⟨l1,l2,l3,_⟩:=WU e3 e4 e5 ⟨[],m⟩ hk;replace l2:=l2.pad (pN r.H) 0;rw[k1] at l2;obtain⟨vs,q1,q2⟩:=a8f hT hk e3 k2;have q3:=aF2 (P:=P) (w:=w1) (tmps:=a'.tmps) hres q1;refine⟨_,q3,_,_,rfl,⟨fun b o hb=>l2.shut b o hb,by rw[<-k1];exact l1.heap.pad _ _,?_,?_,fun i blk b o hi ho=> ?_,fun i t x us hi=> ?_,fun i t x us u y vs hi hr=> ?_,fun i p hi hp=>l2.J i p hi ((zQ R6 (JY.2 ⟨rfl,aNt _,by omega⟩)).1.trans hp),fun i n u hi hu=>l2.cur i n u hi ((congrFun (zQ R6 (JY.2 ⟨rfl,aNt _,by omega⟩)).2 n).trans hu)⟩⟩
  ·unfold MQ;split
   ·rename_i s hs;rw[hs] at q2;obtain⟨v,vs',hv,h5,h6⟩:=q2;rw[hv,show vs'=[] from h6];exact h5
   ·rename_i hne;refine⟨_,?_,q2⟩;unfold X9;split
    ·rename_i v hv;exfalso;have:=(R7 q2).1;cases hq:r.ret with
     |nil=>rw[hq] at this;simp at this
     |cons s l=>cases l with
      |nil=>exact hne s hq
      |cons _ _=>rw[hq] at this;simp at this
    ·rfl
  ·exact⟨l2.fr.os,l2.fr.tape,l2.fr.output,l2.fr.size,fun b hb hA=>l2.fr.blk b hb (fun o ho=>hA o (hsub b o ho)),fun b o hb hA=>l2.fr.cell b o hb (fun ho=>hA (hsub b o ho)),fun b o hS=>(l2.fr.new b o hS).imp id (Or.imp id (hsub b o)),fun b s hs=>(l2.fr.shape b s hs).imp id fun h o=>hsub b o (h o)⟩
  ·exact(l2.perm i blk b o (by rw[wB];exact hi) ho).imp id (hsub b o)
  ·obtain⟨j1,⟨p,cs,j2,_⟩,_⟩:=hent i _ hi;have hil:i<L.length:=(aMX.1 hi).1;rw[l2.J i p hil j2,<-j1,j2]
  ·have hil:i<L.length:=(aMX.1 hi).1;obtain⟨x',ts',h5⟩:=l2.ty i u y vs hil (by rw[wB];exact hr);rw[hi] at h5;simp only[aMJ,oX.cells.injEq] at h5;exact h5.1.symm
 cases x<;>simp only[BV,aMJ] at e1
 case normal=>subst e1;obtain⟨k,k0,k1,k2⟩:=e2;exact tX k k0 k1 k2
 case ret=>subst e1;obtain⟨k,k0,k1,k2⟩:=e2;exact tX k k0 k1 k2
 case exit id=>subst e1;exact e2.elim
 all_goals cases e1
open Classical in
noncomputable def qM {V:Type}(p:V->List oZ) (q:V->List oX) (R:V->pD) (a:List oZ) (L:List oX):Option pD:=
 if h: ∃v,p v=a/\q v=L then some (R h.choose) else none
theorem aF4 {V:Type}{p:V->List oZ}{q:V->List oX}{R:V->pD}{a:List oZ}{L:List oX}{r:pD}(h:qM p q R a L=some r): ∃v,p v=a/\q v=L/\R v=r:=by
 unfold qM at h;split at h
 ·rename_i e;exact⟨e.choose,e.choose_spec.1,e.choose_spec.2,aML h⟩
 ·cases h
theorem qQ {V:Type}{p:V->List oZ}{q:V->List oX}{R:V->pD}(inj: ∀v v',p v=p v'->q v=q v'->v=v') (v:V):qM p q R (p v) (q v)=some (R v):=by
 have h: ∃u,p u=p v/\q u=q v:=⟨v,rfl,rfl⟩;unfold qM;rw[aOR h,inj _ v h.choose_spec.1 h.choose_spec.2]
theorem a8g: ∀{l:List Prop},(∀p∈l,p)->qE l
 |[],_=>trivial
 |[p],h=>h p (by simp)
 |p::q::r,h=>⟨h p (by simp),a8g (l:=q::r) fun x hx=>h x (aM4 _ hx)⟩
def qH (P:Program) (x:Nat×pY):Prop:=B7 P x.1 x.2.C/\∀F,x.2.row=some F->QL P x.1 F
theorem qR {P:Program}{T:rO}{Γ:sZ}(hE:qB P T Γ) {f:FuncId}{fn:Func}{c:Code}{V:Type}{p:V->List oZ}{q:V->List oX}{R:V->pD}{ps:List PK}{gs:List (Nat×Nat×PK)}{same:List Nat}{ts:List (Nat×Option TypeId)}(hf:P.funcs[f]? =some fn) (hb:fn.body=some c) {N:Nat}(hN:fn.ntmps=N)
  (hres:fn.results.toList=ts.map BW) (hcall: ∀args w,(callFunc f args).run P w= .ok (.enter f args) w)
  (h: ∀v,qE (R v).side->qK (q v)->Ev false P c ⟨qI 0 (p v),pG 0 (q v),pN (q v),N,pN (q v)⟩ (a8e T ts (R v)))
  (h1: ∀v,Nat.ble (p v).length N=true:=by intro _;rfl)
  (h2: ∀v,MZ (uD 0 (q v)) (p v):=by intro _;repeat (first|exact trivial|refine ⟨rfl,?_⟩))
  (h3: ∀v,N0 (uD 0 (q v)) (q v):=by intro _;repeat (first|exact trivial|refine ⟨rfl,?_⟩)):qH P (f,⟨ps,qM p q R,gs,same,none⟩):=
 ⟨aF3 hE.T hf hb hN hcall hres fun args L r hC hs hr=>by
  obtain⟨v,rfl,rfl,rfl⟩:=aF4 hC;exact⟨aN5 (h1 v),h2 v,h3 v,h v (a8g hs) hr⟩,fun _ h=>by cases h⟩
abbrev p8 (n:Int):Prop:= -9223372036854775808<=n/\n<=9223372036854775807
@[go_sem] def pZ:List (Nat×pY)->sZ
 |[],_=>none
 |(k,s)::r,f=>if k=f then some s else pZ r f
theorem qS {P:Program}:CM P (pZ []):=fun _ _ h=>by cases h
theorem pK {P:Program}{x:Nat×pY}{r:List (Nat×pY)}(h:qH P x) (hr:CM P (pZ r)):CM P (pZ (x::r)):=fun f s hs=>by
 obtain⟨k,y⟩:=x;simp only[pZ] at hs;split at hs
 ·rename_i e;subst e;cases hs;exact h
 ·exact hr f s hs
section
variable {P:Program}{T:rO}{Γ:sZ}(E:qB P T Γ) {s:St}{Q:Ex->St->Prop}
include E
theorem oY {id:Nat}{ops:Array Oper}{a:uP}{y:Code}(hq:Ev R P y a.s Q) (h:uQ T Γ ops.toList ops.toList (some ⟨s,[],[]⟩)=some a:=by simp only[go_sem];rfl) (hp:qE a.side:=by exact trivial):Ev R P (.seq (.region id ops false) y) s Q:=
 pX (a8a E h hp hq)
theorem AH {id:Nat}{ops:Array Oper}{a:uP}{y:Code}(hq:Ev R P y a.s Q) (h:uQ T Γ ops.toList ops.toList (some ⟨s,[],[]⟩)=some a:=by simp only[go_sem];rfl) (hp:qE a.side:=by exact trivial) (hf:DB ops s.nb a.es.reverse=true:=by kernel_rfl):Ev R P (.seq (.region id ops true) y) s Q:=
 pX (a8b E h hf hp hq)
theorem qY {id:Nat}{ops:Array Oper}{a:uP}(hq:Q .normal a.s) (h:uQ T Γ ops.toList ops.toList (some ⟨s,[],[]⟩)=some a:=by simp only[go_sem];rfl) (hp:qE a.side:=by exact trivial):Ev R P (.region id ops false) s Q:=
 a8a E h hp hq
theorem K2 {id:Nat}{ops:Array Oper}{a:uP}(hq:Q .normal a.s) (h:uQ T Γ ops.toList ops.toList (some ⟨s,[],[]⟩)=some a:=by simp only[go_sem];rfl) (hp:qE a.side:=by exact trivial) (hf:DB ops s.nb a.es.reverse=true:=by kernel_rfl):Ev R P (.region id ops true) s Q:=
 a8b E h hf hp hq
end
theorem pP {P:Program}{s:St}{Q:Ex->St->Prop}{c:Operand}{x y:Code}{b b':Bool}{k:Option Nat}{ρ:Type}{X Y r:ρ}(hC:(if b'=true then X else Y)=r) (ht:X=r->b=true->Ev R P x s Q) (hf:Y=r->b=false->Ev R P y s Q)
  (h:sM s.env c=(.val .bool b,k):=by simp only[go_sem];rfl) (hb:b=b':=by first|rfl|simp):Ev R P (.cond c x y) s Q:=
 aFQ h (fun e=>ht (aFY hC (hb▸e)) e) (fun e=>hf (aFZ hC (hb▸e)) e)
theorem pV {σ ρ:Type}[Inhabited σ] {x:Option σ}{k:σ->Option ρ}{r:ρ}(h:x.bind k=some r): ∃y,x=some y/\val x=y/\k y=some r:=by
 obtain⟨y,h1,h2⟩:=pA h;exact⟨y,h1,rG h1,h2⟩
attribute [go_sem] true_and and_true false_and and_false Nat.reduceMul List.nil_append List.cons_append List.append_nil List.toList_toArray Nat.reduceEqDiff reduceIte reduceDIte reduceCtorEq Nat.reduceAdd Nat.reduceSub Int.reduceToNat Nat.reduceLT Nat.reduceLeDiff decide_true decide_false Bool.and_self Bool.or_self Bool.or_false Bool.false_or Bool.and_true Bool.true_and Bool.not_true Bool.not_false
end Go.Proofs.YtbbpilohihldiaaGreatDoor.Vc
