/- Packed by a program of mine (wip/tools/pack.py): the same texts with short names and few blanks. -/
import Derived.ChangeKeysEq
import Derived.KernelRfl
import Derived.Laws.BytesArg
import Derived.Laws.StructEq
import Derived.Lib.AppendStr
import Derived.OrdersIn
import Derived.RangeFuncLeaves
import Derived.RangeFuncNested
import Derived.Scope
import Derived.WalkSpells
import Derived.Test.YtbbpilohihldiaaGreatDoorX00
set_option linter.unusedVariables false
set_option linter.unusedSimpArgs false
set_option linter.unusedSectionVars false
set_option maxRecDepth 100000
set_option maxHeartbeats 4000000
namespace Go.Proofs.YtbbpilohihldiaaGreatDoor.Vc
open Go.RowKit
theorem a9k {P:Program}{w:World}{r:Nat}{s:ByteArray}{n:Nat}(hb:w.heap[r]? =some (.stringIter s n)):(getObj r).run P w= .ok (.stringIter s n) w:=by
 simp [getObj,Sem.run,hb]
theorem aIp {P:Program}{w:World}{r:Nat}{s:ByteArray}{n:Nat}(o:Obj) (hb:w.heap[r]? =some (.stringIter s n)):(setObj r o).run P w= .ok () {w with heap:=w.heap.setIfInBounds r o}:=by
 simp [setObj,Sem.run,hb]
section
variable {P:Program}{o:Oper}{a:Act}{g:Gh}{w:World}{H:rO}{T:sG}(hT:wY P T) (hH:rZ g w H)
include hT hH
theorem rS.newIter {side:List Prop}{rds:List Nat}{base:Nat}{s:List UInt8}(hf:g.J base=none) (hc:g.cur base=fun _=>none):
  rS g w H ⟨side,(.val .ref (some (base,0)),none),[(base,.iter s 0)],rds⟩ (g.var base w.heap.size none) (w.alloc (.stringIter ⟨s.toArray⟩ 0)) (.pointer (some ⟨w.heap.size,0,none⟩)):=by
 have hJ:(g.var base w.heap.size none).J base=some ⟨w.heap.size,0,none⟩:=by simp [Gh.var]
 have le:Le g w (g.var base w.heap.size none) (w.alloc (.stringIter ⟨s.toArray⟩ 0)):=⟨fun _ _ h=>h,fun b o h=>aRF (a:=⟨b,o,none⟩) (aRL _ _ _ (hH.sl b o h)),fun i p h=>by
  show (if i=base then _ else _)=_;rw[if_neg (fun e1=>by rw[e1,hf] at h;cases h)];exact h,fun _ _ _ h=>h⟩
 have fr:Fr (sJ g H (pU [(base,pQ.iter s 0)])) w (w.alloc (.stringIter ⟨s.toArray⟩ 0)) g.S (g.var base w.heap.size none).S:=
  ⟨rfl,rfl,rfl,by simp,fun b hb _=>aRL _ _ _ hb,fun b o hb _=>⟨aRF (a:=⟨b,o,none⟩) (aRL _ _ _ hb),aSj (a:=⟨b,o,none⟩) (aRL _ _ _ hb)⟩,fun b o h=> .inl h,fun b s h=> .inl ((CT (aRL _ _ _ (CS h))).trans h)⟩
 have gho: ∀i,i∉pU [(base,pQ.iter s 0)]->(g.var base w.heap.size none).J i=g.J i/\(g.var base w.heap.size none).cur i=g.cur i:=fun i hi=>⟨by
  show (if i=base then _ else _)=_;rw[if_neg (fun e1=>hi (by simp [pU,e1]))],rfl⟩
 have get: ∀i blk,i∈pU [(base,pQ.iter s 0)]->pT (qG [(base,pQ.iter s 0)] H) i=some blk->i=base/\blk= .iter s 0:=by
  intro i blk hi hg;simp only[pU,aRr] at hi;subst hi;simp only[qG,pT,aSV,aRg] at hg;exact⟨rfl,hg.symm⟩
 have perm: ∀i blk b o,i∈pU [(base,pQ.iter s 0)]->pT (qG [(base,pQ.iter s 0)] H) i=some blk->rP (g.var base w.heap.size none) i blk b o->w.heap.size<=b\/sJ g H (pU [(base,pQ.iter s 0)]) b o:=by
  intro i blk b o hi hg ho;obtain⟨rfl,rfl⟩:=get i blk hi hg;obtain⟨p,hp,h1⟩:=ho;rw[hJ] at hp;obtain rfl:=aRl hp;exact .inl (aSW h1.symm)
 refine⟨le,⟨.inr ⟨rfl,_,hJ,rfl⟩,trivial⟩,hH.upd le fr perm gho (fun i blk hi hg=> ?_) (fun i j bi bj b o hi hj hij hgi hgj _ _=>hij ((get i bi hi hgi).1.trans (get j bj hj hgj).1.symm)) (fun b o h=>aRX (hH.sl b o h) (by simp)),fr,perm,gho,fun i u' y us h=>by
  simp only[qG,pT] at h;split at h
  ·cases h
  ·exact .inl ⟨y,us,h⟩⟩
 obtain⟨rfl,rfl⟩:=get i blk hi hg;refine⟨⟨w.heap.size,0,none⟩,hJ,rfl,?_,fun o hs=>aTa _ (hH.sl _ _ hs)⟩;show (w.heap.push (.stringIter ⟨s.toArray⟩ 0))[w.heap.size]? =_;rw[aTl]
theorem rS.updIter {side:List Prop}{rds:List Nat}{i:Nat}{s:List UInt8}{n n':Nat}{d:pR}{val:Value}{p:Pl}(hi:pT H i=some (.iter s n)) (hp:g.J i=some p) (hp0:p.2=0) (hb:w.heap[p.1]? =some (.stringIter ⟨s.toArray⟩ n)) (hS: ∀o,¬g.S p.1 o) (hd:qV g {w with heap:=w.heap.setIfInBounds p.1 (.stringIter ⟨s.toArray⟩ n')} d val):
  rS g w H ⟨side,d,[(i,.iter s n')],rds⟩ g {w with heap:=w.heap.setIfInBounds p.1 (.stringIter ⟨s.toArray⟩ n')} val:=by
 have hlt:p.1<w.heap.size:=(aRE.1 hb).1;have hoth: ∀b,b≠p.1->(w.heap.setIfInBounds p.1 (.stringIter ⟨s.toArray⟩ n'))[b]? =w.heap[b]? :=fun b hne=>by rw[aSK (Ne.symm hne)]
 have hown: ∀o,sJ g H (pU [(i,pQ.iter s n')]) p.1 o:=fun o=>⟨i,_,by simp [pU],hi,p,hp,rfl⟩;have le:Le g w g {w with heap:=w.heap.setIfInBounds p.1 (.stringIter ⟨s.toArray⟩ n')}:=⟨fun _ _ h=>h,fun b o h=>aRF (a:=⟨b,o,none⟩) (hoth b (fun e=>hS o (e▸h))),fun _ _ h=>h,fun _ _ _ h=>h⟩
 have fr:Fr (sJ g H (pU [(i,pQ.iter s n')])) w {w with heap:=w.heap.setIfInBounds p.1 (.stringIter ⟨s.toArray⟩ n')} g.S g.S:=
  ⟨rfl,rfl,rfl,by simp,fun b _ hn=>hoth b (fun e=>hn 0 (e▸hown 0)),fun b o _ hn=>⟨aRF (a:=⟨b,o,none⟩) (hoth b (fun e=>hn (e▸hown o))),aSj (a:=⟨b,o,none⟩) (hoth b (fun e=>hn (e▸hown o)))⟩,fun b o h=> .inl h,fun b s h=>(by
   by_cases e:b=p.1
   ·exact .inr fun o=>e▸hown o
   ·exact .inl ((CT (hoth b e)).trans h))⟩
 have get: ∀j blk,j∈pU [(i,pQ.iter s n')]->pT (qG [(i,pQ.iter s n')] H) j=some blk->j=i/\blk= .iter s n':=by
  intro j blk hj hg;simp only[pU,aRr] at hj;subst hj;simp only[qG,pT,aSV,aRg] at hg;exact⟨rfl,hg.symm⟩
 have perm: ∀j blk b o,j∈pU [(i,pQ.iter s n')]->pT (qG [(i,pQ.iter s n')] H) j=some blk->rP g j blk b o->w.heap.size<=b\/sJ g H (pU [(i,pQ.iter s n')]) b o:=by
  intro j blk b o hj hg ho;obtain⟨rfl,rfl⟩:=get j blk hj hg;obtain⟨q,hq,rfl⟩:=ho;rw[hp] at hq;obtain rfl:=aRl hq;exact .inr (hown o)
 refine⟨le,hd,hH.upd le fr perm (fun _ _=>⟨rfl,rfl⟩) (fun j blk hj hg=> ?_) (fun j j' bi bj b o hj hj' hij hgi hgj _ _=>hij ((get j bi hj hgi).1.trans (get j' bj hj' hgj).1.symm)) (fun b o h=>by simpa using hH.sl b o h),fr,perm,fun _ _=>⟨rfl,rfl⟩,fun j u' y us h=>by
  simp only[qG,pT] at h;split at h
  ·cases h
  ·exact .inl ⟨y,us,h⟩⟩
 obtain⟨rfl,rfl⟩:=get j blk hj hg;exact⟨p,hp,hp0,by simp [aS7,hlt],hS⟩
theorem aIq {t:TypeId}{x:Operand}(ho:o.op= .range t x) {sx:pR}(hx:qV g w sx (a.eval x)) {base:Nat}{e:pY}(hr:Y1 base (rF T t) sx=some e) (hf:zC g base e):qP P o a g w H e:=by
 generalize hst:rF T t=ot at hr;unfold Y1 at hr;split at hr
 ·rename_i el b ar ls s k;cases hr;have hfr:=hf base (by simp [pU]) (Nat.le_refl _);have hv:=y9 hx.1;have hu:=(sP hT hst).2;simp only[xZ] at hu;refine qP.value (v:= .pointer (some ⟨w.heap.size,0,none⟩)) (w':=w.alloc (.stringIter ⟨s.toArray⟩ 0)) ?_ (rS.newIter hT hH hfr.1 (funext hfr.2));unfold execOp;rw[ho];simp only[Instr.range,hv,aRw,aRA hu,run_newObj,aRp,aRG];rfl
 ·cases hr
theorem aIr {x:Operand}{b:Bool}(ho:o.op= .next x b) {sx:pR}(hx:qV g w sx (a.eval x)) {e:pY}(hr:SN H b sx=some e):qP P o a g w H e:=by
 unfold SN at hr;split at hr
 ·rename_i i k;unfold Y2 at hr;split at hr
  ·rename_i s n hb;cases hr;obtain⟨p,hp,hp0,hh,hS⟩:=hH.blk i _ hb;obtain⟨q,hq,hv⟩:=yP hx.1;rw[hp] at hq;obtain rfl:=aRl hq;rw[hp0] at hv;by_cases hl:n<s.length
   ·have hsz:n<(⟨s.toArray⟩:ByteArray).size:=by simpa[ByteArray.size] using hl
    refine qP.value (v:= .tuple #[.bool true,.int .i64 (n:Int),.int .i32 (wW s n)]) (w':={w with heap:=w.heap.setIfInBounds p.1 (.stringIter ⟨s.toArray⟩ (zU s n))}) ?_ (rS.updIter hT hH hb hp hp0 hh hS ⟨⟨fun _=>rfl,fun h=>absurd hl (of_decide_eq_false h)⟩,trivial⟩)
    unfold execOp;rw[ho];have hrn:zU s n=n+(Utf8.decode ⟨s.toArray⟩ n).2:=by unfold zU Y0;rw[if_pos hl]
    simp only[Instr.next,hv,aRw,a9k hh,aRp,hsz,aSV,aIp _ hh,aRG,hrn];rfl
   ·have hsz: ¬n<(⟨s.toArray⟩:ByteArray).size:=by simpa[ByteArray.size] using hl
    have hrn:zU s n=n:=by unfold zU;rw[if_neg hl]
    have hw:({w with heap:=w.heap.setIfInBounds p.1 (.stringIter ⟨s.toArray⟩ (zU s n))}:World)=w:=by
     rw[hrn];have:w.heap.setIfInBounds p.1 (.stringIter ⟨s.toArray⟩ n)=w.heap:=by
      obtain⟨h1,h2⟩:=aRE.1 hh;apply Array.ext_getElem?;intro j;rw[aS7];split
      ·rename_i hj;subst hj;first|rw[hh] |rw[if_pos h1,hh]
      ·rfl
     rw[this]
    refine qP.value (v:= .tuple #[.bool false]) (w':={w with heap:=w.heap.setIfInBounds p.1 (.stringIter ⟨s.toArray⟩ (zU s n))}) ?_ (rS.updIter hT hH hb hp hp0 hh hS ⟨⟨fun h=>absurd (aRZ h) hl,fun _=>rfl⟩,trivial⟩)
    rw[hw];unfold execOp;rw[ho];simp only[Instr.next,hv,aRw,a9k hh,aRp,hsz,aTr,aRG]
  ·cases hr
 ·cases hr
end
def qE:Nat->List pQ->rO
 |_,[]=>[]
 |c,b::L=>(c,b)::qE (c+1) L
theorem T6: ∀(L:List pQ) (c i:Nat),pT (qE c L) i=if c<=i then L[i-c]? else none
 |[],c,i=>by simp [qE,pT]
 |b::L,c,i=>by
  simp only[qE,pT];by_cases h:c=i
  ·subst h;simp
  ·rw[if_neg h,T6 L (c+1) i];by_cases h2:c<=i
   ·rw[if_pos h2,if_pos (by omega)];obtain⟨d,hd⟩: ∃d,i-c=d+1:=⟨i-c-1,by omega⟩;rw[hd,aR3];congr 1;omega
   ·rw[if_neg h2,if_neg (by omega)]
theorem xM (L:List pQ) (i:Nat):pT (qE 0 L) i=L[i]? :=by rw[T6];simp
def yQ (g:Gh) (H:rO) (b o:Nat):Prop:= ∃i blk,pT H i=some blk/\rP g i blk b o
def v8 (g:Gh) (w:World):List pR->List Value->Prop
 |[],vs=>vs=[]
 |s::ss,vs=> ∃v vs',vs=v::vs'/\qV g w s v/\v8 g w ss vs'
def OU (g:Gh) (w:World):List pR->Value->Prop
 |[s],v=>qV g w s v
 |l,v=> ∃vs:List Value,v= .tuple vs.toArray/\v8 g w l vs
structure J9 (g:Gh) (w:World) (L:List pQ) (r:pX) (g':Gh) (w':World) (v:Value):Prop where
 shut: ∀b o,g.S b o->g'.S b o/\w'.cell? ⟨b,o,none⟩=w.cell? ⟨b,o,none⟩
 heap:rZ g' w' (qE 0 r.H)
 ret:OU g' w' r.ret v
 fr:Fr (yQ g (qE 0 L)) w w' g.S g'.S
 perm: ∀i blk b o,r.H[i]? =some blk->rP g' i blk b o->w.heap.size<=b\/yQ g (qE 0 L) b o
 J: ∀(i:Nat) t x ts,L[i]? =some (.cells t x ts)->g'.J i=g.J i
 ty: ∀(i:Nat) t x ts u y us,L[i]? =some (.cells t x ts)->r.H[i]? =some (.cells u y us)->u=t
 Jt: ∀i p,i<L.length->g.J i=some p->g'.J i=some p
 cur: ∀i n u,i<L.length->g.cur i n=some u->g'.cur i n=some u
def zE (P:Program) (f:FuncId) (C:List pR->List pQ->Option pX):Prop:=
 (∀args w,(callFunc f args).run P w= .ok (.enter f args) w)/\
 ∀(g:Gh) (w:World) (args:List pR) (vals:List Value) (L:List pQ) (r:pX),rZ g w (qE 0 L)->v8 g w args vals->C args L=some r->(∀p∈r.side,p)->
  Calls P f vals.toArray w (fun e w'=> ∃v g',e= .returned v/\J9 g w L r g' w' v)
def T7 (P:Program) (f:FuncId) (F:(t:Ty)->List t.den->Option (List t.den)):Prop:=
 ∀(g:Gh) (w:World) (e:TypeId) (t:Ty) (l l':List t.den) (v:Value) (n:Nat) (xs:List Value),IK w->w.ownsRow 0 e t.cells v n xs->sS (Rd g w t) t.cells l xs->l.length=n->n<4611686018427387904->F t l=some l'->
  Calls P f #[v] w (fun en w'=>en= .returned (.tuple #[])/\l'.length=n/\∃xs',w'.ownsRow 0 e t.cells v n xs'/\sS (Rd g w t) t.cells l' xs'/\w.grownBy w' v.ownBlock)
def CX (P:Program) (Γ:tW):Prop:= ∀f s,Γ f=some s->zE P f s.C/\∀F,s.row=some F->T7 P f F
theorem a9l {g:Gh}{w:World}{t:Ty}{x:t.den}{v:Value}{k:Option Nat}(h:qV g w (.val t x,k) v):qV g w (.val t x,F1 t k) v:=by
 refine⟨h.1,?_⟩;cases t with
 |list u=>exact h.2
 |_=>trivial
theorem T8 {g g':Gh}{w:World}(hS:g'.S=g.S) {t:Ty}(hp:t.pure=true) {x:t.den}{v:Value}{k k':Option Nat}(h:qV g w (.val t x,k) v) (hk: ∀c,k=some c->∃c',k'=some c'/\∀n u,g.cur c n=some u->g'.cur c' n=some u) (hk0:k=none->k'=none):qV g' w (.val t x,k') v:=by
 have hv:sO g' w t x v:=h.1.imp (fun⟨a,cs,e,q⟩=>⟨a,cs,e,vH hS hp q⟩) (fun⟨a,q⟩=>⟨a,vH hS hp q⟩);refine⟨hv,?_⟩;cases k with
 |none=>rw[hk0 rfl];trivial
 |some c=>
  obtain⟨c',rfl,h2⟩:=hk c rfl;have h1:=h.2;cases t with
  |list u=>exact h2 _ _ h1
  |pair a b=>exact h1
  |_=>exact h1.elim
section
variable {P:Program}{o:Oper}{a:Act}{g:Gh}{w:World}{H:rO}{T:sG}{Γ:tW}(hT:wY P T) (hΓ:CX P Γ) (hH:rZ g w H)
include hT hΓ hH
theorem YZ {ti:Option TI}{s:pR}{v:Value}(h:qV g w s v):qV g w (NU ti s) v:=by
 unfold NU;split
 ·have:v= .slice none 0 0:=h.1;subst this;exact⟨.inr ⟨rfl,none,0,rfl,Nat.le_refl _,.inl rfl⟩,trivial⟩
 ·exact h
theorem a9m {ρ:Operand->pR}: ∀{xs:List Operand}{ts:List TypeId},xs.length=ts.length->(∀x∈xs,qV g w (ρ x) (a.eval x))->v8 g w (F6 T ρ xs ts) (xs.map a.eval)
 |[],[],_,_=>rfl
 |x::xs,t::ts,h,hx=>⟨_,_,rfl,YZ hT hΓ hH (hx x (by simp)),a9m (by simpa using h) (fun y hy=>hx y (by simp [hy]))⟩
theorem aIs {l m:List pR}{vs us:List Value}(h:v8 g w l vs) (k:v8 g w m us):v8 g w (l++m) (vs++us):=by
 induction l generalizing vs with
 |nil=>rw[show vs=[] from h];exact k
 |cons s l ih=>
  obtain⟨v,vs',rfl,h1,h2⟩:=h;exact⟨v,_,rfl,h1,ih h2⟩
theorem a9n: ∀{caps:List (Nat×Nat)}{vs:List Value},xL g caps vs->v8 g w (XV caps) vs
 |[],_,h=>h
 |(i,o)::caps,_,⟨p,vs',h1,h2,h3⟩=>⟨_,_,h2,⟨.inr ⟨rfl,p,h1,rfl⟩,trivial⟩,a9n h3⟩
end
theorem a9o {P:Program}{o:Oper}{a:Act}{f:FuncId}{fop:Operand}{args:Array Operand}{tys:Array TypeId}(ho:o.op= .call ⟨.value fop,args,tys⟩) {caps:List Value}(hf:a.eval fop= .func (.func f) #[] caps.toArray)
  (hen: ∀args w,(callFunc f args).run P w= .ok (.enter f args) w) {w:World}{K:Act->World->Prop}{Q:Exit->Act->World->Prop}
  (h:Calls P f ((args.toList.map a.eval)++caps).toArray w (fun e w'=> ∃v,e= .returned v/\K (a.put o.dst v) w')):o.wp P a w K Q:=by
 unfold Oper.wp;have:(execOp a.eval o).run P w= .ok (.enter f ((args.toList.map a.eval)++caps).toArray) w:=by
  unfold execOp;rw[ho];simp only[resolve,hf,Deferred.ofValue,aRw,aRG,aRp,invoke];rw[hen];congr 2;apply aSv.1;simp
 rw[this];unfold Oper.upon;refine h.mono fun e w' ⟨v,he,hk⟩=> ?_;subst he;exact hk
def vM (g:Gh):Option qR->Option Pl
 |some (.box i _ _ _ o)=>(g.J i).map fun p=>⟨p.1,p.2+o,p.3⟩
 |some (.tok k)=>g.J k
 |none=>none
def AE (g:Gh):Option qR->Nat->Option Value
 |some (.tok k),n=>g.cur k n
 |_,_=>none
def uR (g:Gh) (ws:List qR):Gh:=⟨g.S,fun c=>vM g ws[c]?,fun c n=>AE g ws[c]? n⟩
def T9 (H:rO) (ws:List qR):qR->pQ->Prop
 | .box i u x toks o,.cells t y ts=>pT H i=some (.cells u x toks)/\qO t u x o=some y/\∀q n,(q,n)∈ts->∃k,ws[n]? =some (.tok k)/\wV toks (o+q)=some k/\q<t.cells
 | .tok k,.grow e c m=>pT H k=some (.grow e c m)
 | .tok k,.map s t l=>pT H k=some (.map s t l)/\s.pure=true/\t.pure=true
 | .tok k,.row e t l n=>pT H k=some (.row e t l n)/\t.pure=true
 |_,_=>False
structure FC (H:rO) (ws:List qR) (L:List pQ):Prop where
 len:ws.length=L.length
 ok: ∀(c:Nat) wh b,ws[c]? =some wh->L[c]? =some b->T9 H ws wh b
 nodup:(rW ws).Nodup
def Z0 (ws:List qR) (t:Ty) (x y:t.den):Prop:=(t.pure=true/\y=x)\/BV ws t x=some y
def TA (H:rO) (ws:List qR):qR->pQ->Prop
 | .box i u x toks o,.cells t y ts=>pT H i=some (.cells u x toks)/\(∃y0,qO t u x o=some y0/\Z0 ws t y0 y)/\∀q n,(q,n)∈ts->∃k,ws[n]? =some (.tok k)/\wV toks (o+q)=some k/\q<t.cells
 | .tok k,.grow e c m=>pT H k=some (.grow e c m)
 | .tok k,.map s t l=>pT H k=some (.map s t l)/\s.pure=true/\t.pure=true
 | .tok k,.row e t l n=>pT H k=some (.row e t l n)/\t.pure=true
 |_,_=>False
theorem TB {i o:Nat}: ∀{ws:List qR}{c0:Nat}{c q:Nat},F3 i o ws c0=some (c,q)->∃d u x toks oc,c=c0+d/\ws[d]? =some (.box i u x toks oc)/\o=oc+q
 |[],_,_,_,h=>by simp [F3] at h
 | .box j u x toks oc::r,c0,c,q,h=>by
  simp only[F3] at h;split at h
  ·rename_i hc;simp only[aRg,aRI] at h;obtain⟨rfl,rfl⟩:=h;obtain⟨rfl,h2⟩:=hc;exact⟨0,u,x,toks,oc,rfl,rfl,by omega⟩
  ·obtain⟨d,u',x',toks',oc',h1,h2,h3⟩:=TB h;exact⟨d+1,u',x',toks',oc',by omega,by simpa using h2,h3⟩
 | .tok k::r,c0,c,q,h=>by
  simp only[F3] at h;obtain⟨d,u',x',toks',oc',h1,h2,h3⟩:=TB h;exact⟨d+1,u',x',toks',oc',by omega,by simpa using h2,h3⟩
theorem LL {i:Nat}: ∀{ws:List qR}{c0 c:Nat},vT i ws c0=some c->∃d,c=c0+d/\ws[d]? =some (.tok i)
 |[],_,_,h=>by simp [vT] at h
 | .tok j::r,c0,c,h=>by
  simp only[vT] at h;split at h
  ·rename_i hc;simp only[aRg] at h;subst h;subst hc;exact⟨0,rfl,rfl⟩
  ·obtain⟨d,h1,h2⟩:=LL h;exact⟨d+1,by omega,by simpa using h2⟩
 | .box _ _ _ _ _::r,c0,c,h=>by
  simp only[vT] at h;obtain⟨d,h1,h2⟩:=LL h;exact⟨d+1,by omega,by simpa using h2⟩
theorem Z1 {α β:Type}{a:Option α}{b:Option β}{p:α×β}(h:IQ a b=some p):a=some p.1/\b=some p.2:=by
 cases a<;>cases b<;>simp [IQ] at h
 subst h;exact⟨rfl,rfl⟩
theorem aIt {x y:Option (Nat×List (Nat×Nat))}(h:NV x=some y):y=x/\∀f l,x=some (f,l)->l=[]:=by
 unfold NV at h;split at h
 ·cases h;exact⟨rfl,fun _ _ h=>by cases h⟩
 ·cases h;exact⟨rfl,fun _ _ h=>by cases h;rfl⟩
 ·cases h
theorem aIu {g g':Gh}{x:Option (Nat×List (Nat×Nat))}{cs:List Value}(hx: ∀f l,x=some (f,l)->l=[]) (h:OF g x cs):OF g' x cs:=by
 cases x with
 |none=>exact h
 |some q=>
  obtain⟨f,l⟩:=q;obtain rfl:=hx f l rfl;exact h
theorem TC {g g':Gh}{w:World}(hS:g'.S=g.S) (f:(t:Ty)->t.den->Option t.den)
  (hp: ∀a b x,f (.pair a b) x=IQ (if a.pure=true then some x.1 else f a x.1) (if b.pure=true then some x.2 else f b x.2))
  (hl: ∀t x,f (.list t) x=if t.pure=true then some x else none) (hb: ∀x,f .bool x=some x) (hi: ∀k x,f (.int k) x=some x) (hs: ∀x,f .str x=some x) (hu: ∀x,f .unit x=some x) (hfn: ∀x,f .fn x=some x) (hrl: ∀e t x y cs,f (.rl e t) x=some y->BY g x cs->BY g' y cs) (hmr: ∀x y cs,f .mref x=some y->OG g x cs->OG g' y cs)
  (hr: ∀x y cs,f .ref x=some y->OE g x cs->OE g' y cs) (hm: ∀x y cs,f .mp x=some y->LE g x cs->LE g' y cs) (hc: ∀x,f .clo x=NV x):
  ∀{t:Ty}{x y:t.den}{cs:List Value},Rd g w t x cs->f t x=some y->Rd g' w t y cs
 | .bool,_,_,_,r,h=>by rw[hb] at h;cases h;exact r
 | .int _,_,_,_,r,h=>by rw[hi] at h;cases h;exact r
 | .str,_,_,_,r,h=>by rw[hs] at h;cases h;exact r
 | .unit,_,_,_,r,h=>by rw[hu] at h;cases h;exact r
 | .rl e t,x,y,_,r,h=>hrl e t x y _ h r
 | .fn,_,_,_,r,h=>by rw[hfn] at h;cases h;exact r
 | .mref,x,y,_,r,h=>hmr x y _ h r
 | .list t,x,y,_,r,h=>by
  rw[hl] at h;split at h
  ·rename_i hpu;cases h;exact vH hS (t:= .list t) (by simpa[Ty.pure] using hpu) r
  ·cases h
 | .ref,x,y,_,r,h=>hr x y _ h r
 | .clo,x,y,_,r,h=>by
  rw[hc] at h;obtain⟨rfl,h2⟩:=aIt h;exact aIu h2 r
 | .mp,x,y,_,r,h=>hm x y _ h r
 | .pair a b,x,y,_,⟨c1,c2,e,r1,r2⟩,h=>by
  rw[hp] at h;obtain⟨h1,h2⟩:=Z1 h;refine⟨c1,c2,e,?_,?_⟩
  ·split at h1
   ·rename_i hpu;exact(aRl h1)▸vH hS hpu r1
   ·exact TC hS f hp hl hb hi hs hu hfn hrl hmr hr hm hc r1 h1
  ·split at h2
   ·rename_i hpu;exact(aRl h2)▸vH hS hpu r2
   ·exact TC hS f hp hl hb hi hs hu hfn hrl hmr hr hm hc r2 h2
theorem Z2 (f:(t:Ty)->t.den->Option t.den)
  (hp: ∀a b x,f (.pair a b) x=IQ (if a.pure=true then some x.1 else f a x.1) (if b.pure=true then some x.2 else f b x.2))
  (hl: ∀t x,f (.list t) x=if t.pure=true then some x else none) {u:Ty}: ∀{t:Ty}{x y:t.den}{o:Nat}{l:List u.den},f t x=some y->qO (.list u) t x o=some l->qO (.list u) t y o=some l:=by
 intro t
 induction t with
 |pair a b iha ihb=>
  intro x y o l h hg;rw[hp] at h;obtain⟨h1,h2⟩:=Z1 h;have key: ∀z:(Ty.pair a b).den,∀q,qO (.list u) (.pair a b) z q=if q<a.cells then qO (.list u) a z.1 q else qO (.list u) b z.2 (q-a.cells):=by
   intro z q;cases q with
   |zero=>
    conv=>lhs;unfold qO
    rw[aS4 (by intro e;cases e),Nat.zero_sub]
   |succ q=>simp [qO]
  rw[key] at hg⊢;split
  ·rename_i ho;rw[if_pos ho] at hg;split at h1
   ·rw[<-aRl h1];exact hg
   ·exact iha h1 hg
  ·rename_i ho;rw[if_neg ho] at hg;split at h2
   ·rw[<-aRl h2];exact hg
   ·exact ihb h2 hg
 |list v=>
  intro x y o l h hg;rw[hl] at h;split at h
  ·cases h;exact hg
  ·cases h
 |_=>
  intro x y o l h hg;cases o with
  |zero=>
   unfold qO at hg;split at hg
   ·rename_i e;cases e
   ·cases hg
  |succ o=>simp [qO] at hg
theorem aIv {g:Gh}{w:World}{ws:List qR}{t:Ty}{x y:t.den}{cs:List Value}(r:Rd g w t x cs) (h:BV ws t x=some y):Rd (uR g ws) w t y cs:=by
 refine TC (g:=g) (g':=uR g ws) rfl (BV ws) (fun a b x=>rfl) (fun t x=>rfl) (fun _=>rfl) (fun _ _=>rfl) (fun _=>rfl) (fun _=>rfl) (fun _=>rfl) (fun _ _ x y cs h r=> ?_) (fun x y cs h r=> ?_) (fun x y cs h r=> ?_) (fun x y cs h r=> ?_) (fun _=>rfl) r h
 ·cases x with
  |none=>cases h;exact r
  |some q=>
   obtain⟨k,n⟩:=q;simp only[BV,a71] at h;cases hc:vT k ws 0 with
   |none=>rw[hc] at h;cases h
   |some c=>
    rw[hc] at h;cases h;obtain⟨d,rfl,h2⟩:=LL hc;obtain⟨v,hv,hs⟩:=r;refine⟨v,?_,hs⟩;show AE g ws[0+d]? n=_;rw[aRR,h2];exact hv
 ·cases x with
  |none=>cases h;exact r
  |some q=>
   obtain⟨i,o⟩:=q;simp only[BV,RJ] at h;cases hc:F3 i o ws 0 with
   |none=>rw[hc] at h;cases h
   |some q=>
    obtain⟨c,q⟩:=q;rw[hc] at h;cases h;obtain⟨d,u,x,toks,oc,rfl,h2,rfl⟩:=TB hc;obtain⟨p,hp,hv⟩:=r;refine⟨⟨p.1,p.2+oc,p.3⟩,?_,by have:=hv.1;rwa [<-aR0] at this,hv.2.imp id fun hv=>by rw[hv];simp [aR0]⟩;show vM g ws[0+d]? =_;rw[aRR,h2];simp [vM,hp]
 ·cases x with
  |none=>cases h;exact r
  |some q=>
   obtain⟨i,o⟩:=q;simp only[BV,RJ] at h;cases hc:F3 i o ws 0 with
   |none=>rw[hc] at h;cases h
   |some q=>
    obtain⟨c,q⟩:=q;rw[hc] at h;cases h;obtain⟨d,u,x,toks,oc,rfl,h2,rfl⟩:=TB hc;obtain⟨p,hp,hv⟩:=r;refine⟨⟨p.1,p.2+oc,p.3⟩,?_,by rw[hv];simp [aR0]⟩;show vM g ws[0+d]? =_;rw[aRR,h2];simp [vM,hp]
 ·cases x with
  |none=>cases h;exact r
  |some i=>
   simp only[BV,a7Z] at h;cases hc:vT i ws 0 with
   |none=>rw[hc] at h;cases h
   |some c=>
    rw[hc] at h;cases h;obtain⟨d,rfl,h2⟩:=LL hc;obtain⟨p,hp,hv⟩:=r;refine⟨p,?_,hv⟩;show vM g ws[0+d]? =_;rw[aRR,h2];exact hp
theorem aIw {g:Gh}{w:World}{ws:List qR}{t:Ty}{x y:t.den}{cs:List Value}(h:Z0 ws t x y) (r:Rd g w t x cs):Rd (uR g ws) w t y cs:=by
 rcases h with⟨hp,rfl⟩ |h
 ·exact vH (g:=g) (g':=uR g ws) rfl hp r
 ·exact aIv r h
theorem aIx {ws:List qR}{t u:Ty}{x y:t.den}{o:Nat}{l:List u.den}(h:Z0 ws t x y) (hg:qO (.list u) t x o=some l):qO (.list u) t y o=some l:=by
 rcases h with⟨_,rfl⟩ |h
 ·exact hg
 ·exact Z2 (BV ws) (fun _ _ _=>rfl) (fun _ _=>rfl) h hg
structure OV (H:rO) (ws:List qR) (L:List pQ):Prop where
 len:ws.length=L.length
 ok: ∀(c:Nat) wh b,ws[c]? =some wh->L[c]? =some b->TA H ws wh b
 nodup:(rW ws).Nodup
theorem Z3: ∀(ws:List qR) (c:Nat),(rW ws)[c]? =(ws[c]?).map qR.id
 |[],c=>by simp [rW]
 |w::ws,0=>rfl
 |w::ws,c+1=>by simpa[rW] using Z3 ws c
theorem H7: ∀ws ws':List qR,rW (ws++ws')=rW ws++rW ws'
 |[],_=>rfl
 |w::ws,ws'=>by simp [rW,H7 ws ws']
theorem JA: ∀{i:Nat}{l:List Nat},BU i l=true↔i∈l
 |i,[]=>by simp [BU]
 |i,j::r=>by
  simp only[BU,aRv];by_cases h:i=j
  ·simp [h]
  ·rw[if_neg h,JA];simp [h]
theorem TD {ws:List qR}(h:(rW ws).Nodup) {c c':Nat}{x y:qR}(hx:ws[c]? =some x) (hy:ws[c']? =some y) (he:x.id=y.id):c=c':=by
 have h1:(rW ws)[c]? =some x.id:=by rw[Z3,hx];rfl
 have h2:(rW ws)[c']? =some x.id:=by rw[Z3,hy,he];rfl
 obtain⟨l1,e1⟩:=aRu.1 h1;obtain⟨l2,e2⟩:=aRu.1 h2;have hp:=aSm.1 h;rcases Nat.lt_trichotomy c c' with h3|h3|h3
 ·exact absurd (e1.trans e2.symm) (hp c c' l1 l2 h3)
 ·exact h3
 ·exact absurd (e2.trans e1.symm) (hp c' c l2 l1 h3)
theorem a9p: ∀{toks:List (Nat×Nat)}{q k:Nat},wV toks q=some k->(q,k)∈toks
 |[],_,_,h=>by simp [wV] at h
 |(q',k')::r,q,k,h=>by
  simp only[wV] at h;split at h
  ·rename_i e;subst e;simp only[aRg] at h;subst h;simp
  ·exact aRt _ (a9p h)
theorem aIy {v t:Ty}: ∀{u:Ty}{x:u.den}{o q:Nat}{y:t.den}{l:(Ty.list v).den},qO t u x o=some y->qO (.list v) u x (o+q)=some l->q<t.cells->qO (.list v) t y q=some l:=by
 intro u
 induction u with
 |pair a b iha ihb=>
  intro x o q y l h g hq;by_cases hu:o=0/\t= .pair a b
  ·obtain⟨rfl,rfl⟩:=hu;unfold qO at h;rw[aTt rfl] at h;simp only[tV,aRg] at h;subst h;simpa using g
  ·have keyh:(if o<a.cells then qO t a x.1 o else qO t b x.2 (o-a.cells))=some y:=by
    cases o with
    |zero=>
     unfold qO at h;rw[aS4 (fun e=>hu ⟨rfl,e.symm⟩)] at h;simpa using h
    |succ o=>simpa[qO] using h
   have keyg: ∀z,qO (.list v) (.pair a b) x z=(if z<a.cells then qO (.list v) a x.1 z else qO (.list v) b x.2 (z-a.cells)):=by
    intro z;cases z with
    |zero=>
     conv=>lhs;unfold qO
     rw[aS4 (by intro e;cases e),Nat.zero_sub]
    |succ z=>simp [qO]
   rw[keyg] at g;by_cases ho:o<a.cells
   ·rw[if_pos ho] at keyh;have hfit:o+t.cells<=a.cells:=by
     have: ∀{u:Ty}{x:u.den}{o:Nat}{y:t.den},qO t u x o=some y->o+t.cells<=u.cells:=by
      intro u
      induction u with
      |pair a b iha ihb=>
       intro x o y h;have key: ∀o,(if o<a.cells then qO t a x.1 o else qO t b x.2 (o-a.cells))=some y->o+t.cells<=a.cells+b.cells:=by
        intro o h;by_cases ho:o<a.cells
        ·rw[if_pos ho] at h;have:=iha h;omega
        ·rw[if_neg ho] at h;have:=ihb h;omega
       cases o with
       |zero=>
        unfold qO at h;split at h
        ·rename_i e;subst e;simp
        ·exact key 0 (by simpa using h)
       |succ o=>exact key (o+1) (by simpa[qO] using h)
      |_=>
       intro x o y h;cases o with
       |zero=>
        unfold qO at h;split at h
        ·rename_i e;subst e;simp
        ·simp at h
       |succ o=>simp [qO] at h
     exact this keyh
    rw[if_pos (by omega)] at g;exact iha keyh g hq
   ·rw[if_neg ho] at keyh;rw[if_neg (by omega),show o+q-a.cells=o-a.cells+q from by omega] at g;exact ihb keyh g hq
 |_=>
  intro x o q y l h g hq;cases o with
  |zero=>
   unfold qO at h;split at h
   ·rename_i e;subst e;simp only[tV,aRg] at h
    try subst h
    simpa using g
   ·simp at h
  |succ o=>simp [qO] at h
theorem aIz {g:Gh}{w:World}{H:rO}{ws:List qR}{L:List pQ}(hH:rZ g w H) (hm:OV H ws L):rZ (uR g ws) w (qE 0 L):=by
 have wsL: ∀c b,pT (qE 0 L) c=some b->∃wh,ws[c]? =some wh/\TA H ws wh b:=by
  intro c b h;rw[xM] at h;have hlt:c<ws.length:=hm.len▸(aRu.1 h).1;exact⟨ws[c],aRn hlt,hm.ok c _ b (aRn hlt) h⟩
 have own: ∀c b wh,ws[c]? =some wh->TA H ws wh b->∀bb oo,rP (uR g ws) c b bb oo->∃blk,pT H wh.id=some blk/\rP g wh.id blk bb oo:=by
  intro c b wh hwh hw bb oo ho;cases wh with
  |box i u x toks off=>
   cases b with
   |cells t y ts=>
    obtain⟨h1,⟨y0,h2,h3⟩,h4⟩:=hw;obtain⟨p,hp,e1,e2,e3⟩:=ho;have hp':vM g ws[c]? =some p:=hp;rw[hwh] at hp';obtain⟨p0,hp0,rfl⟩:=aRx.1 hp';obtain⟨p1,cs,hp1,hR,_⟩:=hH.blk i _ h1;obtain⟨c1,c2,c3,hcs,hl,hR2⟩:=CR hR h2;have l1:=sH hR;have l2:=sH hR2;rw[hcs] at l1;simp only[aRh] at l1;exact⟨_,h1,p0,hp0,e1,by simp at e2;omega,by simp at e3;omega⟩
   |_=>exact hw.elim
  |tok k=>
   cases b with
   |grow e cc m=>
    obtain⟨v,hv,hb⟩:=ho;have hv':AE g ws[c]? m=some v:=hv;rw[hwh] at hv';exact⟨_,hw,v,hv',hb⟩
   |map s t l=>
    obtain⟨p,hp,hb⟩:=ho;have hp':vM g ws[c]? =some p:=hp;rw[hwh] at hp';exact⟨_,hw.1,p,hp',hb⟩
   |row e t l m=>
    obtain⟨v,hv,hb⟩:=ho;have hv':AE g ws[c]? m=some v:=hv;rw[hwh] at hv';exact⟨_,hw.1,v,hv',hb⟩
   |_=>exact hw.elim
 refine⟨fun c b h=> ?_,fun c c' b b' bb oo hne h1 h2 o1 o2=> ?_,hH.sl,hH.tab.1,fun c b bb oo h ho=> ?_⟩
 rotate_right
 ·obtain⟨wh,hwh,hw⟩:=wsL c b h;obtain⟨k1,g1,p1⟩:=own c b wh hwh hw bb oo ho;exact hH.tab.2 _ _ bb oo g1 p1
 ·obtain⟨wh,hwh,hw⟩:=wsL c b h;cases wh with
  |box i u x toks off=>
   cases b with
   |cells t y ts=>
    obtain⟨h1,⟨y0,h2,h3⟩,h4⟩:=hw;obtain⟨p,cs,hp,hR,hra,hth,hns,htk⟩:=hH.blk i _ h1;obtain⟨c1,c2,c3,rfl,rfl,hR2⟩:=CR hR h2;have l1:=sH hR;have l2:=sH hR2;simp only[aRh] at l1;refine⟨⟨p.1,p.2+c1.length,p.3⟩,c2,?_,aIw h3 hR2,fun j v hv=> ?_,⟨fun j hj=> ?_,fun h0 s hs=>hth.2 (by omega) s hs⟩,fun j hj hs=> ?_,fun q n hm'=> ?_⟩
    ·show vM g ws[c]? =_;rw[hwh];simp [vM,hp]
    ·have:=hra (c1.length+j) v (by
      have hj':=(aRu.1 hv).1;rw[aRo,aRq (by omega),aR1,aRz hj'];exact hv)
     rw[aR0];exact this
    ·have:=hth.1 (c1.length+j) (by omega);rw[aR0];exact this
    ·exact hns (c1.length+j) (by omega) (by rw[<-aR0];exact hs)
    ·obtain⟨k,k1,k2,k3⟩:=h4 q n hm';have hmem:(c1.length+q,k)∈toks:=a9p k2;obtain⟨u',l,v,g1,g2,g3⟩:=htk _ _ hmem;refine⟨u',l,v,aIx h3 (aIy h2 g1 k3),?_,?_⟩
     ·rw[aRo,aRq (by omega),aR1,aRz (by omega)] at g2;exact g2
     ·show AE g ws[n]? _=_;rw[k1];exact g3
   |_=>exact hw.elim
  |tok k=>
   cases b with
   |grow e cc m=>
    have e1:(uR g ws).cur c=g.cur k:=by
     funext n;show AE g ws[c]? n=_;rw[hwh];rfl
    obtain⟨v,xs,hv,hr,hn,hs⟩:=hH.blk k _ hw;exact⟨v,xs,by rw[e1];exact hv,hr,fun m hm'=>by rw[e1];exact hn m hm',hs⟩
   |map s t l=>
    obtain⟨p,es,cl,hp,hp0,hh,hM,hS⟩:=hH.blk k _ hw.1;refine⟨p,es,cl,?_,hp0,hh,OH (g:=g) (g':=uR g ws) rfl hw.2.1 hw.2.2 hM,hS⟩;show vM g ws[c]? =_;rw[hwh];exact hp
   |row e t l m=>
    have e1:(uR g ws).cur c=g.cur k:=by
     funext n;show AE g ws[c]? n=_;rw[hwh];rfl
    obtain⟨hl,v,xs,hv,hr,hF,hn,hs⟩:=hH.blk k _ hw.1;exact⟨hl,v,xs,by rw[e1];exact hv,hr,BD (fun _ _ h=>vH (g:=g) (g':=uR g ws) rfl hw.2 h) hF,fun m hm'=>by rw[e1];exact hn m hm',hs⟩
   |_=>exact hw.elim
 ·obtain⟨wh,hwh,hw⟩:=wsL c b h1;obtain⟨wh',hwh',hw'⟩:=wsL c' b' h2;obtain⟨k1,g1,p1⟩:=own c b wh hwh hw bb oo o1;obtain⟨k2,g2,p2⟩:=own c' b' wh' hwh' hw' bb oo o2;exact hH.dis wh.id wh'.id k1 k2 bb oo (fun e=>hne (TD hm.nodup hwh hwh' e)) g1 g2 p1 p2
theorem a9q {H:rO}{ws more:List qR}: ∀{wh:qR}{b:pQ},T9 H ws wh b->T9 H (ws++more) wh b
 | .box _ _ _ _ _,.cells _ _ _,⟨h1,h2,h4⟩=>⟨h1,h2,fun q n h=>let ⟨k,k1,k2⟩:=h4 q n h;⟨k,by rw[aRz (aRu.1 k1).1];exact k1,k2⟩⟩
 | .box _ _ _ _ _,.grow _ _ _,h=>h.elim
 | .box _ _ _ _ _,.dead,h=>h.elim
 | .box _ _ _ _ _,.row _ _ _ _,h=>h.elim
 | .box _ _ _ _ _,.map _ _ _,h=>h.elim
 | .box _ _ _ _ _,.iter _ _,h=>h.elim
 | .tok _,.iter _ _,h=>h.elim
 | .tok _,.row _ _ _ _,h=>h
 | .tok _,.grow _ _ _,h=>h
 | .tok _,.map _ _ _,h=>h
 | .tok _,.cells _ _ _,h=>h.elim
 | .tok _,.dead,h=>h.elim
theorem LM (g:Gh) (w:World) (ws more:List qR):Le (uR g ws) w (uR g (ws++more)) w:=by
 refine⟨fun _ _ h=>h,fun _ _ _=>rfl,fun c p h=> ?_,fun c n v h=> ?_⟩
 ·have h':vM g ws[c]? =some p:=h;show vM g (ws++more)[c]? =some p;cases hc:ws[c]? with
  |none=>rw[hc] at h';cases h'
  |some wh=>rw[aRz (aRu.1 hc).1];exact h'
 ·have h':AE g ws[c]? n=some v:=h;show AE g (ws++more)[c]? n=some v;cases hc:ws[c]? with
  |none=>rw[hc] at h';cases h'
  |some wh=>rw[aRz (aRu.1 hc).1];exact h'
theorem LO {g g':Gh}{w w':World}(h:Le g w g' w'): ∀{ss:List pR}{vs:List Value},v8 g w ss vs->v8 g' w' ss vs
 |[],_,r=>r
 |_::_,_,⟨v,vs',e,r1,r2⟩=>⟨v,vs',e,AC h r1,LO h r2⟩
theorem H8 {g:Gh}{w:World}: ∀{ss:List pR}{vs:List Value}{s:pR}{v:Value},v8 g w ss vs->qV g w s v->v8 g w (ss++[s]) (vs++[v])
 |[],_,_,_,h,k=>by rw[show _=[] from h];exact⟨_,_,rfl,k,rfl⟩
 |_::_,_,_,_,⟨v,vs',e,r1,r2⟩,k=>⟨v,vs'++_,by rw[e];rfl,r1,H8 r2 k⟩
theorem FC.tok {H:rO}{ws:List qR}{L:List pQ}(h:FC H ws L) {k:Nat}{b0:pQ}(hk:T9 H (ws++[.tok k]) (.tok k) b0) (hn:k∉rW ws):FC H (ws++[.tok k]) (L++[b0]):=by
 refine⟨by simp [h.len],fun i wh b h1 h2=> ?_,?_⟩
 ·by_cases hi:i<ws.length
  ·rw[aRz hi] at h1;rw[aRz (h.len▸hi)] at h2;exact a9q (h.ok i wh b h1 h2)
  ·rw[aRq (by omega)] at h1;rw[aRq (by rw[<-h.len];omega),<-h.len] at h2;obtain⟨d,hd⟩: ∃d,i-ws.length=d:=⟨_,rfl⟩;rw[hd] at h1 h2;cases d with
   |zero=>
    simp only[aRM,aRg] at h1 h2;subst h1;subst h2;exact hk
   |succ d=>simp at h1
 ·rw[H7];exact List.nodup_append.2 ⟨h.nodup,by simp [rW],fun a ha b hb=>by
   simp only[rW,qR.id,aRr] at hb;subst hb;intro e;exact hn (e▸ha)⟩
theorem a9r: ∀{os:List Nat}{n q m:Nat},(q,m)∈IN os n->∃j:Nat,os[j]? =some q/\m=n+j
 |[],_,_,_,h=>by simp [IN] at h
 |q'::os,n,q,m,h=>by
  simp only[IN,aRv,aRI] at h;rcases h with⟨rfl,rfl⟩ |h
  ·exact⟨0,rfl,rfl⟩
  ·obtain⟨j,h1,h2⟩:=a9r h;exact⟨j+1,by simpa using h1,by omega⟩
theorem a9s {n:Nat}: ∀{os:List Nat}{j q:Nat},KW n os=true->os[j]? =some q->q<n
 |[],_,_,_,h=>by simp at h
 |q'::os,0,q,h,h2=>by
  simp only[KW,aRm,aRk] at h;simp only[aRM,aRg] at h2;exact h2▸h.1
 |q'::os,j+1,q,h,h2=>by
  simp only[KW,aRm] at h;exact a9s h.2 (by simpa using h2)
theorem TE {H:rO}{toks:List (Nat×Nat)}{o:Nat}: ∀{os:List Nat}{a a':sM},xW H toks o os (some a)=some a'->
  ∃(ks:List Nat) (bs:List pQ),ks.length=os.length/\bs.length=os.length/\a'.args=a.args/\a'.H.reverse=a.H.reverse++bs/\a'.ws.reverse=a.ws.reverse++ks.map qR.tok/\a'.n=a.n+os.length/\
   (∀(j:Nat) q k,os[j]? =some q->ks[j]? =some k->wV toks (o+q)=some k)/\(∀(j:Nat) k b,ks[j]? =some k->bs[j]? =some b->pT H k=some b/\∃e c m,b= .grow e c m)/\(∀k∈ks,k∉rW a.ws.reverse)/\ks.Nodup
 |[],a,a',h=>by
  simp only[xW,aRg] at h;subst h;exact⟨[],[],rfl,rfl,rfl,by simp,by simp,rfl,by simp,by simp,by simp,by simp⟩
 |q::os,a,a',h=>by
  simp only[xW] at h;have none_no: ∀os,xW H toks o os none=none:=by
   intro os
   induction os with
   |nil=>rfl
   |cons q os ih=>
    have:yK H (wV toks (o+q)) none=none:=by
     cases wV toks (o+q) with
     |none=>rfl
     |some k=>simp only[yK];cases pT H k with
      |none=>rfl
      |some b=>cases b<;>rfl
    simp only[xW,this,ih]
  cases hk:wV toks (o+q) with
  |none=>rw[hk] at h;simp only[yK,none_no] at h;cases h
  |some k=>
   rw[hk] at h;simp only[yK] at h;cases hb:pT H k with
   |none=>rw[hb] at h;simp only[B5,none_no] at h;cases h
   |some b=>
    rw[hb] at h;cases b with
    |grow e c m=>
     simp only[B5] at h;by_cases hm:BU k (rW a.ws)=true
     ·rw[if_pos hm,none_no] at h;cases h
     ·rw[if_neg hm] at h;obtain⟨ks,bs,h1,h2,h3,h4,h5,h6,h7,h8,h9,h10⟩:=TE h;simp only[aR9] at h4 h5 h9;have hrev: ∀ws:List qR,∀i,i∈rW ws.reverse↔i∈rW ws:=by
       intro ws i
       induction ws with
       |nil=>simp
       |cons x r ih=>rw[aR9,H7];simp [rW,ih,or_comm]
      refine⟨k::ks,.grow e c m::bs,by simp [h1],by simp [h2],h3,by rw[h4];simp,by rw[h5];simp,by rw[h6];simp;omega,fun j q' k'=> ?_,fun j k' b'=> ?_,fun k' hk'=> ?_,?_⟩
      ·cases j with
       |zero=>intro e1 e2;simp only[aRM,aRg] at e1 e2;subst e1;subst e2;exact hk
       |succ j=>intro e1 e2;exact h7 j q' k' (by simpa using e1) (by simpa using e2)
      ·cases j with
       |zero=>intro e1 e2;simp only[aRM,aRg] at e1 e2;subst e1;subst e2;exact⟨hb,_,_,_,rfl⟩
       |succ j=>intro e1 e2;exact h8 j k' b' (by simpa using e1) (by simpa using e2)
      ·rcases aRv.1 hk' with rfl|hk'
       ·rw[hrev];exact fun hmem=>hm (JA.2 hmem)
       ·intro hmem;exact h9 k' hk' (by rw[H7];exact List.mem_append_left _ hmem)
      ·refine List.nodup_cons.2 ⟨fun hmem=>h9 k hmem (by rw[H7];simp [rW,qR.id]),h10⟩
    |cells t y ts=>simp only[B5,none_no] at h;cases h
    |row=>simp only[B5,none_no] at h;cases h
    |map=>simp only[B5,none_no] at h;cases h
    |iter=>simp only[B5,none_no] at h;cases h
    |dead=>simp only[B5,none_no] at h;cases h
theorem a9t: ∀ks:List Nat,rW (ks.map qR.tok)=ks
 |[]=>rfl
 |k::ks=>by simp [rW,qR.id,a9t ks]
theorem FC.box {H:rO}{ws:List qR}{L:List pQ}(h:FC H ws L) {t u:Ty}{x:u.den}{y:t.den}{toks:List (Nat×Nat)}{i o:Nat}{os ks:List Nat}{bs:List pQ}(hi:pT H i=some (.cells u x toks)) (hy:qO t u x o=some y) (hlt:KW t.cells os=true) (hn:i∉rW ws)
  (h1:ks.length=os.length) (h2:bs.length=os.length) (h7: ∀(j:Nat) q k,os[j]? =some q->ks[j]? =some k->wV toks (o+q)=some k) (h8: ∀(j:Nat) k b,ks[j]? =some k->bs[j]? =some b->pT H k=some b/\∃e c m,b= .grow e c m) (h9: ∀k∈ks,k∉rW (ws++[.box i u x toks o])) (h10:ks.Nodup):
  FC H ((ws++[.box i u x toks o])++ks.map qR.tok) ((L++[.cells t y (IN os (ws.length+1))])++bs):=by
 have hlen1:(ws++[qR.box i u x toks o]).length=ws.length+1:=by simp
 have hlen2:(L++[pQ.cells t y (IN os (ws.length+1))]).length=ws.length+1:=by simp [h.len]
 refine⟨by simp [h.len,h1,h2],fun c wh b e1 e2=> ?_,?_⟩
 ·by_cases hc:c<ws.length
  ·rw[aRz (by omega),aRz hc] at e1;rw[aRz (by omega),aRz (h.len▸hc)] at e2;rw[aRo];exact a9q (h.ok c wh b e1 e2)
  ·by_cases hc2:c=ws.length
   ·subst hc2;rw[aRz (by omega),aRq (Nat.le_refl _),aTj] at e1;rw[aRz (by omega),aRq (by rw[h.len];exact Nat.le_refl _),h.len,aTj] at e2;simp only[aRM,aRg] at e1 e2;subst e1;subst e2;refine⟨hi,hy,fun q n hm=> ?_⟩;rw[<-h.len] at hm;obtain⟨j,hj,rfl⟩:=a9r hm;have hjl:j<ks.length:=by rw[h1];exact(aRu.1 hj).1
    refine⟨ks[j],?_,h7 j q _ hj (aRn hjl),a9s hlt hj⟩;rw[aRq (by omega),hlen1,show ws.length+1+j- (ws.length+1)=j from by omega];simp [hjl]
   ·rw[aRq (by omega),hlen1] at e1;rw[aRq (by omega),hlen2] at e2;rw[List.getElem?_map] at e1;obtain⟨k,hk,rfl⟩:=aRx.1 e1;obtain⟨hg,e,cc,m,rfl⟩:=h8 _ k b hk e2;exact hg
 ·rw[H7,a9t];refine List.nodup_append.2 ⟨?_,h10,fun a ha b hb e=>h9 b hb (e▸ha)⟩;rw[H7];exact List.nodup_append.2 ⟨h.nodup,by simp [rW],fun a ha b hb=>by
   simp only[rW,qR.id,aRr] at hb;subst hb;intro e;exact hn (e▸ha)⟩
theorem TF (ws:List qR) (i:Nat):i∈rW ws.reverse↔i∈rW ws:=by
 induction ws with
 |nil=>simp
 |cons x r ih=>rw[aR9,H7];simp [rW,ih,or_comm]
structure AF (g:Gh) (w:World) (H:rO) (vals:List Value) (a:sM):Prop where
 n:a.n=a.ws.reverse.length
 m:FC H a.ws.reverse a.H.reverse
 args:v8 (uR g a.ws.reverse) w a.args.reverse vals
theorem aIA {g:Gh}{w:World}{ws:List qR}{t:Ty}(hp:t.pure=true) {x:t.den}{v:Value}{k:Option Nat}(h:qV g w (.val t x,k) v):qV (uR g ws) w (.val t x,none) v:=
 ⟨h.1.imp (fun⟨a,cs,e,q⟩=>⟨a,cs,e,vH (g:=g) (g':=uR g ws) rfl hp q⟩) (fun⟨a,q⟩=>⟨a,vH (g:=g) (g':=uR g ws) rfl hp q⟩),trivial⟩
theorem aIB {H:rO}{k:Option Nat}{a b:sM}{l m:List pR}(h:yK H k (some ⟨l,a.H,a.ws,a.n⟩)=some b):b.args=l/\yK H k (some ⟨m,a.H,a.ws,a.n⟩)=some ⟨m,b.H,b.ws,b.n⟩:=by
 cases k with
 |none=>cases h
 |some k=>
  simp only[yK] at h⊢;cases hb:pT H k with
  |none=>rw[hb] at h;simp [B5] at h
  |some bl=>
   rw[hb] at h;cases bl with
   |grow e c n=>
    simp only[B5] at h⊢;split at h
    ·cases h
    ·rename_i hc;rw[if_neg hc];cases h;exact⟨rfl,rfl⟩
   |_=>simp [B5] at h
theorem a9u {H:rO}{toks:List (Nat×Nat)}{o:Nat}{m:List pR}: ∀{os:List Nat}{a b:sM},xW H toks o os (some a)=some b->b.args=a.args/\xW H toks o os (some ⟨m,a.H,a.ws,a.n⟩)=some ⟨m,b.H,b.ws,b.n⟩
 |[],a,b,h=>by simp only[xW,aRg] at h;subst h;exact⟨rfl,rfl⟩
 |q::os,a,b,h=>by
  simp only[xW] at h⊢;have none_no: ∀os,xW H toks o os none=none:=by
   intro os
   induction os with
   |nil=>rfl
   |cons q os ih=>
    have:yK H (wV toks (o+q)) none=none:=by
     cases wV toks (o+q) with
     |none=>rfl
     |some k=>simp only[yK];cases pT H k with
      |none=>rfl
      |some b=>cases b<;>rfl
    simp only[xW,this,ih]
  cases hm:yK H (wV toks (o+q)) (some a) with
  |none=>rw[hm,none_no] at h;cases h
  |some c=>
   rw[hm] at h;obtain⟨h1,h2⟩:=aIB (a:=a) (l:=a.args) (m:=m) hm;obtain⟨h3,h4⟩:=a9u (m:=m) h;rw[h2];exact⟨h3.trans h1,h4⟩
theorem aIC {H:rO}{t:Ty}{os:List Nat}{i o:Nat}{a b:sM}{m:List pR}(h:vG H t os i o a (pT H i)=some b):vG H t os i o ⟨m,a.H,a.ws,a.n⟩ (pT H i)=some ⟨(.val .ref (some (a.n,0)),none)::m,b.H,b.ws,b.n⟩:=by
 cases hb:pT H i with
 |none=>rw[hb] at h;simp [vG] at h
 |some bl=>
  rw[hb] at h;cases bl with
  |cells u x toks=>
   simp only[vG] at h⊢;cases hy:qO t u x o with
   |none=>rw[hy] at h;simp [DK] at h
   |some y=>
    rw[hy] at h;simp only[DK] at h⊢;split at h
    ·rename_i hc;rw[if_pos hc];exact(a9u (m:=(.val .ref (some (a.n,0)),none)::m) h).2
    ·cases h
  |_=>simp [vG] at h
theorem a9v {g:Gh}{i o:Nat}{p:Pl}{v:Value}: ∀{l:List (Nat×Nat)}{vs:List Value},xL g l vs->g.J i=some p->v= .pointer (some ⟨p.1,p.2+o,none⟩)->xL g (l++[(i,o)]) (vs++[v])
 |[],vs,h,hp,hv=>by rw[show vs=[] from h];exact⟨p,[],hp,by rw[hv];rfl,rfl⟩
 |(_,_)::l,vs,⟨q,vs',h1,h2,h3⟩,hp,hv=>⟨q,vs'++[v],h1,by rw[h2];rfl,a9v h3 hp hv⟩
theorem a9w {α:Type}: ∀(l acc:List α),yJ l acc=l.reverse++acc
 |[],_=>rfl
 |x::l,acc=>by simp [yJ,a9w l]
theorem a9x {g:Gh}{w:World}{H:rO}(hH:rZ g w H) {t:Ty}{os:List Nat}{i o:Nat}{vals:List Value}{a a':sM}(ha:AF g w H vals a) {p:Pl}(hp:g.J i=some p) (h:vG H t os i o a (pT H i)=some a'):
  AF g w H vals ⟨a.args,a'.H,a'.ws,a'.n⟩/\∃more,a'.ws.reverse=a.ws.reverse++more/\a'.args=(.val .ref (some (a.n,0)),none)::a.args/\(uR g a'.ws.reverse).J a.n=some ⟨p.1,p.2+o,p.3⟩:=by
 cases hb:pT H i with
 |none=>rw[hb] at h;simp [vG] at h
 |some b=>
  rw[hb] at h;cases b with
  |cells u x toks=>
   simp only[vG] at h;cases hy:qO t u x o with
   |none=>rw[hy] at h;simp [DK] at h
   |some y=>
    rw[hy] at h;simp only[DK] at h;split at h
    ·rename_i hc;simp only[aRm,aRK] at hc;obtain⟨ks,bs,h1,h2,h3,h4,h5,h6,h7,h8,h9,h10⟩:=TE h;simp only[aR9] at h3 h4 h5 h6 h9;have hnm:i∉rW a.ws.reverse:=fun hmem=>by
      have:=JA.2 ((TF _ _).1 hmem);rw[hc.2] at this;cases this
     have e5:a'.ws.reverse=a.ws.reverse++([qR.box i u x toks o]++ks.map qR.tok):=by rw[h5];simp only[aRo]
     refine⟨⟨by rw[h6];simp only;rw[h5,ha.n];simp [h1];omega,?_,?_⟩,_,e5,h3,?_⟩
     ·simp only;rw[h4,h5,ha.n];exact ha.m.box hb hy hc.1 hnm h1 h2 h7 h8 h9 h10
     ·simp only;rw[e5];exact LO (LM g w _ _) ha.args
     ·show vM g a'.ws.reverse[a.n]? =_;rw[e5,ha.n,aRq (Nat.le_refl _),aTj];show (g.J i).map _=_;rw[hp];rfl
    ·cases h
  |grow=>simp [vG] at h
  |row=>simp [vG] at h
  |map=>simp [vG] at h
  |iter=>simp [vG] at h
  |dead=>simp [vG] at h
theorem a9y {H:rO}{f:FuncId}{args0:List pR}: ∀{ks:List (Ty×List Nat)}{cs ids:List (Nat×Nat)}{a a':sM},xA H f args0 ks cs ids (some a)=some a'->∃s more,a'.args=s::args0/\a'.ws.reverse=a.ws.reverse++more
 |[],[],ids,a,a',h=>by
  simp only[xA,aRg] at h;subst h;exact⟨_,[],rfl,by simp⟩
 |[],_::_,_,_,_,h=>by simp [xA] at h
 |_::_,[],_,_,_,h=>by simp [xA] at h
 |(t,os)::ks,(i,o)::cs,ids,a,a',h=>by
  simp only[xA] at h;cases hb:vG H t os i o a (pT H i) with
  |none=>rw[hb] at h;cases ks<;>cases cs<;>simp [xA] at h
  |some b=>
   rw[hb] at h;obtain⟨s,more,h1,h2⟩:=a9y h;obtain⟨more0,h3⟩: ∃more0,b.ws.reverse=a.ws.reverse++more0:=by
    unfold vG at hb;split at hb
    ·unfold DK at hb;split at hb
     ·split at hb
      ·obtain⟨ks,bs,_,_,_,_,h5,_⟩:=TE hb;exact⟨_,by rw[h5];simp only[aR9];exact aRo ..⟩
      ·cases hb
     ·cases hb
    ·cases hb
   exact⟨s,more0++more,h1,by rw[h2,h3,aRo]⟩
theorem a9z {g:Gh}{w:World}{H:rO}(hH:rZ g w H) {f:FuncId}{args0:List pR}{vals:List Value}: ∀{ks:List (Ty×List Nat)}{cs:List (Nat×Nat)}{ids:List (Nat×Nat)}{vs us:List Value}{a a':sM},AF g w H vals ⟨args0,a.H,a.ws,a.n⟩->
  xL g cs vs->xL (uR g a.ws.reverse) ids.reverse us->xA H f args0 ks cs ids (some a)=some a'->
  AF g w H vals ⟨args0,a'.H,a'.ws,a'.n⟩/\∃ids',a'.args=(.val .clo (some (f,ids')),none)::args0/\(∃more,a'.ws.reverse=a.ws.reverse++more)/\xL (uR g a'.ws.reverse) ids' (us++vs)
 |[],[],ids,vs,us,a,a',ha,hv,hu,h=>by
  simp only[xA,a9w,List.append_nil,aRg] at h;subst h;rw[show vs=[] from hv,List.append_nil];exact⟨ha,_,rfl,⟨[],by simp⟩,hu⟩
 |[],_::_,_,_,_,_,_,_,_,_,h=>by simp [xA] at h
 |_::_,[],_,_,_,_,_,_,_,_,h=>by simp [xA] at h
 |(t,os)::ks,(i,o)::cs,ids,vs,us,a,a',ha,⟨p,vs',hp,hv1,hv2⟩,hu,h=>by
  simp only[xA] at h;cases hb:vG H t os i o a (pT H i) with
  |none=>rw[hb] at h;cases ks<;>cases cs<;>simp [xA] at h
  |some b=>
   rw[hb] at h;have hb':vG H t os i o ⟨args0,a.H,a.ws,a.n⟩ (pT H i)=some ⟨(.val .ref (some (a.n,0)),none)::args0,b.H,b.ws,b.n⟩:=aIC hb;obtain⟨q1,more,q2,q3,q4⟩:=a9x hH ha hp hb';simp only at q1 q2 q3 q4;have hmono:=LM g w a.ws.reverse more;rw[<-q2] at hmono;have hu2:xL (uR g b.ws.reverse) ((a.n,0)::ids).reverse (us++[.pointer (some ⟨p.1,p.2+o,none⟩)]):=by
    simp only[aR9];exact a9v (Y7 hmono.J hu) q4 (by simp)
   obtain⟨z1,ids',z2,⟨more',z3⟩,z4⟩:=a9z hH (a:=b) q1 hv2 hu2 h;refine⟨z1,ids',z2,⟨more++more',by rw[z3,q2,aRo]⟩,?_⟩;rw[hv1];rw[aRo] at z4;exact z4
theorem a9A {g:Gh}{w:World}{H:rO}(hH:rZ g w H) {p:PK}{s:pR}{v:Value}{vals:List Value}{a a':sM}(ha:AF g w H vals a) (hs:qV g w s v) (h:xJ H a p s=some a'):AF g w H (vals++[v]) a':=by
 unfold xJ at h;split at h
 ·rename_i f k;simp only[RI,aRg] at h;subst h;refine⟨ha.n,ha.m,?_⟩;simp only[aR9];refine H8 ha.args ⟨?_,trivial⟩;rcases hs.1 with⟨h1,_⟩ |⟨h1,vs,h2,h3⟩
  ·cases h1
  ·rw[show vs=[] from h2] at h3;exact .inr ⟨rfl,[],rfl,h3⟩
 ·rename_i t x k _;simp only[RH] at h;split at h
  ·rename_i hp;simp only[aRg] at h;subst h;refine⟨ha.n,ha.m,?_⟩;simp only[aR9];exact H8 ha.args (aIA hp hs)
  ·cases h
 ·rename_i t x k;cases hb:pT H k with
  |none=>rw[hb] at h;simp [B6] at h
  |some b=>
   rw[hb] at h;cases b with
   |grow e c m=>
    simp only[B6] at h;split at h
    ·rename_i hc;simp only[aRm,aRK] at hc;simp only[aRg] at h;subst h;have hnm:k∉rW a.ws.reverse:=fun hmem=>by
      have:=JA.2 ((TF _ _).1 hmem);rw[hc.2] at this;cases this
     refine⟨by simp [ha.n],by simpa using ha.m.tok (b0:= .grow e c m) hb hnm,?_⟩;simp only[aR9];refine H8 (LO (LM g w _ _) ha.args) (T8 (g:=g) (g':=uR g (a.ws.reverse++[.tok k])) (k':=some a.n) rfl hc.1 hs (fun c' e1=> ?_) (fun e1=>by cases e1));cases e1;refine⟨_,rfl,fun n u hu=> ?_⟩;show AE g (a.ws.reverse++[qR.tok k])[a.n]? n=some u;rw[ha.n,aRq (Nat.le_refl _),aTj];exact hu
    ·cases h
   |cells=>simp [B6] at h
   |row=>simp [B6] at h
   |map=>simp [B6] at h
   |iter=>simp [B6] at h
   |dead=>simp [B6] at h
 ·rename_i t os i o k;obtain⟨p,hp,hv⟩:=yP hs.1;obtain⟨h1,more,h2,h3,h4⟩:=a9x hH ha hp h;refine⟨h1.n,h1.m,?_⟩;rw[h3];simp only[aR9];exact H8 h1.args ⟨.inr ⟨rfl,_,h4,by rw[hv];rfl⟩,trivial⟩
 ·rename_i i k;cases hb:pT H i with
  |none=>rw[hb] at h;simp [B7] at h
  |some b=>
   rw[hb] at h;cases b with
   |map s t l=>
    simp only[B7] at h;split at h
    ·rename_i hc;simp only[aRm,aRK] at hc;simp only[aRg] at h;subst h;have hnm:i∉rW a.ws.reverse:=fun hmem=>by
      have:=JA.2 ((TF _ _).1 hmem);rw[hc.2] at this;cases this
     refine⟨by simp [ha.n],by simpa using ha.m.tok (b0:= .map s t l) ⟨hb,hc.1.1,hc.1.2⟩ hnm,?_⟩;simp only[aR9];obtain⟨p,hp,hv⟩: ∃p,g.J i=some p/\v= .map (some p.1):=by
      obtain⟨p,h1,e⟩:=AD rfl hs.1;simp only[aR7,and_true] at e;exact⟨p,h1,e⟩
     refine H8 (LO (LM g w _ _) ha.args) ⟨.inr ⟨rfl,p,?_,by rw[hv]⟩,trivial⟩;show vM g (a.ws.reverse++[qR.tok i])[a.n]? =_;rw[ha.n,aRq (Nat.le_refl _),aTj];exact hp
    ·cases h
   |cells=>simp [B7] at h
   |row=>simp [B7] at h
   |grow=>simp [B7] at h
   |iter=>simp [B7] at h
   |dead=>simp [B7] at h
 ·rename_i k n k';cases hb:pT H k with
  |none=>rw[hb] at h;simp [B8] at h
  |some b=>
   rw[hb] at h;cases b with
   |row e t l m=>
    simp only[B8] at h;split at h
    ·rename_i hc;simp only[aRm,aRK] at hc;simp only[aRg] at h;subst h;have hnm:k∉rW a.ws.reverse:=fun hmem=>by
      have:=JA.2 ((TF _ _).1 hmem);rw[hc.2] at this;cases this
     refine⟨by simp [ha.n],by simpa using ha.m.tok (b0:= .row e t l m) ⟨hb,hc.1⟩ hnm,?_⟩;simp only[aR9];obtain⟨h1,h2⟩:=hs.1;refine H8 (LO (LM g w _ _) ha.args) ⟨⟨?_,h2⟩,trivial⟩;show AE g (a.ws.reverse++[qR.tok k])[a.n]? n=_;rw[ha.n,aRq (Nat.le_refl _),aTj];exact h1
    ·cases h
   |cells=>simp [B8] at h
   |grow=>simp [B8] at h
   |map=>simp [B8] at h
   |iter=>simp [B8] at h
   |dead=>simp [B8] at h
 ·rename_i ks f cs k';obtain⟨vs,hv1,hv2⟩: ∃vs,xL g cs vs/\v= .func (.func f) #[] vs.toArray:=by
   rcases hs.1 with⟨h1,_⟩ |⟨_,vs,h2,h3⟩
   ·cases h1
   ·simp only[aR7,and_true] at h3;exact⟨vs,h2,h3⟩
  obtain⟨z1,ids',z2,_,z4⟩:=a9z hH (ids:=[]) (a:=a) (us:=[]) ha hv1 rfl h;refine⟨z1.n,z1.m,?_⟩;rw[z2];simp only[aR9];exact H8 z1.args ⟨.inr ⟨rfl,vs,by simpa using z4,by rw[hv2]⟩,trivial⟩
 ·cases h
theorem a9B {g:Gh}{w:World}{H:rO}(hH:rZ g w H): ∀{ps:List PK}{ss:List pR}{vs vals:List Value}{a a':sM},AF g w H vals a->v8 g w ss vs->xB H ps ss (some a)=some a'->AF g w H (vals++vs) a'
 |[],[],vs,vals,a,a',ha,hs,h=>by
  simp only[xB,aRg] at h;subst h;rw[show vs=[] from hs,List.append_nil];exact ha
 |p::ps,s::ss,vs,vals,a,a',ha,⟨v,vs',e,h1,h2⟩,h=>by
  simp only[xB] at h;cases ho:xJ H a p s with
  |none=>rw[ho] at h;cases ps<;>cases ss<;>simp [xB] at h
  |some a1=>
   rw[ho] at h;have:=a9B hH (a9A hH ha h1 ho) h2 h;rw[e];simpa using this
 |[],_::_,_,_,_,_,_,_,h=>by simp [xB] at h
 |_::_,[],_,_,_,_,_,_,h=>by simp [xB] at h
theorem AF.nil (g:Gh) (w:World) (H:rO):AF g w H [] ⟨[],[],[],0⟩:=
 ⟨rfl,⟨rfl,fun c wh b h _=>by simp at h,by simp [rW]⟩,rfl⟩
theorem a9C: ∀(l:List pQ) (n:Nat),GT l n=l[n]?
 |[],_=>by simp [GT]
 |_::_,0=>rfl
 |_::r,n+1=>by simpa[GT] using a9C r n
theorem aID {g:Gh}{w:World}: ∀{t:Ty}{x:t.den}{cs:List Value}{o:Nat}{y:Option (Nat×Nat)},Rd g w t x cs->F2 t x o=some y->∃cs',BY g y cs':=by
 intro t
 induction t with
 |pair a b iha ihb=>
  intro x cs o y r h;obtain⟨c1,c2,_,r1,r2⟩:=r;simp only[F2] at h;split at h
  ·exact iha r1 h
  ·exact ihb r2 h
 |rl e u=>
  intro x cs o y r h;cases o with
  |zero=>simp only[F2,aRg] at h;subst h;exact⟨cs,r⟩
  |succ o=>simp [F2] at h
 |_=>intro x cs o y r h;cases o<;>simp [F2] at h
theorem aIE {g:Gh}{w:World}{H:rO}(hH:rZ g w H) {vals:List Value}{a:sM}(ha:AF g w H vals a) (c q:Nat) (pk:PK): ∃v,qV g w (IP q pk (GT a.H c)) v:=by
 rw[a9C];have any: ∃v,qV g w (.any,none) v:=⟨undef,trivial,trivial⟩;cases hb:a.H[c]? with
 |none=>cases pk<;>exact any
 |some b=>
  cases b with
  |cells t y ts=>
   have hlt:c<a.H.length:=(aRu.1 hb).1;have hb':a.H.reverse[a.H.length-1-c]? =some (.cells t y ts):=by
    rw[List.getElem?_reverse (by omega),show a.H.length-1- (a.H.length-1-c)=c by omega];exact hb
   obtain⟨wh,hwh⟩: ∃wh,a.ws.reverse[a.H.length-1-c]? =some wh:=by
    have hl:=ha.m.len;simp only[List.length_reverse] at hl;exact⟨_,aRn (by rw[List.length_reverse];omega)⟩
   have hw:=ha.m.ok _ wh _ hwh hb';cases wh with
   |tok k=>exact hw.elim
   |box i u x toks off=>
    obtain⟨h1,h2,_⟩:=hw;obtain⟨p,cs,hp,hR,_⟩:=hH.blk i _ h1;obtain⟨c1,c2,c3,hcs,hl,hR2⟩:=CR hR h2;cases pk with
    |p t' os=>
     simp only[IP];cases hg:qO .ref t y q with
     |none=>exact any
     |some z=>
      cases z with
      |none=>exact any
      |some z=>
       obtain⟨d1,d2,d3,_,_,hR3⟩:=CR hR2 hg;obtain⟨p',hp',e⟩:=hR3;exact⟨_,.inr ⟨rfl,p',hp',rfl⟩,trivial⟩
    |m=>
     simp only[IP];cases hg:qO .mp t y q with
     |none=>exact any
     |some z=>
      cases z with
      |none=>exact any
      |some z=>
       obtain⟨d1,d2,d3,_,_,hR3⟩:=CR hR2 hg;obtain⟨p',hp',e⟩:=hR3;exact⟨_,.inr ⟨rfl,p',hp',rfl⟩,trivial⟩
    |v=>exact any
    |own=>exact any
    |f ks=>exact any
    |r=>
     simp only[IP];cases hg:F2 t y q with
     |none=>exact any
     |some z=>
      cases z with
      |none=>exact any
      |some z=>
       obtain⟨cs',hR3⟩:=aID hR2 hg;obtain⟨v,hv,_,hsh⟩:=hR3;exact⟨v,⟨hv,hsh⟩,trivial⟩
  |_=>cases pk<;>exact any
theorem a9D {g:Gh}{w:World}{H:rO}(hH:rZ g w H) {vals:List Value}: ∀{gs:List (Nat×Nat×PK)}{a a':sM},AF g w H vals a->A8 H gs (some a)=some a'->AF g w H vals a'
 |[],a,a',ha,h=>by
  simp only[A8,aRg] at h;subst h;exact ha
 |(c,q,pk)::gs,a,a',ha,h=>by
  simp only[A8] at h;obtain⟨v,hv⟩:=aIE hH ha (a.n-1-c) q pk;cases hp:xJ H a pk (IP q pk (GT a.H (a.n-1-c))) with
  |none=>
   rw[hp] at h;simp only[KX] at h;cases gs<;>simp [A8] at h
  |some b=>
   rw[hp] at h;simp only[KX] at h;have hb:=a9A hH ha hv hp;refine a9D hH (a:=⟨a.args,b.H,b.ws,b.n⟩) ⟨hb.n,hb.m,?_⟩ h;obtain⟨s,more,e1,e2⟩: ∃s more,b.args=s::a.args/\b.ws.reverse=a.ws.reverse++more:=by
    have hp':=hp;unfold xJ at hp';split at hp'
    ·simp only[RI,aRg] at hp';subst hp';exact⟨_,[],rfl,by simp⟩
    ·simp only[RH] at hp';split at hp'
     ·simp only[aRg] at hp';subst hp';exact⟨_,[],rfl,by simp⟩
     ·cases hp'
    ·unfold B6 at hp';split at hp'
     ·split at hp'
      ·simp only[aRg] at hp';subst hp';exact⟨_,[_],rfl,aR9 ..⟩
      ·cases hp'
     ·cases hp'
    ·unfold vG at hp';split at hp'
     ·unfold DK at hp';split at hp'
      ·split at hp'
       ·obtain⟨ks,bs,_,_,h3,_,h5,_⟩:=TE hp';exact⟨_,_,h3,by rw[h5];simp only[aR9];exact aRo ..⟩
       ·cases hp'
      ·cases hp'
     ·cases hp'
    ·unfold B7 at hp';split at hp'
     ·split at hp'
      ·simp only[aRg] at hp';subst hp';exact⟨_,[_],rfl,aR9 ..⟩
      ·cases hp'
     ·cases hp'
    ·unfold B8 at hp';split at hp'
     ·split at hp'
      ·simp only[aRg] at hp';subst hp';exact⟨_,[_],rfl,aR9 ..⟩
      ·cases hp'
     ·cases hp'
    ·exact a9y hp'
    ·cases hp'
   rw[e2];exact LO (LM g w _ _) ha.args
theorem aIF {b:Option pQ}{l:Option (List pQ)}{r:List pQ}(h:X0 b l=some r): ∃b' l',b=some b'/\l=some l'/\r=b'::l':=by
 cases b<;>cases l<;>simp [X0] at h
 exact⟨_,_,rfl,rfl,h.symm⟩
theorem a9E {W:List qR}: ∀{L0 L:List pQ},GU W L0=some L->L.length=L0.length/\∀(c:Nat) (b:pQ),L[c]? =some b->∃b0,L0[c]? =some b0/\RK W b0=some b
 |[],L,h=>by
  simp only[GU,aRg] at h;subst h;exact⟨rfl,fun c b h=>by simp at h⟩
 |b0::L0,L,h=>by
  simp only[GU] at h;obtain⟨b',l',h1,h2,rfl⟩:=aIF h;obtain⟨k1,k2⟩:=a9E h2;refine⟨by simp [k1],fun c b hc=> ?_⟩;cases c with
  |zero=>simp only[aRM,aRg] at hc;subst hc;exact⟨b0,rfl,h1⟩
  |succ c=>obtain⟨b1,q1,q2⟩:=k2 c b (by simpa using hc);exact⟨b1,by simpa using q1,q2⟩
theorem FC.ren {H:rO}{ws:List qR}{L0 L:List pQ}(h:FC H ws L0) (hc:GU ws L0=some L):OV H ws L:=by
 obtain⟨k1,k2⟩:=a9E hc;refine⟨h.len.trans k1.symm,fun c wh b hw hb=> ?_,h.nodup⟩;obtain⟨b0,q1,q2⟩:=k2 c b hb;have hok:=h.ok c wh b0 hw q1;cases b0 with
 |cells t y ts=>
  cases wh with
  |tok k=>exact hok.elim
  |box i u x toks o=>
   obtain⟨h1,h2,h3⟩:=hok;simp only[RK] at q2;split at q2
   ·rename_i hp;obtain rfl:=aRl q2;exact⟨h1,⟨y,h2,.inl ⟨hp,rfl⟩⟩,h3⟩
   ·cases hy:BV ws t y with
    |none=>rw[hy] at q2;cases q2
    |some z=>
     rw[hy] at q2;obtain rfl:=aRl q2;exact⟨h1,⟨y,h2,.inr hy⟩,h3⟩
 |_=>
  simp only[RK,aRg] at q2;subst q2;cases wh<;>exact hok
theorem zF: ∀(W:List qR) (c:Nat),zR W c=W[c]?
  |[],c=>by simp [zR]
  |_::_,0=>rfl
  |_::W,c+1=>by simpa[zR] using zF W c
theorem a9F: ∀L:List pQ,qK L=L.length
  |[]=>rfl
  |_::L=>by simp [qK,a9F L]
theorem a9G {α:Type}: ∀(l acc:List α),yJ l acc=l.reverse++acc
  |[],_=>rfl
  |x::l,acc=>by simp [yJ,a9G l]
theorem Z4 {a:Option (Nat×pQ)}{b:Option (List (Nat×pQ))}{l:List (Nat×pQ)}(h:NW a b=some l): ∃q r,a=some q∧b=some r∧l=q::r:=by
  cases a<;>cases b<;>simp [NW] at h
  exact⟨_,_,rfl,rfl,h.symm⟩
def H9 (base n:Nat) (W ws:List qR) (R:List pQ) (c0:Nat) (id:Nat) (b:pQ):Prop:=
  (∃(c:Nat) (i:Nat) (u:Ty) (x:u.den) (toks:List (Nat×Nat)) (o:Nat) (b0:pQ),ws[c]? =some (.box i u x toks o)∧id=i∧R[c]? =some b0∧xC base n i o W u x toks b0=some (i,b))∨
  (∃(c k:Nat) (b0:pQ),ws[c]? =some (.tok k)∧id=k∧R[c]? =some b0∧z6 k b0=some (k,b))∨
  (∃(c:Nat) (b0:pQ),R[c]? =some b0∧id=base+(c0+c)∧ws[c]? =none∧CM base n (c0+c) W b0=some (id,b))
theorem H9.succ {base n:Nat}{W:List qR}{wh:qR}{ws:List qR}{b0:pQ}{R:List pQ}{c0 id:Nat}{b:pQ}(h:H9 base n W ws R (c0+1) id b):H9 base n W (wh::ws) (b0::R) c0 id b:=by
  rcases h with⟨c,i,u,x,toks,o,b1,h1,h2,h3,h4⟩ |⟨c,k,b1,h1,h2,h3,h4⟩ |⟨c,b1,h1,h2,h3,h4⟩
  ·exact .inl ⟨c+1,i,u,x,toks,o,b1,by simpa using h1,h2,by simpa using h3,h4⟩
  ·exact .inr (.inl ⟨c+1,k,b1,by simpa using h1,h2,by simpa using h3,h4⟩)
  ·exact .inr (.inr ⟨c+1,b1,by simpa using h1,by rw[h2];omega,by simpa using h3,by rw[show c0+(c+1)=c0+1+c from by omega];exact h4⟩)
theorem H9.succ0 {base n:Nat}{W:List qR}{b0:pQ}{R:List pQ}{c0 id:Nat}{b:pQ}(h:H9 base n W [] R (c0+1) id b):H9 base n W [] (b0::R) c0 id b:=by
  rcases h with⟨c,i,u,x,toks,o,b1,h1,_⟩ |⟨c,k,b1,h1,_⟩ |⟨c,b1,h1,h2,h3,h4⟩
  ·simp at h1
  ·simp at h1
  ·exact .inr (.inr ⟨c+1,b1,by simpa using h1,by rw[h2];omega,by simp,by rw[show c0+(c+1)=c0+1+c from by omega];exact h4⟩)
theorem a9H {i:Nat}{t:Ty}{ts:List (Nat×Nat)}{o:Option t.den}{q:Nat×pQ}(h:a78 i t ts o=some q): ∃y,o=some y∧q=(i,.cells t y ts):=by
  cases o with
  |none=>cases h
  |some y=>exact⟨y,rfl,(aRl h).symm⟩
theorem aIG {base n c:Nat}{W:List qR}{b:pQ}{q:Nat×pQ}(h:CM base n c W b=some q):q.1=base+c:=by
  cases b<;>simp only[CM] at h
  · split at h
    ·exact(aRl h)▸rfl
    ·obtain⟨y,_,rfl⟩:=a9H h;rfl
  ·exact(aRl h)▸rfl
  · split at h
    ·exact(aRl h)▸rfl
    ·cases h
  · split at h
    ·exact(aRl h)▸rfl
    ·cases h
  ·cases h
  ·exact(aRl h)▸rfl
def bY (base n:Nat) (W:List qR) (t:Ty) (x y:t.den):Prop:=(t.pure=true∧y=x)∨B9 base n W t x=some y
theorem Z5 {base n i o:Nat}{W:List qR}{u t:Ty}{x:u.den}{y:t.den}{toks ts:List (Nat×Nat)}{q:Nat×pQ}(h:xC base n i o W u x toks (.cells t y ts)=some q):
    ∃y2 z,bY base n W t y y2∧sF t y2 u x o=some z∧q=(i,.cells u z (qG (CL base n W o ts) (uZ toks o t.cells))):=by
  simp only[xC] at h;split at h
  · rename_i hp
    cases hs:sF t y u x o with
    |none=>rw[hs] at h;simp [RM] at h
    |some z=>rw[hs] at h;exact⟨y,z,.inl ⟨hp,rfl⟩,hs,(aRl h).symm⟩
  · cases hy:B9 base n W t y with
    |none=>rw[hy] at h;cases h
    | some y2=>
      rw[hy] at h;simp only[a79] at h;cases hs:sF t y2 u x o with
      |none=>rw[hs] at h;simp [RM] at h
      |some z=>rw[hs] at h;exact⟨y2,z,.inr hy,hs,(aRl h).symm⟩
theorem aIH {k:Nat}{b:pQ}{q:Nat×pQ}(h:z6 k b=some q):q.1=k:=by
  cases b<;>simp only[z6] at h
  ·cases h
  ·exact(aRl h)▸rfl
  · split at h
    ·exact(aRl h)▸rfl
    ·cases h
  · split at h
    ·exact(aRl h)▸rfl
    ·cases h
  ·cases h
  ·exact(aRl h)▸rfl
theorem aII {base n i o:Nat}{W:List qR}{u:Ty}{x:u.den}{toks:List (Nat×Nat)}{b:pQ}{q:Nat×pQ}(h:xC base n i o W u x toks b=some q):q.1=i:=by
  cases b with
  |cells t y ts=>obtain⟨y2,z,_,_,rfl⟩:=Z5 h;rfl
  |grow=>simp [xC] at h
  |row=>simp [xC] at h
  |map=>simp [xC] at h
  |iter=>simp [xC] at h
  |dead=>simp only[xC,aRg] at h;exact h▸rfl
theorem LP {base n:Nat}{W:List qR}: ∀{ws:List qR}{R:List pQ}{c0:Nat}{upd:List (Nat×pQ)},A9 base n W c0 ws R=some upd→
    ws.length≤R.length∧(∀id b,pT upd id=some b→H9 base n W ws R c0 id b)∧(∀id,id∈pU upd→∃b,pT upd id=some b)∧
    (∀(c:Nat) wh,ws[c]? =some wh→wh.id∈pU upd)∧(∀(c:Nat) b,R[c]? =some b→ws[c]? =none→base+(c0+c)∈pU upd)
  | [],[],_,upd,h=>by
    simp only[A9,aRg] at h;subst h;exact⟨Nat.le_refl _,fun _ _ h=>by simp [pT] at h,fun _ h=>by simp [pU] at h,fun _ _ h=>by simp at h,fun _ _ h=>by simp at h⟩
  | [],b::R,c0,upd,h=>by
    simp only[A9] at h;obtain⟨q,r,h1,h2,rfl⟩:=Z4 h;obtain⟨k1,k2,k3,k4,k5⟩:=LP h2;have hq:=aIG h1;obtain⟨q1,q2⟩:=q;simp only at hq;subst hq;refine⟨by simp,fun id b' hg=> ?_,fun id hi=> ?_,fun c wh hw=>by simp at hw,fun c b' hb hn=> ?_⟩
    · simp only[pT] at hg
      split at hg
      · rename_i e
        obtain rfl:=aRl hg;subst e;exact .inr (.inr ⟨0,b,rfl,rfl,by simp,h1⟩)
      ·exact(k2 id b' hg).succ0
    · simp only[pT]
      by_cases e:base+c0=id
      ·rw[if_pos e];exact⟨_,rfl⟩
      · rw[if_neg e]
        simp only[pU,aRv] at hi;exact k3 id (hi.resolve_left (Ne.symm e))
    · cases c with
      |zero=>simp [pU]
      | succ c=>
        have:=k5 c b' (by simpa using hb) (by simp);simp only[pU,aRv];right;rw[show base+(c0+(c+1))=base+(c0+1+c) from by omega];exact this
  | .box i u x toks o::ws,[],c0,upd,h=>by simp [A9] at h
  | .tok k::ws,[],c0,upd,h=>by simp [A9] at h
  | .box i u x toks o::ws,b::R,c0,upd,h=>by
    simp only[A9] at h;obtain⟨q,r,h1,h2,rfl⟩:=Z4 h;obtain⟨k1,k2,k3,k4,k5⟩:=LP h2;have hq:=aII h1;obtain⟨q1,q2⟩:=q;simp only at hq;subst hq;refine⟨by simp;omega,fun id b' hg=> ?_,fun id hi=> ?_,fun c wh hw=> ?_,fun c b' hb hn=> ?_⟩
    · simp only[pT] at hg
      split at hg
      · rename_i e
        obtain rfl:=aRl hg;subst e;exact .inl ⟨0,q1,u,x,toks,o,b,rfl,rfl,rfl,h1⟩
      ·exact(k2 id b' hg).succ
    · simp only[pT]
      by_cases e:q1=id
      ·rw[if_pos e];exact⟨_,rfl⟩
      · rw[if_neg e]
        simp only[pU,aRv] at hi;exact k3 id (hi.resolve_left (Ne.symm e))
    · cases c with
      |zero=>simp only[aRM,aRg] at hw;subst hw;simp [pU,qR.id]
      |succ c=>simp only[pU,aRv];exact .inr (k4 c wh (by simpa using hw))
    · cases c with
      |zero=>simp at hn
      | succ c=>
        have:=k5 c b' (by simpa using hb) (by simpa using hn);simp only[pU,aRv];right;rw[show base+(c0+(c+1))=base+(c0+1+c) from by omega];exact this
  | .tok k::ws,b::R,c0,upd,h=>by
    simp only[A9] at h;obtain⟨q,r,h1,h2,rfl⟩:=Z4 h;obtain⟨k1,k2,k3,k4,k5⟩:=LP h2;have hq:=aIH h1;obtain⟨q1,q2⟩:=q;simp only at hq;subst hq;refine⟨by simp;omega,fun id b' hg=> ?_,fun id hi=> ?_,fun c wh hw=> ?_,fun c b' hb hn=> ?_⟩
    · simp only[pT] at hg
      split at hg
      · rename_i e
        obtain rfl:=aRl hg;subst e;exact .inr (.inl ⟨0,q1,b,rfl,rfl,rfl,h1⟩)
      ·exact(k2 id b' hg).succ
    · simp only[pT]
      by_cases e:q1=id
      ·rw[if_pos e];exact⟨_,rfl⟩
      · rw[if_neg e]
        simp only[pU,aRv] at hi;exact k3 id (hi.resolve_left (Ne.symm e))
    · cases c with
      |zero=>simp only[aRM,aRg] at hw;subst hw;simp [pU,qR.id]
      |succ c=>simp only[pU,aRv];exact .inr (k4 c wh (by simpa using hw))
    · cases c with
      |zero=>simp at hn
      | succ c=>
        have:=k5 c b' (by simpa using hb) (by simpa using hn);simp only[pU,aRv];right;rw[show base+(c0+(c+1))=base+(c0+1+c) from by omega];exact this
def sW (g g':Gh) (base:Nat) (W:List qR) (ids:List Nat):Gh:=
  ⟨g'.S,fun i=>if base≤i∧i∈ids then g'.J (i-base) else match vT i W 0 with|some c=>g'.J c|none=>g.J i,
   fun i=>if base≤i∧i∈ids then g'.cur (i-base) else match vT i W 0 with|some c=>g'.cur c|none=>g.cur i⟩
theorem TG {n c:Nat}{wh:Option qR}:KY n c wh=true↔c<n∧wh=none:=by
  cases wh with
  |none=>simp [KY]
  |some wh=>simp [KY]
theorem aIJ {base n c i:Nat}{wh:Option qR}(h:zS base n c wh=some i):wh=some (.tok i)∨(wh=none∧c<n∧i=base+c):=by
  cases wh with
  | none=>
    simp only[zS] at h;split at h
    ·rename_i hc;exact .inr ⟨rfl,hc,(aRl h).symm⟩
    ·cases h
  | some wh=>
    cases wh with
    |box=>cases h
    |tok k=>simp only[zS,aRg] at h;subst h;exact .inl rfl
theorem TH {i:Nat}: ∀{ws:List qR}{c0:Nat},(∀c:Nat,ws[c]? ≠some (.tok i))→vT i ws c0=none
  |[],_,_=>rfl
  | .tok j::r,c0,h=>by
    simp only[vT];split
    ·rename_i e;subst e;exact absurd rfl (h 0)
    ·exact TH (fun c=>by have:=h (c+1);simpa using this)
  | .box _ _ _ _ _::r,c0,h=>by
    simp only[vT];exact TH (fun c=>by have:=h (c+1);simpa using this)
theorem aIK {i c:Nat}{ws:List qR}(hnd:(rW ws).Nodup) (h:ws[c]? =some (.tok i)):vT i ws 0=some c:=by
  cases hc:vT i ws 0 with
  | none=>
    exfalso
    have: ∀{ws:List qR}{c0 c:Nat},ws[c]? =some (.tok i)→vT i ws c0≠none:=by
      intro ws
      induction ws with
      |nil=>intro c0 c h;simp at h
      | cons wh r ih=>
        intro c0 c h;cases c with
        | zero=>
          simp only[aRM,aRg] at h;subst h;simp [vT]
        | succ c=>
          simp only[aR3] at h;cases wh with
          |box=>exact ih h
          | tok j=>
            simp only[vT];split
            ·simp
            ·exact ih h
    exact this h hc
  | some d=>
    obtain⟨d',e1,h2⟩:=LL hc;rw[aRR] at e1;subst e1;rw[TD hnd h h2 rfl]
theorem Fr.mono {A B:Nat→Nat→Prop}{w w':World}{S S':Nat→Nat→Prop}(h:Fr A w w' S S') (hAB: ∀b o,A b o→B b o):Fr B w w' S S':=
  ⟨h.os,h.tape,h.output,h.size,fun b hb hn=>h.blk b hb (fun o ho=>hn o (hAB b o ho)),fun b o hb hn=>h.cell b o hb (fun ho=>hn (hAB b o ho)),fun b o hs=>(h.new b o hs).imp id (Or.imp id (hAB b o)),fun b s hs=>(h.shape b s hs).imp id fun h o=>hAB b o (h o)⟩
theorem TJ {base n:Nat}{W:List qR}{o:Nat}: ∀{ts:List (Nat×Nat)}{q k:Nat},(q,k)∈CL base n W o ts→∃q' c,(q',c)∈ts∧zS base n c (zR W c)=some k∧q=o+q'
  |[],_,_,h=>by simp [CL] at h
  | (q',c)::r,q,k,h=>by
    simp only[CL] at h;cases hn:zS base n c (zR W c) with
    | none=>
      rw[hn] at h;obtain⟨a,b,h1,h2⟩:=TJ h;exact⟨a,b,aRt _ h1,h2⟩
    | some k'=>
      rw[hn] at h;rcases aRv.1 h with h|h
      · simp only[aRI] at h
        obtain⟨rfl,rfl⟩:=h;exact⟨q',c,by simp,hn,rfl⟩
      · obtain⟨a,b,h1,h2⟩:=TJ h
        exact⟨a,b,aRt _ h1,h2⟩
theorem wJ {α:Type}{x:α}: ∀{l m:List α},x∈qG l m↔x∈l∨x∈m
  |[],m=>by simp [qG]
  |y::l,m=>by simp [qG,wJ (l:=l),or_assoc]
theorem Z6: ∀{toks:List (Nat×Nat)}{off n q k:Nat},(q,k)∈uZ toks off n→(q,k)∈toks∧¬(off≤q∧q<off+n)
  |[],_,_,_,_,h=>by simp [uZ] at h
  | (q',k')::r,off,n,q,k,h=>by
    simp only[uZ] at h;split at h
    · obtain⟨h1,h2⟩:=Z6 h
      exact⟨aRt _ h1,h2⟩
    · rename_i hn
      rcases aRv.1 h with h|h
      · cases h
        exact⟨by simp,hn⟩
      · obtain⟨h1,h2⟩:=Z6 h
        exact⟨aRt _ h1,h2⟩
section
variable {g g':Gh}{w w':World}{H:rO}{W:List qR}{L:List pQ}{r:pX}{v:Value}{base:Nat}{upd:List (Nat×pQ)}
variable (hH:rZ g w H) (hm:OV H W L) (hr:J9 (uR g W) w L r g' w' v) (hb:A9 base r.H.length W 0 W r.H=some upd) (hf: ∀i,i∈pU upd→base≤i→g.J i=none∧∀n,g.cur i n=none)
include hH hm hr hb hf
theorem DW {c:Nat}{wh:qR}(hw:W[c]? =some wh):wh.id∈pU upd∧wh.id<base∧∃b,L[c]? =some b∧TA H W wh b:=by
  have hin:=(LP hb).2.2.2.1 c wh hw;have hlt:c<L.length:=hm.len▸(aRu.1 hw).1;have hok:=hm.ok c wh _ hw (aRn hlt);refine⟨hin,Nat.lt_of_not_le fun hle=> ?_,_,aRn hlt,hok⟩;have hfr:=hf _ hin hle;cases wh with
  | box i u x toks o=>
    cases hL:L[c] with
    | cells t y ts=>
      rw[hL] at hok;obtain⟨p,cs,hp,_⟩:=hH.blk i _ hok.1;rw[show (qR.box i u x toks o).id=i from rfl] at hfr;rw[hfr.1] at hp;cases hp
    |_=>rw[hL] at hok;exact hok.elim
  | tok k=>
    cases hL:L[c] with
    | grow e cc m=>
      rw[hL] at hok;obtain⟨v,xs,hv,_⟩:=hH.blk k _ hok;rw[show (qR.tok k).id=k from rfl] at hfr;rw[hfr.2] at hv;cases hv
    | map s t l=>
      rw[hL] at hok;obtain⟨p,es,cl,hp,_⟩:=hH.blk k _ hok.1;rw[show (qR.tok k).id=k from rfl] at hfr;rw[hfr.1] at hp;cases hp
    | row e t l m=>
      rw[hL] at hok;obtain⟨_,v,xs,hv,_⟩:=hH.blk k _ hok.1;rw[show (qR.tok k).id=k from rfl] at hfr;rw[hfr.2] at hv;cases hv
    |_=>rw[hL] at hok;exact hok.elim
theorem aIL {c:Nat}(hc:c<r.H.length) (hn:W[c]? =none):base+c∈pU upd:=by
  have:=(LP hb).2.2.2.2 c _ (aRn hc) hn;simpa using this
theorem LQ {c:Nat}(hc:c<r.H.length) (hn:W[c]? =none):(sW g g' base W (pU upd)).J (base+c)=g'.J c∧(sW g g' base W (pU upd)).cur (base+c)=g'.cur c:=by
  have hin:=aIL hH hm hr hb hf hc hn;refine⟨?_,?_⟩
  · show (if base≤base+c∧base+c∈pU upd then _ else _)=_
    rw[if_pos ⟨by omega,hin⟩,aR1]
  · show (if base≤base+c∧base+c∈pU upd then _ else _)=_
    rw[if_pos ⟨by omega,hin⟩,aR1]
theorem a9I {i:Nat}(hi: ¬(base≤i∧i∈pU upd)) (hn:vT i W 0=none):(sW g g' base W (pU upd)).J i=g.J i∧(sW g g' base W (pU upd)).cur i=g.cur i:=by
  refine⟨?_,?_⟩
  · show (if base≤i∧i∈pU upd then _ else _)=_
    rw[if_neg hi,hn]
  · show (if base≤i∧i∈pU upd then _ else _)=_
    rw[if_neg hi,hn]
theorem a9J {c k:Nat}(hw:W[c]? =some (.tok k)):(sW g g' base W (pU upd)).J k=g'.J c∧(sW g g' base W (pU upd)).cur k=g'.cur c:=by
  have hlt:=(DW hH hm hr hb hf hw).2.1;simp only[qR.id] at hlt;have hc:=aIK hm.nodup hw;refine⟨?_,?_⟩
  · show (if base≤k∧k∈pU upd then _ else _)=_
    rw[if_neg (by omega),hc]
  · show (if base≤k∧k∈pU upd then _ else _)=_
    rw[if_neg (by omega),hc]
theorem OW {c i:Nat}{u:Ty}{x:u.den}{toks:List (Nat×Nat)}{o:Nat}(hw:W[c]? =some (.box i u x toks o)):(sW g g' base W (pU upd)).J i=g.J i∧(sW g g' base W (pU upd)).cur i=g.cur i:=by
  have hlt:=(DW hH hm hr hb hf hw).2.1;simp only[qR.id] at hlt;refine a9I hH hm hr hb hf (by omega) (TH fun d hd=> ?_);have:=TD hm.nodup hw hd rfl;subst this;rw[hw] at hd;cases hd
theorem JB {c i:Nat}(hi:zS base r.H.length c W[c]? =some i):(sW g g' base W (pU upd)).J i=g'.J c∧(sW g g' base W (pU upd)).cur i=g'.cur c:=by
  rcases aIJ hi with h|⟨h1,h2,rfl⟩
  ·exact a9J hH hm hr hb hf h
  ·exact LQ hH hm hr hb hf h2 h1
theorem a9K:Le g w (sW g g' base W (pU upd)) w':=by
  have len: ∀{i c:Nat},vT i W 0=some c→W[c]? =some (.tok i)∧c<L.length:=by
    intro i c h;obtain⟨d,e1,h2⟩:=LL h;rw[aRR] at e1;subst e1;exact⟨h2,hm.len▸(aRu.1 h2).1⟩
  refine⟨fun b o h=>(hr.shut b o h).1,fun b o h=>(hr.shut b o h).2,fun i p h=> ?_,fun i n u h=> ?_⟩
  · show (if base≤i∧i∈pU upd then _ else _)=_
    rw[if_neg (fun⟨h1,h2⟩=>by rw[(hf i h2 h1).1] at h;cases h)];cases hc:vT i W 0 with
    |none=>exact h
    | some c=>
      obtain⟨h1,h2⟩:=len hc;refine hr.Jt c p h2 ?_;show vM g W[c]? =_;rw[h1];exact h
  · show (if base≤i∧i∈pU upd then g'.cur (i-base) else match vT i W 0 with|some c=>g'.cur c|none=>g.cur i) n=_
    rw[if_neg (fun⟨h1,h2⟩=>by rw[(hf i h2 h1).2] at h;cases h)];cases hc:vT i W 0 with
    |none=>exact h
    | some c=>
      obtain⟨h1,h2⟩:=len hc;refine hr.cur c n u h2 ?_;show AE g W[c]? n=_;rw[h1];exact h
theorem aIM {t:Ty}{x y:t.den}{cs:List Value}(hx:Rd g' w' t x cs) (h:B9 base r.H.length W t x=some y):Rd (sW g g' base W (pU upd)) w' t y cs:=by
  refine TC (g:=g') (g':=sW g g' base W (pU upd)) rfl (B9 base r.H.length W) (fun a b x=>rfl) (fun t x=>rfl) (fun _=>rfl) (fun _ _=>rfl) (fun _=>rfl) (fun _=>rfl) (fun _=>rfl) (fun _ _ x y cs h hx=> ?_) (fun x y cs h hx=> ?_) (fun x y cs h hx=> ?_) (fun x y cs h hx=> ?_) (fun _=>rfl) hx h
  · cases x with
    |none=>cases h;exact hx
    | some q=>
      obtain⟨c,n⟩:=q;simp only[B9,a77,zF] at h;obtain⟨i,hi,rfl⟩:=aRx.1 h;obtain⟨v,hv,hs⟩:=hx;exact⟨v,by rw[(JB hH hm hr hb hf hi).2];exact hv,hs⟩
  · cases x with
    |none=>cases h;exact hx
    | some q=>
      obtain⟨c,o⟩:=q;simp only[B9,IS] at h;obtain⟨p,hp,hv⟩:=hx;unfold IS.back2 at h;split at h
      · rename_i i uu x toks o' hwh
        cases h;rw[zF] at hwh;obtain⟨_,hlt,b,hL,hok⟩:=DW hH hm hr hb hf hwh;cases b with
        | cells t y ts=>
          have hJ:=hr.J c t y ts hL;rw[hp] at hJ;have hJ':vM g W[c]? =some p:=hJ.symm;rw[hwh] at hJ';obtain⟨p0,hp0,rfl⟩:=aRx.1 hJ';exact⟨p0,by rw[(OW hH hm hr hb hf hwh).1];exact hp0,by have:=hv.1;rwa [aR0] at this,hv.2.imp id fun hv=>by rw[hv];simp [aR0]⟩
        |_=>exact hok.elim
      · split at h
        · rename_i hn
          cases h;obtain⟨h1,h2⟩:=TG.1 hn;rw[zF] at h2;exact⟨p,by rw[(LQ hH hm hr hb hf h1 h2).1];exact hp,hv⟩
        ·cases h
  · cases x with
    |none=>cases h;exact hx
    | some q=>
      obtain⟨c,o⟩:=q;simp only[B9,IS] at h;obtain⟨p,hp,hv⟩:=hx;unfold IS.back2 at h;split at h
      · rename_i i uu x toks o' hwh
        cases h;rw[zF] at hwh;obtain⟨_,hlt,b,hL,hok⟩:=DW hH hm hr hb hf hwh;cases b with
        | cells t y ts=>
          have hJ:=hr.J c t y ts hL;rw[hp] at hJ;have hJ':vM g W[c]? =some p:=hJ.symm;rw[hwh] at hJ';obtain⟨p0,hp0,rfl⟩:=aRx.1 hJ';exact⟨p0,by rw[(OW hH hm hr hb hf hwh).1];exact hp0,by rw[hv];simp [aR0]⟩
        |_=>exact hok.elim
      · split at h
        · rename_i hn
          cases h;obtain⟨h1,h2⟩:=TG.1 hn;rw[zF] at h2;exact⟨p,by rw[(LQ hH hm hr hb hf h1 h2).1];exact hp,hv⟩
        ·cases h
  · cases x with
    |none=>cases h;exact hx
    | some c=>
      simp only[B9,a74,zF] at h;obtain⟨i,hi,rfl⟩:=aRx.1 h;obtain⟨p,hp,hv⟩:=hx;exact⟨p,by rw[(JB hH hm hr hb hf hi).1];exact hp,hv⟩
theorem a9L {t:Ty}{x y:t.den}{cs:List Value}(hx:Rd g' w' t x cs) (h:bY base r.H.length W t x y):Rd (sW g g' base W (pU upd)) w' t y cs:=by
  rcases h with⟨hp,rfl⟩ |h
  ·exact vH (g:=g') (g':=sW g g' base W (pU upd)) rfl hp hx
  ·exact aIM hH hm hr hb hf hx h
omit hH hm hr hb hf in
theorem a9M {n:Nat}{t u:Ty}{x y:t.den}{o:Nat}{l:List u.den}(h:bY base n W t x y) (hg:qO (.list u) t x o=some l):qO (.list u) t y o=some l:=by
  rcases h with⟨_,rfl⟩ |h
  ·exact hg
  ·exact Z2 (B9 base n W) (fun _ _ _=>rfl) (fun _ _=>rfl) h hg
theorem a9N: ∀(cs:List (Nat×Nat)) {l:List (Nat×Nat)}{vs:List Value},xL g' cs vs→KZ base r.H.length W cs=some l→xL (sW g g' base W (pU upd)) l vs
  |[],l,vs,h,e=>by cases e;exact h
  | (c,o)::cs,l,vs,⟨p,vs',hp,hv,hr'⟩,e=>by
    unfold KZ at e;cases h1:X1 base r.H.length c o (zR W c) with
    |none=>rw[h1] at e;cases e
    | some q=>
      cases h2:KZ base r.H.length W cs with
      |none=>rw[h1,h2] at e;cases e
      | some l'=>
        rw[h1,h2] at e;cases e;refine(?_ : ∃p vs',_);have ih:=a9N cs hr' h2;unfold X1 at h1;split at h1
        · rename_i i uu x toks o' hwh
          cases h1;rw[zF] at hwh;obtain⟨_,hlt,b,hL,hok⟩:=DW hH hm hr hb hf hwh;cases b with
          | cells t y ts=>
            have hJ:=hr.J c t y ts hL;rw[hp] at hJ;have hJ':vM g W[c]? =some p:=hJ.symm;rw[hwh] at hJ';obtain⟨p0,hp0,rfl⟩:=aRx.1 hJ';exact⟨p0,vs',by rw[(OW hH hm hr hb hf hwh).1];exact hp0,by rw[hv];simp [aR0],ih⟩
          |_=>exact hok.elim
        · split at h1
          · rename_i hn
            cases h1;obtain⟨h3,h4⟩:=TG.1 hn;rw[zF] at h4;exact⟨p,vs',by rw[(LQ hH hm hr hb hf h3 h4).1];exact hp,hv,ih⟩
          ·cases h1
theorem aIN {s:pR}{u:Value}(h:qV g' w' s u):qV (sW g g' base W (pU upd)) w' (RL base r.H.length W s) u:=by
  obtain⟨d,k⟩:=s
  have tokk: ∀{t:Ty}(hp:t.pure=true) {x:t.den}{k:Option Nat},qV g' w' (.val t x,k) u→qV (sW g g' base W (pU upd)) w' (.val t x,IR base r.H.length W k) u:=by
    intro t hp x k h;cases k with
    |none=>exact T8 (g:=g') (g':=sW g g' base W (pU upd)) (k:=none) (k':=none) rfl hp h (fun c e=>by cases e) (fun _=>rfl)
    | some c=>
      simp only[IR,zF];cases hn:zS base r.H.length c W[c]? with
      | some i=>
        refine T8 (g:=g') (g':=sW g g' base W (pU upd)) (k:=some c) (k':=some i) rfl hp h (fun c' e=> ?_) (fun e=>by cases e);cases e;refine⟨_,rfl,fun n u hu=> ?_⟩;rw[(JB hH hm hr hb hf hn).2];exact hu
      | none=>
        exact T8 (g:=g') (g':=sW g g' base W (pU upd)) (k:=none) (k':=none) rfl hp ⟨h.1,trivial⟩ (fun c e=>by cases e) (fun _=>rfl)
  unfold RL;split
  · rename_i c m k' heq
    simp only[aRI] at heq;obtain⟨rfl,rfl⟩:=heq;simp only[IR,zF];cases hn:zS base r.H.length c W[c]? with
    | some i=>
      obtain⟨h3,h4⟩:=h.1;exact⟨⟨by rw[(JB hH hm hr hb hf hn).2];exact h3,h4⟩,trivial⟩
    |none=>exact⟨trivial,trivial⟩
  · rename_i c o k' heq
    simp only[aRI] at heq;obtain⟨rfl,rfl⟩:=heq;obtain⟨p,hp,hv⟩:=yP h.1;unfold a73;split
    · rename_i i uu x toks o' hwh
      rw[zF] at hwh;obtain⟨_,hlt,b,hL,hok⟩:=DW hH hm hr hb hf hwh;cases b with
      | cells t y ts=>
        have hJ:=hr.J c t y ts hL;rw[hp] at hJ;have hJ':vM g W[c]? =some p:=hJ.symm;rw[hwh] at hJ';obtain⟨p0,hp0,rfl⟩:=aRx.1 hJ';refine⟨.inr ⟨rfl,p0,by rw[(OW hH hm hr hb hf hwh).1];exact hp0,?_⟩,trivial⟩;rw[hv];simp [aR0]
      |_=>exact hok.elim
    · split
      · rename_i hn
        obtain⟨h1,h2⟩:=TG.1 hn;rw[zF] at h2;exact⟨.inr ⟨rfl,p,by rw[(LQ hH hm hr hb hf h1 h2).1];exact hp,by rw[hv]⟩,trivial⟩
      ·exact⟨trivial,trivial⟩
  · rename_i k' heq
    simp only[aRI] at heq;obtain⟨rfl,rfl⟩:=heq;rcases h.1 with⟨h1,_⟩ |⟨h1,h2⟩
    ·cases h1
    ·exact⟨.inr ⟨h1,h2⟩,trivial⟩
  · rename_i c k' heq
    simp only[aRI] at heq;obtain⟨rfl,rfl⟩:=heq;simp only[IR,zF];cases hn:zS base r.H.length c W[c]? with
    | some i=>
      obtain⟨p,hp,hv⟩:LE g' (some c) [u]:=AD rfl h.1;exact⟨.inr ⟨rfl,p,by rw[(JB hH hm hr hb hf hn).1];exact hp,hv⟩,trivial⟩
    |none=>exact⟨trivial,trivial⟩
  · rename_i f cs k' heq
    simp only[aRI] at heq;obtain⟨rfl,rfl⟩:=heq;cases hc:KZ base r.H.length W cs with
    |none=>exact⟨trivial,trivial⟩
    | some l=>
      rcases h.1 with⟨h1,_⟩ |⟨_,vs,h2,h3⟩
      ·cases h1
      ·exact⟨.inr ⟨rfl,vs,a9N hH hm hr hb hf cs h2 hc,h3⟩,trivial⟩
  · rename_i t x k' hno hno0 hno2 hno3 heq
    simp only[aRI] at heq;obtain⟨rfl,rfl⟩:=heq;split
    · rename_i hp
      exact tokk hp (a9l h)
    ·exact⟨trivial,trivial⟩
  ·exact⟨trivial,trivial⟩
end
theorem a9O {g:Gh}{w:World}{H:rO}{W:List qR}{L:List pQ}(hH:rZ g w H) (hm:OV H W L) {bb oo:Nat}(h:yQ (uR g W) (qE 0 L) bb oo):
  ∃(c:Nat) (wh:qR) (b blk:pQ),W[c]? =some wh/\L[c]? =some b/\rP (uR g W) c b bb oo/\pT H wh.id=some blk/\rP g wh.id blk bb oo:=by
 obtain⟨c,b,hc,ho⟩:=h;rw[xM] at hc;have hlt:c<W.length:=hm.len▸(aRu.1 hc).1;have hwh:W[c]? =some W[c]:=aRn hlt;have hw:=hm.ok c _ b hwh hc;refine⟨c,W[c],b,?_⟩;generalize W[c]=wh at hwh hw;cases wh with
 |box i u x toks off=>
  cases b with
  |cells t y ts=>
   obtain⟨h1,⟨y0,h2,h3⟩,h4⟩:=hw;obtain⟨p,hp,e1,e2,e3⟩:=ho;have hp':vM g W[c]? =some p:=hp;rw[hwh] at hp';obtain⟨p0,hp0,rfl⟩:=aRx.1 hp';obtain⟨p1,cs,hp1,hR,_⟩:=hH.blk i _ h1;obtain⟨c1,c2,c3,hcs,hl,hR2⟩:=CR hR h2;have l1:=sH hR;have l2:=sH hR2;rw[hcs] at l1;simp only[aRh] at l1;exact⟨_,hwh,hc,⟨_,hp,e1,e2,e3⟩,h1,p0,hp0,e1,by simp at e2;omega,by simp at e3;omega⟩
  |_=>exact hw.elim
 |tok k=>
  cases b with
  |grow e cc m=>
   obtain⟨v,hv,hb⟩:=ho;have hv':AE g W[c]? m=some v:=hv;rw[hwh] at hv';exact⟨_,hwh,hc,⟨v,hv,hb⟩,hw,v,hv',hb⟩
  |map s t l=>
   obtain⟨p,hp,hb⟩:=ho;have hp':vM g W[c]? =some p:=hp;rw[hwh] at hp';exact⟨_,hwh,hc,⟨p,hp,hb⟩,hw.1,p,hp',hb⟩
  |row e t l m=>
   obtain⟨v,hv,hb⟩:=ho;have hv':AE g W[c]? m=some v:=hv;rw[hwh] at hv';exact⟨_,hwh,hc,⟨v,hv,hb⟩,hw.1,v,hv',hb⟩
  |_=>exact hw.elim
section
variable {g g':Gh}{w w':World}{H:rO}{W:List qR}{L:List pQ}{r:pX}{v:Value}{base:Nat}{upd:List (Nat×pQ)}
variable (hH:rZ g w H) (hm:OV H W L) (hr:J9 (uR g W) w L r g' w' v) (hb:A9 base r.H.length W 0 W r.H=some upd) (hf: ∀i,i∈pU upd->base<=i->g.J i=none/\∀n,g.cur i n=none)
include hH hm hr hb hf
theorem Z7 {b o:Nat}(h:yQ (uR g W) (qE 0 L) b o):sJ g H (pU upd) b o:=by
 obtain⟨c,wh,b0,blk,h1,h2,h3,h4,h5⟩:=a9O hH hm h;exact⟨wh.id,blk,(DW hH hm hr hb hf h1).1,h4,h5⟩
theorem aIO:Fr (sJ g H (pU upd)) w w' g.S (sW g g' base W (pU upd)).S:=hr.fr.mono fun _ _ h=>Z7 hH hm hr hb hf h
theorem TK {id:Nat}{b:pQ}(hi:id∈pU upd) (hg:pT (qG upd H) id=some b):H9 base r.H.length W W r.H 0 id b:=by
 obtain⟨_,k2,k3,_⟩:=LP hb;obtain⟨b',hb'⟩:=k3 id hi;have:pT (qG upd H) id=some b':=by
  have: ∀{u:List (Nat×pQ)},pT u id=some b'->pT (qG u H) id=some b':=by
   intro u
   induction u with
   |nil=>intro h;cases h
   |cons q u ih=>
    intro h;simp only[qG,pT] at h⊢;split
    ·rename_i e;rw[if_pos e] at h;exact h
    ·rename_i e;rw[if_neg e] at h;exact ih h
  exact this hb'
 rw[this] at hg;obtain rfl:=aRl hg;exact k2 id b' hb'
theorem Z8 {c i o:Nat}{u:Ty}{x:u.den}{toks:List (Nat×Nat)}{b0 b:pQ}(hW:W[c]? =some (.box i u x toks o)) (hR:r.H[c]? =some b0) (hbb:xC base r.H.length i o W u x toks b0=some (i,b)):
  zA (sW g g' base W (pU upd)) w' i b/\(∀bb oo,rP (sW g g' base W (pU upd)) i b bb oo->rP g i (.cells u x toks) bb oo/\pT H i=some (.cells u x toks))/\
   ∀bb oo,rP (sW g g' base W (pU upd)) i b bb oo->rP g' c b0 bb oo\/(bb<w.heap.size/\¬yQ (uR g W) (qE 0 L) bb oo):=by
 obtain⟨hin,hlt,bL,hL,hok⟩:=DW hH hm hr hb hf hW;have hJi:=(OW hH hm hr hb hf hW).1;have hle:=a9K hH hm hr hb hf;cases bL with
 |grow=>exact hok.elim
 |row=>exact hok.elim
 |map=>exact hok.elim
 |iter=>exact hok.elim
 |dead=>exact hok.elim
 |cells tL yL tsL=>
  obtain⟨h1,h2,h4⟩:=hok;obtain⟨p,cs,hp,hRd,hra,hth,hns,htk⟩:=hH.blk i _ h1;cases b0 with
  |grow=>simp [xC] at hbb
  |row=>simp [xC] at hbb
  |map=>simp [xC] at hbb
  |iter=>simp [xC] at hbb
  |dead=>
   simp only[xC,aRg,aRI,true_and] at hbb;subst hbb;exact⟨trivial,fun _ _ h=>h.elim,fun _ _ h=>h.elim⟩
  |cells t y ts=>
   have htt:=hr.ty c _ _ _ _ _ _ hL hR;subst htt;obtain⟨y2,z,hbY,hset,hq⟩:=Z5 hbb
   ·simp only[aRI,true_and] at hq;subst hq;have hblk:=hr.heap.blk c _ (by rw[xM];exact hR);obtain⟨p',cs',hp',hRd',hra',hth',hns',htk'⟩:=hblk;have hJc:=hr.J c _ _ _ hL;have hpc:g'.J c=some ⟨p.1,p.2+o,p.3⟩:=by
     rw[hJc];show vM g W[c]? =_;rw[hW];simp [vM,hp]
    rw[hpc] at hp';obtain rfl:=aRl hp';have hRdx:Rd (sW g g' base W (pU upd)) w' u x cs:=vZ hle hRd;have hRdy:Rd (sW g g' base W (pU upd)) w' t y2 cs':=a9L hH hm hr hb hf hRd' hbY;obtain⟨c1,c2,c3,hcs,hl1,hl2,hz⟩:=SW hRdy hRdx hset;subst hcs;subst hl1;have l0:=sH hRd;have l1:=sH hRd';simp only[aRh] at l0;have hfar: ∀q,q<u.cells->¬(c1.length<=q/\q<c1.length+t.cells)->¬yQ (uR g W) (qE 0 L) p.1 (p.2+q):=by
     intro q hq hno hown;obtain⟨c',wh',b',blk',k1,k2,k3,k4,k5⟩:=a9O hH hm hown;by_cases hcc:c'=c
     ·subst hcc;rw[hW] at k1;obtain rfl:=aRl k1;rw[hL] at k2;obtain rfl:=aRl k2;obtain⟨pp,hpp,e1,e2,e3⟩:=k3;have hpp':vM g W[c']? =some pp:=hpp;rw[hW] at hpp';simp only[vM,hp,Option.map_some,aRg] at hpp';subst hpp';simp only at e2 e3;exact hno ⟨by omega,by omega⟩
     ·have hid:wh'.id≠i:=fun e=>hcc (TD hm.nodup k1 hW e);exact hH.dis wh'.id i blk' _ p.1 (p.2+q) hid k4 h1 k5 ⟨p,hp,rfl,by omega,by omega⟩
    have hlt': ∀q,q<u.cells->p.1<w.heap.size:=fun q hq=>OJ (hH.blk i _ h1) (b:=p.1) (o:=p.2+q) ⟨p,hp,rfl,by omega,by omega⟩;have hkeep: ∀q,q<u.cells->¬(c1.length<=q/\q<c1.length+t.cells)->w'.cell? ⟨p.1,p.2+q,none⟩=w.cell? ⟨p.1,p.2+q,none⟩/\w'.frozen? ⟨p.1,p.2+q,none⟩=w.frozen? ⟨p.1,p.2+q,none⟩:=fun q hq hno=>hr.fr.cell _ _ (hlt' q hq) (hfar q hq hno);refine⟨⟨p,c1++cs'++c3,by rw[hJi];exact hp,hz,fun q vv hv=> ?_,⟨fun q hq=> ?_,fun h0 s hs=> ?_⟩,fun q hq hs=> ?_,?_⟩,fun bb oo ho=>⟨?_,h1⟩,fun bb oo ho=> ?_⟩
    ·by_cases a1:q<c1.length
     ·rw[(hkeep q (by omega) (by omega)).1];refine hra q vv ?_;rw[aRo,aRz a1] at hv⊢;exact hv
     ·by_cases a2:q<c1.length+t.cells
      ·rw[aRo,aRq (by omega),aRz (by omega)] at hv;have:=hra' (q-c1.length) vv hv;rwa [show p.2+c1.length+(q-c1.length)=p.2+q from by omega] at this
      ·rw[aRo,aRq (by omega),aRq (by omega)] at hv;have hq:q<u.cells:=by
        have:=(aRu.1 hv).1;omega
       rw[(hkeep q hq (by omega)).1];refine hra q vv ?_;rw[aRo,aRq (by omega),aRq (by omega),hl2];rw[l1] at hv;exact hv
    ·by_cases a1:c1.length<=q/\q<c1.length+t.cells
     ·have:=hth'.1 (q-c1.length) (by omega);rwa [show p.2+c1.length+(q-c1.length)=p.2+q from by omega] at this
     ·rw[(hkeep q hq a1).1,(hkeep q hq a1).2];exact hth.1 q hq
    ·by_cases ht0:0<t.cells
     ·exact hth'.2 ht0 s hs
     ·exact(hr.fr.shape p.1 s (hth.2 h0 s hs)).resolve_right fun h=>hfar 0 h0 (by omega) (h (p.2+0))
    ·by_cases a1:c1.length<=q/\q<c1.length+t.cells
     ·exact hns' (q-c1.length) (by omega) (by rw[show p.2+c1.length+(q-c1.length)=p.2+q from by omega];exact hs)
     ·rcases hr.fr.new _ _ hs with k|k|k
      ·exact hns q hq k
      ·have:=hlt' q hq;omega
      ·exact hfar q hq a1 k
    ·intro q kk hmem;rcases wJ.1 hmem with hmem|hmem
     ·obtain⟨q',c',k1,k2,rfl⟩:=TJ hmem;rw[zF] at k2;obtain⟨u',l,vv,g1,g2,g3⟩:=htk' q' c' k1;have hq':=a9c g1;refine⟨u',l,vv,a9b hset (a9M hbY g1) hq',?_,?_⟩
      ·rw[aRo,aRq (by omega),aR1,aRz (by omega)];exact g2
      ·rw[(JB hH hm hr hb hf k2).2];exact g3
     ·obtain⟨k1,k2⟩:=Z6 hmem;obtain⟨u',l,vv,g1,g2,g3⟩:=htk q kk k1;refine⟨u',l,vv,a82 hH hset g1 k2,?_,hle.cur _ _ _ g3⟩;rcases aSw q c1.length with a1|a1
      ·rw[aRo,aRz a1] at g2⊢;exact g2
      ·rw[aRo,aRq (by omega),aRq (by omega)] at g2⊢;rw[l1];rw[hl2] at g2;exact g2
    ·obtain⟨pp,hpp,e1,e2,e3⟩:=ho;rw[hJi,hp] at hpp;obtain rfl:=aRl hpp;exact⟨p,hp,e1,e2,e3⟩
    ·obtain⟨pp,hpp,e1,e2,e3⟩:=ho;rw[hJi,hp] at hpp;obtain rfl:=aRl hpp;subst e1;by_cases a1:c1.length<=oo-p.2/\oo-p.2<c1.length+t.cells
     ·exact .inl ⟨_,hpc,rfl,by simp only;omega,by simp only;omega⟩
     ·right;refine⟨hlt' (oo-p.2) (by omega),?_⟩;have:=hfar (oo-p.2) (by omega) a1;rwa [show p.2+(oo-p.2)=oo from by omega] at this
theorem Z9 {c:Nat}{b0 b:pQ}(hn:W[c]? =none) (hR:r.H[c]? =some b0) (hbn:CM base r.H.length c W b0=some (base+c,b)):
  zA (sW g g' base W (pU upd)) w' (base+c) b/\∀bb oo,rP (sW g g' base W (pU upd)) (base+c) b bb oo->rP g' c b0 bb oo:=by
 have hc:=(aRu.1 hR).1;obtain⟨hJ,hcur⟩:=LQ hH hm hr hb hf hc hn;have hblk:=hr.heap.blk c _ (by rw[xM];exact hR);cases b0 with
 |dead=>
  simp only[CM,aRg,aRI,true_and] at hbn;subst hbn;exact⟨trivial,fun _ _ h=>h.elim⟩
 |grow e m k=>
  simp only[CM,aRg,aRI,true_and] at hbn;subst hbn;obtain⟨u,xs,hv,h1,h2,h3⟩:=hblk;exact⟨⟨u,xs,by rw[hcur];exact hv,h1,fun m hm'=>by rw[hcur];exact h2 m hm',h3⟩,fun bb oo ⟨v',hv',hb'⟩=>⟨v',by rw[hcur] at hv';exact hv',hb'⟩⟩
 |row e t l n=>
  simp only[CM] at hbn;split at hbn
  ·rename_i hp;simp only[aRg,aRI,true_and] at hbn;subst hbn;obtain⟨h0,u,xs,hv,h1,h4,h2,h3⟩:=hblk;exact⟨⟨h0,u,xs,by rw[hcur];exact hv,h1,BD (fun _ _ h=>vH (g:=g') (g':=sW g g' base W (pU upd)) rfl hp h) h4,fun m hm'=>by rw[hcur];exact h2 m hm',h3⟩,fun bb oo ⟨v',hv',hb'⟩=>⟨v',by rw[hcur] at hv';exact hv',hb'⟩⟩
  ·cases hbn
 |iter s n=>simp [CM] at hbn
 |map k v l=>
  simp only[CM] at hbn;split at hbn
  ·rename_i hp;rw[aRm] at hp;simp only[aRg,aRI,true_and] at hbn;subst hbn;obtain⟨p,es,cl,hp1,hp0,hh,hM,hS⟩:=hblk;exact⟨⟨p,es,cl,by rw[hJ];exact hp1,hp0,hh,OH (g:=g') (g':=sW g g' base W (pU upd)) rfl hp.1 hp.2 hM,hS⟩,fun bb oo ⟨pp,hpp,e⟩=>⟨pp,by rw[hJ] at hpp;exact hpp,e⟩⟩
  ·cases hbn
 |cells t y ts=>
  have wQ: ∀y2,bY base r.H.length W t y y2->zA (sW g g' base W (pU upd)) w' (base+c) (.cells t y2 (CL base r.H.length W 0 ts))/\∀bb oo,rP (sW g g' base W (pU upd)) (base+c) (.cells t y2 (CL base r.H.length W 0 ts)) bb oo->rP g' c (.cells t y ts) bb oo:=by
   intro y2 hbY;obtain⟨p,cs,hp1,hR1,h1,h2,h3,h4⟩:=hblk;refine⟨⟨p,cs,by rw[hJ];exact hp1,a9L hH hm hr hb hf hR1 hbY,h1,h2,h3,fun q kk hmem=> ?_⟩,fun bb oo ⟨pp,hpp,e⟩=>⟨pp,by rw[hJ] at hpp;exact hpp,e⟩⟩;obtain⟨q',c',k1,k2,rfl⟩:=TJ hmem;rw[zF] at k2;obtain⟨u',l,vv,g1,g2,g3⟩:=h4 q' c' k1;exact⟨u',l,vv,by rw[aRR];exact a9M hbY g1,by rw[aRR];exact g2,by rw[(JB hH hm hr hb hf k2).2];exact g3⟩
  simp only[CM] at hbn;split at hbn
  ·rename_i hp;simp only[aRg,aRI,true_and] at hbn;subst hbn;exact wQ y (.inl ⟨hp,rfl⟩)
  ·obtain⟨y2,hy,hq⟩:=a9H hbn;simp only[aRI,true_and] at hq;subst hq;exact wQ y2 (.inr hy)
theorem ZA {c k:Nat}{b0 b:pQ}(hW:W[c]? =some (.tok k)) (hR:r.H[c]? =some b0) (hbk:z6 k b0=some (k,b)):
  zA (sW g g' base W (pU upd)) w' k b/\∀bb oo,rP (sW g g' base W (pU upd)) k b bb oo->rP g' c b0 bb oo:=by
 obtain⟨hJ,hcur⟩:=a9J hH hm hr hb hf hW;have hblk:=hr.heap.blk c _ (by rw[xM];exact hR);cases b0 with
 |dead=>
  simp only[z6,aRg,aRI,true_and] at hbk;subst hbk;exact⟨trivial,fun _ _ h=>h.elim⟩
 |grow e m n=>
  simp only[z6,aRg,aRI,true_and] at hbk;subst hbk;obtain⟨u,xs,hv,h1,h2,h3⟩:=hblk;exact⟨⟨u,xs,by rw[hcur];exact hv,h1,fun m hm'=>by rw[hcur];exact h2 m hm',h3⟩,fun bb oo ⟨v',hv',hb'⟩=>⟨v',by rw[hcur] at hv';exact hv',hb'⟩⟩
 |row e t l n=>
  simp only[z6] at hbk;split at hbk
  ·rename_i hp;simp only[aRg,aRI,true_and] at hbk;subst hbk;obtain⟨h0,u,xs,hv,h1,h4,h2,h3⟩:=hblk;exact⟨⟨h0,u,xs,by rw[hcur];exact hv,h1,BD (fun _ _ h=>vH (g:=g') (g':=sW g g' base W (pU upd)) rfl hp h) h4,fun m hm'=>by rw[hcur];exact h2 m hm',h3⟩,fun bb oo ⟨v',hv',hb'⟩=>⟨v',by rw[hcur] at hv';exact hv',hb'⟩⟩
  ·cases hbk
 |iter s n=>simp [z6] at hbk
 |map s v l=>
  simp only[z6] at hbk;split at hbk
  ·rename_i hp;rw[aRm] at hp;simp only[aRg,aRI,true_and] at hbk;subst hbk;obtain⟨p,es,cl,hp1,hp0,hh,hM,hS⟩:=hblk;exact⟨⟨p,es,cl,by rw[hJ];exact hp1,hp0,hh,OH (g:=g') (g':=sW g g' base W (pU upd)) rfl hp.1 hp.2 hM,hS⟩,fun bb oo ⟨pp,hpp,e⟩=>⟨pp,by rw[hJ] at hpp;exact hpp,e⟩⟩
  ·cases hbk
 |cells t y ts=>simp [z6] at hbk
theorem aIP {side:List Prop}{s:pR}{rds:List Nat}{vv:Value}(hs:qV (sW g g' base W (pU upd)) w' s vv):rS g w H ⟨side,s,upd,rds⟩ (sW g g' base W (pU upd)) w' vv:=by
 have le:=a9K hH hm hr hb hf;have fr:=aIO hH hm hr hb hf;have gho: ∀i,i∉pU upd->(sW g g' base W (pU upd)).J i=g.J i/\(sW g g' base W (pU upd)).cur i=g.cur i:=fun i hi=>
  a9I hH hm hr hb hf (fun h=>hi h.2) (TH fun c hc=>hi ((DW hH hm hr hb hf hc).1))
 have perm: ∀i blk b o,i∈pU upd->pT (qG upd H) i=some blk->rP (sW g g' base W (pU upd)) i blk b o->w.heap.size<=b\/sJ g H (pU upd) b o:=by
  intro i blk b o hi hg ho;rcases TK hH hm hr hb hf hi hg with⟨c,i',u,x,toks,off,b0,h1,h2,h3,h4⟩ |⟨c,k,b0,h1,h2,h3,h4⟩ |⟨c,b0,h1,h2,h3,h4⟩
  ·subst h2;obtain⟨_,k2,_⟩:=Z8 hH hm hr hb hf h1 h3 h4;exact .inr ⟨i,_,hi,(k2 b o ho).2,(k2 b o ho).1⟩
  ·subst h2;obtain⟨_,k2⟩:=ZA hH hm hr hb hf h1 h3 h4;exact(hr.perm c b0 b o h3 (k2 b o ho)).imp id fun h=>Z7 hH hm hr hb hf h
  ·rw[aRR] at h2 h4;subst h2;obtain⟨_,k2⟩:=Z9 hH hm hr hb hf h3 h1 h4;exact(hr.perm c b0 b o h1 (k2 b o ho)).imp id fun h=>Z7 hH hm hr hb hf h
 refine⟨le,hs,hH.upd le fr perm gho (fun i blk hi hg=> ?_) (fun i j bi bj b o hi hj hij hgi hgj hoi hoj=> ?_) (fun b o h=>hr.heap.sl b o h),fr,perm,gho,fun i u' y us h=> ?_⟩
 ·rcases TK hH hm hr hb hf hi hg with⟨c,i',u,x,toks,off,b0,h1,h2,h3,h4⟩ |⟨c,k,b0,h1,h2,h3,h4⟩ |⟨c,b0,h1,h2,h3,h4⟩
  ·subst h2;exact(Z8 hH hm hr hb hf h1 h3 h4).1
  ·subst h2;exact(ZA hH hm hr hb hf h1 h3 h4).1
  ·rw[aRR] at h2 h4;subst h2;exact(Z9 hH hm hr hb hf h3 h1 h4).1
 ·have cls: ∀{i:Nat}{blk:pQ},i∈pU upd->pT (qG upd H) i=some blk->rP (sW g g' base W (pU upd)) i blk b o->
    (∃c u x toks off b0,W[c]? =some (.box i u x toks off)/\r.H[c]? =some b0/\rP g i (.cells u x toks) b o/\pT H i=some (.cells u x toks)/\(rP g' c b0 b o\/(b<w.heap.size/\¬yQ (uR g W) (qE 0 L) b o)))\/
    (∃c b0,zS base r.H.length c W[c]? =some i/\r.H[c]? =some b0/\rP g' c b0 b o):=by
   intro i blk hi hg ho;rcases TK hH hm hr hb hf hi hg with⟨c,i',u,x,toks,off,b0,h1,h2,h3,h4⟩ |⟨c,k,b0,h1,h2,h3,h4⟩ |⟨c,b0,h1,h2,h3,h4⟩
   ·subst h2;obtain⟨_,k2,k3⟩:=Z8 hH hm hr hb hf h1 h3 h4;exact .inl ⟨c,u,x,toks,off,b0,h1,h3,(k2 b o ho).1,(k2 b o ho).2,k3 b o ho⟩
   ·subst h2;obtain⟨_,k2⟩:=ZA hH hm hr hb hf h1 h3 h4;exact .inr ⟨c,b0,by rw[h1];rfl,h3,k2 b o ho⟩
   ·rw[aRR] at h2 h4;subst h2;obtain⟨_,k2⟩:=Z9 hH hm hr hb hf h3 h1 h4;exact .inr ⟨c,b0,by rw[h3];simp only[zS];rw[if_pos (aRu.1 h1).1],h1,k2 b o ho⟩
  have cross: ∀{c c':Nat}{b0 b1:pQ},c≠c'->r.H[c]? =some b0->r.H[c']? =some b1->rP g' c b0 b o->rP g' c' b1 b o->False:=fun hne h1 h2 o1 o2=>
   hr.heap.dis _ _ _ _ b o hne (by rw[xM];exact h1) (by rw[xM];exact h2) o1 o2
  rcases cls hi hgi hoi with⟨c,u,x,toks,off,b0,h1,h2,h3,h4,h5⟩ |⟨c,b0,h1,h3,h4⟩<;>rcases cls hj hgj hoj with⟨c',u',x',toks',off',b0',k1,k2,k3,k4,k5⟩ |⟨c',b0',k1,k3,k4⟩
  ·exact hH.dis i j _ _ b o hij h4 k4 h3 k3
  ·rcases h5 with h5|⟨h5,h6⟩
   ·exact cross (fun e=>by subst e;rw[h1] at k1;cases k1) h2 k3 h5 k4
   ·rcases hr.perm c' b0' b o k3 k4 with h|h
    ·omega
    ·exact h6 h
  ·rcases k5 with k5|⟨k5,k6⟩
   ·exact cross (fun e=>by subst e;rw[k1] at h1;cases h1) h3 k2 h4 k5
   ·rcases hr.perm c b0 b o h3 h4 with h|h
    ·omega
    ·exact k6 h
  ·exact cross (fun e=>by subst e;rw[h1] at k1;exact hij (aRl k1)) h3 k3 h4 k4
 ·by_cases hi:i∈pU upd
  ·rcases TK hH hm hr hb hf hi h with⟨c,i',u,x,toks,off,b0,h1,h2,h3,h4⟩ |⟨c,k,b0,h1,h2,h3,h4⟩ |⟨c,b0,h1,h2,h3,h4⟩
   ·subst h2;obtain⟨_,_,bL,hL,hok⟩:=DW hH hm hr hb hf h1;cases b0 with
    |cells t y0 ts=>
     obtain⟨y2,z,_,hset,hq⟩:=Z5 h4;simp only[aRI,pQ.cells.injEq,true_and] at hq;obtain⟨rfl,_⟩:=hq;cases bL with
     |cells=>exact .inl ⟨x,toks,hok.1⟩
     |_=>exact hok.elim
    |grow=>simp [xC] at h4
    |row=>simp [xC] at h4
    |map=>simp [xC] at h4
    |iter=>simp [xC] at h4
    |dead=>simp [xC] at h4
   ·cases b0 with
    |cells t y0 ts=>simp [z6] at h4
    |iter=>simp [z6] at h4
    |map=>simp only[z6] at h4;split at h4<;>simp at h4
    |row=>simp only[z6] at h4;split at h4<;>simp at h4
    |_=>simp [z6] at h4
   ·rw[aRR] at h2;exact .inr (hf i hi (by omega))
  ·exact .inl ⟨y,us,(BE hi).symm.trans h⟩
end
section
variable {P:Program}{g:Gh}{w:World}
def aIQ (P:Program) (g:Gh) (w:World) (d:Nat) (ty:Ty) (x y:ty.den):YA->Prop
 | .ty t=> ∀vx vy,sO g w ty x vx->sO g w ty y vy->∃b,B4 ty x y=some b/\(Op.equalIn (d+1) t vx vy).run P w= .ok b w
 | .fs o l=> ∀px py cx cy,px.length=o->py.length=o->Rd g w ty x cx->Rd g w ty y cy->∃b,B4 ty x y=some b/\(Op.eqFields (d+1) (px++cx).toArray (py++cy).toArray l).run P w= .ok b w
 | .el e i m=> ∀px py cx cy,px.length=i*P.cellsOf e->py.length=i*P.cellsOf e->Rd g w ty x cx->Rd g w ty y cy->∃b,B4 ty x y=some b/\(Op.eqItems (d+1) e (P.cellsOf e) (px++cx).toArray (py++cy).toArray (List.range' i m)).run P w= .ok b w
theorem aIR {e:TypeId}{n:Nat}(h:(P.info? e).map (·.size)=some n):P.cellsOf e=n:=by
 obtain⟨i,h1,h2⟩:=aRx.1 h;simp [Program.cellsOf,h1,h2]
theorem xY.run {n:Nat}{ix:YA}{ty:Ty}(h:xY P n ix ty): ∀(d:Nat),n<=d->∀x y:ty.den,aIQ P g w d ty x y ix:=by
 induction h with
 |bool hu=>
  intro d _ x y vx vy hx hy;obtain rfl:=wZ hx;obtain rfl:=wZ hy;exact⟨_,rfl,run_equalIn_bool' w d _ _ _ hu⟩
 |int hu=>
  intro d _ x y vx vy hx hy;obtain rfl:=vL hx;obtain rfl:=vL hy;refine⟨_,rfl,(run_equalIn_int w d _ _ _ _ _ hu).trans ?_⟩;congr 1
 |str hu=>
  intro d _ x y vx vy hx hy;obtain rfl:=y9 hx;obtain rfl:=y9 hy;refine⟨_,rfl,(run_equalIn_string w d _ _ _ hu).trans ?_⟩;congr 1;rw[ByteArray.toList_eq,ByteArray.toList_eq];exact OM _ _
 | @struct h0 t0 fs0 ty0 hr hu hs _ ih=>
  intro d hd x y vx vy hx hy;obtain⟨cx,rfl,rx⟩:=J6 hr hx;obtain⟨cy,rfl,ry⟩:=J6 hr hy;obtain⟨d,rfl⟩: ∃d',d=d'+1:=⟨d-1,by omega⟩;obtain⟨b,h1,h2⟩:=ih d (by omega) x y [] [] cx cy rfl rfl rx ry;refine⟨b,h1,?_⟩;have hf:P.fieldsOf t0=fs0:=by unfold Program.fieldsOf;rw[hu]
  rw[run_equalIn_struct w _ _ _ _ (by rw[hf];exact hu) hs,hf];simpa using h2
 |arr hr hu hi _ ih=>
  intro d hd x y vx vy hx hy;obtain⟨cx,rfl,rx⟩:=J6 hr hx;obtain⟨cy,rfl,ry⟩:=J6 hr hy;obtain⟨d,rfl⟩: ∃d',d=d'+1:=⟨d-1,by omega⟩;obtain⟨b,h1,h2⟩:=ih d (by omega) x y [] [] cx cy (by simp) (by simp) rx ry;refine⟨b,h1,?_⟩;obtain⟨i,hi⟩:=aRi.1 hi;rw[run_equalIn_array w _ _ _ hu hi,List.range_eq_range'];simpa using h2
 |nil=>
  intro d _ x y px py cx cy _ _ _ _;exact⟨true,rfl,by simp [Op.eqFields]⟩
 |anil=>
  intro d _ x y px py cx cy _ _ _ _;exact⟨true,rfl,by simp [Op.eqItems]⟩
 | @cons h o f r a b hn ho hsz hrow _ _ iha ihb=>
  intro d hd x y px py cx cy hpx hpy ⟨x1,x2,ex,rx1,rx2⟩ ⟨y1,y2,ey,ry1,ry2⟩;subst ex;subst ey;obtain⟨vx,p1,v1⟩:=ON (P:=P) (c1:=px) (c3:=x2) hsz hrow rx1;obtain⟨vy,p2,v2⟩:=ON (P:=P) (c1:=py) (c3:=y2) hsz hrow ry1;obtain⟨b1,e1,r1⟩:=iha d hd x.1 y.1 vx vy v1 v2;obtain⟨b2,e2,r2⟩:=ihb d hd x.2 y.2 (px++x1) (py++y1) x2 y2 (by rw[aRh,hpx,sH rx1]) (by rw[aRh,hpy,sH ry1]) rx2 ry2;refine⟨b1&&b2,by simp only[B4,e1,e2,B4.eqAnd],?_⟩;rw[aRo] at p1 p2 r2;rw[aRo] at r2;rw[hpx,<-ho] at p1;rw[hpy,<-ho] at p2;simp only[Op.eqFields,if_pos hn,aRw,p1,p2,aRp,r1];cases b1
  ·simp
  ·simpa using r2
 | @acons h e i m a b hsz hrow _ _ iha ihb=>
  intro d hd x y px py cx cy hpx hpy ⟨x1,x2,ex,rx1,rx2⟩ ⟨y1,y2,ey,ry1,ry2⟩;subst ex;subst ey;have hc:=aIR hsz;obtain⟨vx,p1,v1⟩:=ON (P:=P) (c1:=px) (c3:=x2) hsz hrow rx1;obtain⟨vy,p2,v2⟩:=ON (P:=P) (c1:=py) (c3:=y2) hsz hrow ry1;obtain⟨b1,e1,r1⟩:=iha d hd x.1 y.1 vx vy v1 v2;obtain⟨b2,e2,r2⟩:=ihb d hd x.2 y.2 (px++x1) (py++y1) x2 y2 (by rw[aRh,hpx,sH rx1,hc,aSr]) (by rw[aRh,hpy,sH ry1,hc,aSr]) rx2 ry2;refine⟨b1&&b2,by simp only[B4,e1,e2,B4.eqAnd],?_⟩;rw[aRo] at p1 p2 r2;rw[aRo] at r2;rw[hpx] at p1;rw[hpy] at p2;simp only[aS3,Op.eqItems,aRw,p1,p2,aRp,r1];cases b1
  ·simp
  ·simpa using r2
variable {o:Oper}{a:Act}{H:rO}{T:sG}(hT:wY P T) (hH:rZ g w H)
include hT hH
theorem aIS {op:BinOp}{xt yt:TypeId}{x y:Operand}(ho:o.op= .binOp op xt x y yt) {sx sy:pR}(hx:qV g w sx (a.eval x)) (hy:qV g w sy (a.eval y)) {e:pY}
  (hr:A6 (WW (rF T xt) op sx sy)=some e):qP P o a g w H e:=by
 obtain⟨q,hq,rfl⟩:=J7 hr;have go: ∀{u v:Value},a.eval x=u->a.eval y=v->(∃z,(do eqGuard op xt x y u v;Go.binOp op xt u v:Sem Value).run P w= .ok z w/\z8 g w q.2 z)->qP P o a g w H ⟨q.1,(q.2,none),[],[]⟩:=by
  rintro u v rfl rfl ⟨z,hz,hd⟩;refine qP.pure hH (v:=z) ?_ hd;unfold execOp;rw[ho];simp only[aRw,aRG] at hz⊢;rw[hz];rfl
 replace hx:=hx.1;replace hy:=hy.1;generalize hti:rF T xt=oti at hq;unfold WW at hq;split at hq
 ·rename_i u el by' ar ls_ t l k k';have hd:=(sP hT hti).2;simp only[xZ] at hd;obtain⟨ax,cx,ex,hle,hll⟩:=CV hx;have hnil:ax=none->l=[]:=fun h=>by
   rcases hll with h1|⟨b,o,h1,_⟩
   ·exact h1
   ·rw[h] at h1;cases h1
  have ey:a.eval y= .slice none 0 0:=hy;refine go ex ey ?_;unfold RD at hq;split at hq
  ·cases hq;have h1:(do eqGuard .eql xt x y (.slice ax (List.length l) cx) (.slice none 0 0);Go.binOp .eql xt (.slice ax (List.length l) cx) (.slice none 0 0):Sem Value).run P w= .ok (.bool ax.isNone) w:=by
    simp only[aRw];rw[show (eqGuard .eql xt x y (.slice ax (List.length l) cx) (.slice none 0 0)).run P w= .ok () w from by simp [eqGuard]];exact Lib.run_eql_slice_nil (P:=P) w xt _ ax (List.length l) cx 0 0 hd.1
   exact⟨_,h1,_,rfl,fun h=>hnil (by simpa using h),fun _=>trivial⟩
  ·cases hq;have h1:(do eqGuard .neq xt x y (.slice ax (List.length l) cx) (.slice none 0 0);Go.binOp .neq xt (.slice ax (List.length l) cx) (.slice none 0 0):Sem Value).run P w= .ok (.bool (!ax.isNone)) w:=by
    simp only[aRw];rw[show (eqGuard .neq xt x y (.slice ax (List.length l) cx) (.slice none 0 0)).run P w= .ok () w from by simp [eqGuard]];exact run_neq_slice_nil_any (P:=P) w xt _ ax (List.length l) cx 0 0 hd.1
   exact⟨_,h1,_,rfl,fun _=>trivial,fun h=>hnil (by simpa using h)⟩
  ·cases hq
 ·rename_i u el by' ar ls_ k t l k';have hd:=(sP hT hti).2;simp only[xZ] at hd;obtain⟨ay,cy,ey,hle,hll⟩:=CV hy;have hnil:ay=none->l=[]:=fun h=>by
   rcases hll with h1|⟨b,o,h1,_⟩
   ·exact h1
   ·rw[h] at h1;cases h1
  have ex:a.eval x= .slice none 0 0:=hx;refine go ex ey ?_;unfold RD at hq;split at hq
  ·cases hq;have h1:(do eqGuard .eql xt x y (.slice none 0 0) (.slice ay (List.length l) cy);Go.binOp .eql xt (.slice none 0 0) (.slice ay (List.length l) cy):Sem Value).run P w= .ok (.bool ay.isNone) w:=by
    simp only[aRw];rw[show (eqGuard .eql xt x y (.slice none 0 0) (.slice ay (List.length l) cy)).run P w= .ok () w from by simp [eqGuard]];exact run_eql_nil_slice (P:=P) w xt _ ay (List.length l) cy 0 0 hd.1
   exact⟨_,h1,_,rfl,fun h=>hnil (by simpa using h),fun _=>trivial⟩
  ·cases hq;have h1:(do eqGuard .neq xt x y (.slice none 0 0) (.slice ay (List.length l) cy);Go.binOp .neq xt (.slice none 0 0) (.slice ay (List.length l) cy):Sem Value).run P w= .ok (.bool (!ay.isNone)) w:=by
    simp only[aRw];rw[show (eqGuard .neq xt x y (.slice none 0 0) (.slice ay (List.length l) cy)).run P w= .ok () w from by simp [eqGuard]];exact run_neq_nil_slice (P:=P) w xt _ ay (List.length l) cy 0 0 hd.1
   exact⟨_,h1,_,rfl,fun _=>trivial,fun h=>hnil (by simpa using h)⟩
  ·cases hq
 ·rename_i u el b ar ls_ t x' k t' y' k';unfold a7V at hq;split at hq
  ·rename_i htt;subst htt;split at hq
   ·rename_i hc;obtain⟨rfl,hc⟩:=hc;simp only[tV] at hq;obtain⟨r,hr1,hr2⟩: ∃r,B4 t' x' y'=some r/\((op= .eql/\q=([],.val .bool r))\/(op= .neq/\q=([],.val .bool (!r)))):=by
     generalize hgen:B4 t' x' y'=od at hq;unfold a7U at hq;split at hq
     ·rename_i r;cases hq;exact⟨r,rfl,.inl ⟨rfl,rfl⟩⟩
     ·rename_i r;cases hq;exact⟨r,rfl,.inr ⟨rfl,rfl⟩⟩
     ·cases hq
    have hti':=sP hT hti;rcases hc with rfl|⟨hrow,rfl⟩
    ·have hd:=hti'.2;simp only[xZ] at hd;obtain hbx:=wZ hx;obtain hby:=wZ hy;refine go hbx hby ?_;have hrr:r=(x'==y'):=(aRl hr1).symm;subst hrr;have hrun:=run_equalIn_bool' (P:=P) w 9999 xt x' y' hd;rcases hr2 with⟨rfl,rfl⟩ |⟨rfl,rfl⟩
     ·refine⟨.bool (x'==y'),?_,w9 _ _ _⟩;simp only[aRw];rw[show (eqGuard .eql xt x y (.bool x') (.bool y')).run P w= .ok () w from by simp [eqGuard]];simp only[aRp,Go.binOp,Op.equal,Op.maxDepth,aRw,hrun,aRG]
     ·refine⟨.bool (!(x'==y')),?_,w9 _ _ _⟩;simp only[aRw];rw[show (eqGuard .neq xt x y (.bool x') (.bool y')).run P w= .ok () w from by simp [eqGuard]];simp only[aRp,Go.binOp,Op.equal,Op.maxDepth,aRw,hrun,aRG]
    ·have h2:=hti'.2;have heq:P.eqGuardType P.depth xt=false/\∃h,h<9000/\xY P h (.ty xt) t':=by
      unfold xZ at h2;cases t'<;>simp only[Ty.isRow,aSf] at hrow
      all_goals exact h2.2 rfl
     obtain⟨hg1,hh,hlt,hE⟩:=heq;obtain⟨cx,ex,rx⟩:=J6 hrow hx;obtain⟨cy,ey,ry⟩:=J6 hrow hy;obtain⟨b',hb1,hb2⟩:=hE.run (g:=g) (w:=w) 9999 (by omega) x' y' _ _ hx hy;rw[hr1] at hb1;obtain rfl:=aRl hb1;rw[ex,ey] at hb2;refine go ex ey ?_;rcases hr2 with⟨rfl,rfl⟩ |⟨rfl,rfl⟩
     ·refine⟨.bool r,?_,w9 _ _ _⟩;simp only[aRw];rw[run_eqGuard_agg w _ _ _ _ _ _ hg1];simp only[aRp];rw[run_eql_struct,hb2];rfl
     ·refine⟨.bool (!r),?_,w9 _ _ _⟩;simp only[aRw];rw[run_eqGuard_agg w _ _ _ _ _ _ hg1];simp only[aRp];rw[run_neq_struct,hb2];rfl
   ·cases hq
  ·cases hq
 ·cases hq
end
end Go.Proofs.YtbbpilohihldiaaGreatDoor.Vc
namespace Go.Proofs.YtbbpilohihldiaaGreatDoor.Vc
open Go.RowKit
theorem aIT (s:List UInt8):Lib.strCells ⟨s.toArray⟩=s.map fun b=>Value.int .u8 b.toNat:=by
 simp [Lib.strCells]
theorem aIU {P:Program}(w:World) (t u ty e:TypeId) (i:TypeInfo) (ht:P.underlying t=some (.slice e)) (hu:P.underlying u=some .string) (hi:P.info? e=some i) (hz:i.zero=some (.int .u8 0))
  (hsize:i.size=1) (hby:i.bytes=1) (v:Value) (n:Nat) (xs:List Value) (hown:w.ownsRow 0 e 1 v n xs) (s:ByteArray) (hm:0<s.size)
  (h63:n+s.size<=maxLen) (hbytes:n+s.size<=140737488355328):
  ∃q cap w',(Builtin.append_ #[t,u] ty #[v,.string s]).run P w= .ok (.slice (some ⟨q,0,none⟩) (n+s.size) cap) w'/\w'.ownsRow 0 e 1 (.slice (some ⟨q,0,none⟩) (n+s.size) cap) (n+s.size) (xs++Lib.strCells s)/\
   (q=w.heap.size\/v.ownBlock=some q)/\w.grownBy w' v.ownBlock/\n+s.size<=cap/\
   ∀b o,b<w.heap.size->(v.ownBlock=some b->o<n*1)->w'.cell? ⟨b,o,none⟩=w.cell? ⟨b,o,none⟩:=by
 have hsmall:n+s.size<=9223372036854775807:=by simp only[maxLen] at h63;omega
 have hxl:xs.length=n:=by simpa using hown.1
 have hlen:(xs++Lib.strCells s).length=(n+s.size)*1:=by rw[aRh,hxl,Lib.strCells_length,aTp]
 have grown: ∀(old:Nat),old<n+s.size->∀(row:Option Nat),
   (w.drew.alloc (.cells (xs.toArray++(Lib.strCells s).toArray++Builtin.zeroCells (Value.int .u8 0).cells (grownCap w (n+s.size) old e- (n+s.size))) e)).ownsRow 0 e 1
    (.slice (some ⟨w.heap.size,0,none⟩) (n+s.size) (grownCap w (n+s.size) old e)) (n+s.size) (xs++Lib.strCells s)/\
   w.grownBy (w.drew.alloc (.cells (xs.toArray++(Lib.strCells s).toArray++Builtin.zeroCells (Value.int .u8 0).cells (grownCap w (n+s.size) old e- (n+s.size))) e)) row/\n+s.size<=grownCap w (n+s.size) old e/\
   ∀b o,b<w.heap.size->(w.drew.alloc (.cells (xs.toArray++(Lib.strCells s).toArray++Builtin.zeroCells (Value.int .u8 0).cells (grownCap w (n+s.size) old e- (n+s.size))) e)).cell? ⟨b,o,none⟩=w.cell? ⟨b,o,none⟩:=by
  intro old ho row;have hge:=grownCap_ge w (n+s.size) old e;have hcm:grownCap w (n+s.size) old e<=maxLen:=grownCap_le_maxLen w (n+s.size) old e h63;refine⟨⟨hlen,.inr ⟨w.heap.size,_,_,rfl,aSg _,aTs w.drew _,hge,hcm,?_,?_⟩⟩,⟨rfl,rfl,rfl,by simp,fun k hk _=>aRL w.drew _ k hk⟩,hge,fun b o hb=>aRF (w:=w) (a:=⟨b,o,none⟩) (aRL w.drew _ b hb)⟩
  ·have hz1:(Value.int IntKind.u8 0).cells.size=1:=rfl;simp only[aTq,aR8,size_zeroCells,hz1,hxl,Lib.strCells_length];omega
  ·simp only[Array.toList_append,aRo];rw[<-aRo,<-hlen];exact aSE
 rcases hown.2 with⟨rfl,rfl⟩ |⟨g,cap,cur,rfl,hbg,hg,hnc,hcm,hcs,htake⟩
 ·have hx:xs=[]:=aRJ hxl;subst hx;have hr:=run_append_nil_string (P:=P) w t u ty e i (.int .u8 0) ht hu hi hz s (by omega) (by omega) (by rw[hby];omega);have hgr:=grown 0 (by omega) (Value.ownBlock (.slice none 0 0));simp only[aRR,List.nil_append,Array.empty_append] at hgr⊢;have e1:(s.data.map fun b=>Value.int .u8 b.toNat)=(Lib.strCells s).toArray:=by
   apply Array.ext';simp [Lib.strCells]
  rw[e1] at hr;exact⟨_,_,_,hr,hgr.1,.inl rfl,hgr.2.1,hgr.2.2.1,fun b o hb _=>hgr.2.2.2 b o hb⟩
 ·by_cases hroom:n+s.size<=cap
  ·have hcs':cur.size=cap:=by simpa using hcs
   have hr:=Lib.run_append_room_string (P:=P) w t u ty e i ht hu hi hsize g n cap cur hg s hroom (by omega);refine⟨_,_,_,hr,⟨hlen,.inr ⟨g,cap,_,rfl,hbg,aTi w g cur _ e _ hg,hroom,hcm,?_,?_⟩⟩,.inr rfl,⟨rfl,rfl,rfl,by simp,fun k _ hk=>aST w g k _ (fun e=>hk (by simp [Value.ownBlock,e]))⟩,hroom,fun b o hb hso=> ?_⟩
   ·simp only[aR8,aRh,aRH,aRy,aRP,Lib.strCells_length];omega
   ·have ht':cur.toList.take n=xs:=by simpa using htake
    rw[ht',<-hlen];exact aSE
   ·by_cases hbg':b=g
    ·subst hbg';have ho:=hso rfl;rw[cell_setRow_same w b o cur _ e _ hg,cell_of_row w b o cur e (0,0) hg];have hlt:o<(cur.toList.take n).length:=by rw[aRH,aRP];omega
     have hlt2:o<cur.size:=by rw[aRH,aRP] at hlt;omega
     simp only[List.getElem?_toArray,aRo];rw[aRz hlt,aS6,if_pos (by omega)];simp
    ·exact aRF (a:=⟨b,o,none⟩) (aST w g b _ hbg')
  ·have holds: ∀j u,xs[j]? =some u->w.cell? ((⟨g,0,none⟩:Addr).add j)=some u:=hown.cells (g:=g) rfl;have hr:=Lib.run_append_grow_string (P:=P) w t u ty e i (.int .u8 0) ht hu hi hz ⟨g,0,none⟩ n cap xs (by rw[hsize];simpa using hxl) holds s (by omega) (by omega) (by rw[hby];exact growslice_fits (by omega) (by omega));have hgr:=grown cap (by omega) (Value.ownBlock (.slice (some ⟨g,0,none⟩) n cap));exact⟨_,_,_,hr,hgr.1,.inl rfl,hgr.2.1,hgr.2.2.1,fun b o hb _=>hgr.2.2.2 b o hb⟩
theorem aIV {P:Program}(w:World) (t u ty e:TypeId) (i:TypeInfo) (ht:P.underlying t=some (.slice e)) (hu:P.underlying u=some .string) (hi:P.info? e=some i) (hsize:i.size=1) (ad:Option Addr) (n c:Nat) (hle:n<=c):
  (Builtin.append_ #[t,u] ty #[.slice ad n c,.string ⟨#[]⟩]).run P w= .ok (.slice ad n c) w:=by
 have hf:=Lib.run_firstCells_string (P:=P) w 1 ⟨#[]⟩;have hm:(⟨#[]⟩:ByteArray).size=0:=rfl;rw[hm] at hf;cases ad<;>simp [Builtin.append_,aRA ht,aRA hu,sizeOf,typeInfo,hi,hsize,Builtin.lenOf,hm,hf,hle,Lib.strCells,storeCells]
theorem a9P (g:Gh) (w:World): ∀s:List UInt8,sS (Rd g w (.int .u8)) 1 (s5 s) (s.map fun b=>Value.int .u8 b.toNat)
 |[]=>rfl
 |b::s=>⟨[.int .u8 b.toNat],_,rfl,rfl,rfl,a9P g w s⟩
section
variable {P:Program}{o:Oper}{a:Act}{g:Gh}{w:World}{H:rO}{T:sG}(hT:wY P T) (hH:rZ g w H)
include hT hH
theorem aIW {t t':TypeId}{x:Operand}(ho:o.op= .convert t t' x) {sx:pR}(hx:qV g w sx (a.eval x)) {e:pY}
  (hr:A6 (WY T (rF T t) (rF T t') sx)=some e):qP P o a g w H e:=by
 obtain⟨q,hq,rfl⟩:=J7 hr;replace hx:=hx.1;generalize h1:rF T t=o1 at hq;generalize h2:rF T t'=o2 at hq;unfold WY at hq;split at hq
 ·rename_i e b1 a1 l1 e2 b2 a2 l2 l k;generalize h3:rF T e=o3 at hq;unfold a7X at hq;split at hq
  ·cases hq;have d1:=(sP hT h1).2;have d2:=(sP hT h2).2;have d3:=(sP hT h3).2;simp only[xZ] at d1 d2 d3;obtain⟨ad,cap,hv,hle,hl⟩:=CV hx;refine qP.pure hH (v:= .string ⟨(sI l).toArray⟩) ?_ (DT _ _ _);simp only[execOp,ho,hv,aRw];have run:(convert t t' (.slice ad (List.length l) cap)).run P w= .ok (.string ⟨(sI l).toArray⟩) w:=by
    rcases hl with rfl|⟨b,off,rfl,hL⟩
    ·rw[run_convert_bytes_string w t t' e ad _ cap d1.1 d3 d2];cases ad with
     |none=>simp [Conv.bytesToString,sI];rfl
     |some ad=>simp [Conv.bytesToString,loadCells,loadCellsFrom,sI];rfl
    ·have:=run_convert_bytes_arg (P:=P) w t e d1.1 d3 b off (List.length l) cap l rfl (fun i hi=>by
      obtain⟨cs,_,c2,_,c4⟩:=T0 hL (aRn hi);have c5:cs=[.int .u8 (l[i]:Int)]:=c4;subst c5;have:=c2 0 _ rfl;have hcell:Ty.cells (.int .u8)=1:=rfl;rw[hcell,aTp,aSG] at this;rw[this,aRD,aRn hi];rfl) t' d2
     exact this
   rw[run];rfl
  ·cases hq
 ·cases hq
theorem aIX {args:Array Operand}{tys:Array TypeId}(ho:o.op= .call ⟨.builtin .append,args,tys⟩) {ρ:Operand->pR}(hρ: ∀x∈args.toList,qV g w (ρ x) (a.eval x)) {e:pY}
  (hr:SH T H (v6 ρ args.toList) tys.toList=some e) (hs: ∀p∈e.side,p):qP P o a g w H e:=by
 unfold SH at hr;split at hr
 ·rename_i t u htu;have htys:tys= #[t,u]:=by apply aSv.1;rw[htu]
  split at hr
  ·rename_i e1;subst e1;exact aIj hT hH ho hρ htys hr hs
  ·clear htu;subst htys;generalize hst:rF T t=ot at hr;generalize hsu:rF T u=ou at hr;generalize hss:v6 ρ args.toList=ss at hr;unfold XW at hr;split at hr
   ·rename_i el ar ls_ e2 b2 a2 ls2 l k s k2;generalize hk:pT H k=ob at hr;unfold SG at hr;split at hr
    ·rename_i e' c n;split at hr
     ·rename_i hec;obtain⟨rfl,rfl⟩:=hec;cases hr;rw[aRh];have hsl:List.length (s5 s)=List.length s:=by simp [s5]
      rw[hsl];have hln:=hs _ (by simp:(List.length l=n)∈_);have hby:=hs _ (by simp:(List.length l+List.length s<=140737488355328)∈_);obtain⟨v,vr,hv,hs1,hs2⟩:=T3 hT hH hρ hss;obtain⟨h2,h3,_⟩:=(sP hT hst).2;have hu:=(sP hT hsu).2;simp only[xZ] at hu;obtain⟨ei,hei,hz⟩:=aRx.1 h3;simp only[aRI] at hz;obtain⟨cs,hx⟩:=FB (a:=a) hT hH ho;obtain⟨v0,xs,hv0,hown,hnone,hseal⟩:=hH.blk k _ hk;have hcur:g.cur k (List.length l)=some v:=hs1.2;rw[hln,hv0] at hcur;obtain rfl:=aRl hcur;obtain⟨adl,capl,hvl,hlel,hll⟩:=CV hs1.1;have hvr:=y9 hs2.1;have hsz:(⟨List.toArray s⟩:ByteArray).size=List.length s:=by simp [ByteArray.size]
      by_cases hm:List.length s=0
      ·obtain rfl:s=[]:=aRJ hm;have hget: ∀i,pT (qG [(k,pQ.grow e' 1 (List.length l+List.length ([]:List UInt8)))] H) i=pT H i:=by
        intro i;simp only[qG,pT];by_cases hi:k=i
        ·subst hi;rw[if_pos rfl,hk,hln];rfl
        ·rw[if_neg hi]
       have hkeep:rS g w H ⟨[List.length l=n,List.length l+List.length ([]:List UInt8)<=140737488355328],(.val (.list (.int .u8)) (l++s5 []),some k),[(k,.grow e' 1 (List.length l+List.length ([]:List UInt8)))],[k]⟩ g w v0:=by
        refine⟨.refl _ _,?_,⟨fun i b h=>hH.blk i b ((hget i).symm.trans h),fun i j bi bj b o' hij h1 h2=>hH.dis i j bi bj b o' hij ((hget i).symm.trans h1) ((hget j).symm.trans h2),hH.sl,hH.tab.1,fun i blk b o' h ho'=>hH.tab.2 i blk b o' ((hget i).symm.trans h) ho'⟩,.refl _ _ _,fun i blk b o' hi hg ho'=> .inr ⟨i,blk,hi,(hget i).symm.trans hg,ho'⟩,fun _ _=>⟨rfl,rfl⟩,fun i u' y us h=> .inl ⟨y,us,(hget i).symm.trans h⟩⟩;rw[show l++s5 []=l from by simp [s5]];exact hs1
       refine qP.value (v:=v0) (w':=w) ?_ hkeep;rw[hx,hv,hvr,hvl];have:=aIV (P:=P) w t u o.type e' ei h2 hu hei (by rw[hz.1];rfl) adl (List.length l) capl hlel;simp only[builtin,aRw];rw[this];simp only[aRp,aRG]
      ·have hxs:sS (Rd g w (.int .u8)) 1 l xs:=by
        by_cases h0:List.length l=0
        ·obtain rfl:l=[]:=aRJ h0;have:xs=[]:=aRJ (by rw[hown.1,<-hln];simp);exact this
        ·rcases hll with rfl|⟨b0,off0,rfl,hL0⟩
         ·exact absurd rfl h0
         ·obtain⟨ls,hF0,hra0,_⟩:=LJ hL0;rcases hown.2 with⟨e1,e2⟩ |⟨q,cap,cur,e1,e2⟩
          ·exact absurd (hln.trans e2) h0
          ·rw[hvl] at e1;simp only[aTo,aRg,Addr.mk.injEq] at e1;obtain⟨⟨rfl,rfl,_⟩,_,rfl⟩:=e1;have hvn:v0= .slice (some ⟨b0,0,none⟩) n capl:=by rw[hvl,hln]
           have hrx:=YQ (hvn▸hown);have:ls=xs:=by
            have hl1:=H6 hF0;have hl2:=hown.1;have hc1:Ty.cells (.int .u8)=1:=rfl;rw[hc1] at hl1;apply List.ext_getElem?;intro j;by_cases hj:j<ls.length
            ·have h1:=hra0 j ls[j] (aRn hj);have hj':j<xs.length:=by rw[hl2,<-hln,<-hl1];exact hj
             have h2:=hrx j xs[j] (aRn hj');rw[h1] at h2;rw[aRn hj,aRn hj',aRl h2]
            ·rw[aSy (by omega),aSy (by rw[hl2,<-hln,<-hl1];omega)]
           rw[<-this];exact hF0
       obtain⟨q,cap,w',hrun,hown',hq,hg,hcap,hcell⟩:=aIU (P:=P) w t u o.type e' ei h2 hu hei hz.2.2 hz.1 hz.2.1 v0 n xs hown ⟨List.toArray s⟩ (by rw[hsz];omega) (by rw[hsz];unfold maxLen;omega) (by rw[hsz];omega);rw[hsz] at hrun hown' hcap;rw[aIT] at hown';refine qP.value (v:= .slice (some ⟨q,0,none⟩) (n+List.length s) cap) (w':=w') ?_ (by
        have:=rS.append (side:=[List.length l=n,List.length l+List.length s<=140737488355328]) (rds:=[k]) (u:= .int .u8) (r:=s5 s) hH hk (show (1:Nat)=Ty.cells (.int .u8) from rfl) hln hv0 hown hnone hseal hxs (a9P g w s) (by rw[hsl];omega) (by rw[hsl];exact hown') hq hg (by rw[hsl];exact hcap) hcell;rw[hsl] at this;rw[hln];rw[hln] at this;exact this)
       rw[hx,hv,hvr];simp only[builtin,aRw,hrun,aRp,aRG]
     ·cases hr
    ·cases hr
   ·cases hr
 ·cases hr
end
theorem aIY {g g':Gh}{w:World}{f:pR→pR}(hf: ∀s u,qV g w s u→qV g' w (f s) u): ∀{l:List pR}{v:Value}{s:pR},OU g w l v→L1 (l.map f)=some s→qV g' w s v:=by
  have un: ∀{l:List pR}{vs:List Value}{q},v8 g w l vs→IT (l.map f)=some q→LF g' w q vs:=by
    intro l
    induction l with
    | nil=>
      intro vs q h hq;simp only[List.map_nil,IT,aRg] at hq;subst hq;exact h
    | cons s l ih=>
      rintro vs q ⟨v,vs',rfl,h1,h2⟩ hq;have h1':=hf s v h1;simp only[aR2] at hq;generalize f s=fs at hq h1';obtain⟨d,k⟩:=fs;cases d with
      | val t x=>
        simp only[IT] at hq;obtain⟨q',hq',rfl⟩:=aRx.1 hq;refine⟨v,vs',rfl,h1'.1,?_,ih h2 hq'⟩;cases k with
        |none=>trivial
        |some k=>exact h1'.2
      |_=>simp [IT] at hq
  intro l v s h hs
  match l,h,hs with
  | [],⟨vs,e,h⟩,hs=>
    simp only[List.map_nil,L1,aRg] at hs;subst hs;rw[show vs=[] from h] at e;exact⟨⟨[],e,rfl⟩,trivial⟩
  | [x],h,hs=>
    simp only[aR2,List.map_nil,L1,aRg] at hs;subst hs;exact hf x v h
  | x::y::l,⟨vs,e,h⟩,hs=>
    simp only[aR2,L1,aRg] at hs;subst hs;cases hq:IT (f x::f y::l.map f) with
    |none=>exact⟨trivial,trivial⟩
    |some q=>exact⟨⟨vs,e,un (l:=x::y::l) h (by simpa using hq)⟩,trivial⟩
theorem a9Q {base n:Nat}{W:List qR}: ∀l:List pR,NY base n W l=l.map (RL base n W)
  |[]=>rfl
  |s::l=>by simp [NY,a9Q l]
theorem a9R {P:Program}{f:FuncId}{sg:qS}(hcon:zE P f sg.C) {g:Gh}{w:World}{H:rO}(hH:rZ g w H) {args:List pR}{vals:List Value}(hargs:v8 g w args vals) {base:Nat}{e:pY}
    (hr:F4 H base args (some sg)=some e) (hs: ∀p∈e.side,p) (hfr:zC g base e):Calls P f vals.toArray w (fun en w'=> ∃v g',en= .returned v∧rS g w H e g' w' v):=by
  simp only[F4] at hr;cases hp0:xB H sg.ps args (some ⟨[],[],[],0⟩) with
  |none=>rw[hp0] at hr;cases hgs:sg.gs<;>(rw[hgs] at hr;simp [NZ,A8] at hr)
  |some q0=>
   rw[hp0] at hr;cases hp:A8 H sg.gs (some q0) with
   |none=>rw[hp] at hr;simp [NZ] at hr
   |some q=>
    rw[hp] at hr;simp only[NZ,a9G,List.append_nil] at hr;have hpo0:=a9B hH (AF.nil g w H) hargs hp0;rw[List.nil_append] at hpo0;have hpo:=a9D hH hpo0 hp;cases hcl:GU q.ws.reverse q.H.reverse with
    |none=>rw[hcl] at hr;simp [RO] at hr
    |some L=>
    rw[hcl] at hr;simp only[RO] at hr;have hm:=hpo.m.ren hcl;cases hc:sg.C q.args.reverse L with
    |none=>rw[hc] at hr;simp [RN] at hr
    | some r=>
      rw[hc] at hr;simp only[RN,a9F] at hr;cases hbh:A9 base r.H.length q.ws.reverse 0 q.ws.reverse r.H with
      |none=>rw[hbh] at hr;simp [NX] at hr
      | some upd=>
        rw[hbh] at hr;cases hrs:L1 (NY base r.H.length q.ws.reverse r.ret) with
        |none=>rw[hrs] at hr;simp [NX] at hr
        | some s=>
          rw[hrs] at hr;simp only[NX,aRg] at hr;subst hr;refine(hcon.2 (uR g q.ws.reverse) w q.args.reverse _ L r (aIz hH hm) hpo.args hc hs).mono ?_;rintro en w' ⟨v,g',rfl,hret⟩;refine⟨v,_,rfl,aIP hH hm hret hbh hfr ?_⟩;rw[a9Q] at hrs;exact aIY (fun s u h=>aIN hH hm hret hbh hfr h) hret.ret hrs
theorem OX {g g':Gh}{w w':World}: ∀{t:Ty}{x:t.den}{cs:List Value},GV t=true→Rd g w t x cs→Rd g' w' t x cs
  | .bool,_,_,_,r=>r
  | .int _,_,_,_,r=>r
  | .str,_,_,_,r=>r
  | .unit,_,_,_,r=>r
  | .fn,_,_,_,r=>r
  | .pair a b,_,_,h,⟨c1,c2,e,r1,r2⟩=>by
    simp only[GV,aRm] at h;exact⟨c1,c2,e,OX h.1 r1,OX h.2 r2⟩
  | .list _,_,_,h,_=>by cases h
  | .ref,_,_,h,_=>by cases h
  | .clo,_,_,h,_=>by cases h
  | .mp,_,_,h,_=>by cases h
  | .rl _ _,_,_,h,_=>by cases h
  | .mref,_,_,h,_=>by cases h
theorem a9S {g g':Gh}{w:World}{k n:Nat}{t:Ty}{l:List t.den}(le:Le g w g' w) (hk: ∀u,g.cur k n=some u→((u= .slice none 0 0∧n=0)∨∃b cap,u= .slice (some ⟨b,0,none⟩) n cap∧n≤cap)→sO g' w (.list t) l u):
    ∀{args:List pR}{vals:List Value},v8 g w args vals→(∀p∈IU k n args,p)→v8 g' w (O1 k t l args) vals
  |[],_,h,_=>h
  | s::ss,_,⟨v,vs,rfl,h1,h2⟩,hp=>by
    refine⟨v,vs,rfl,?_,a9S le hk h2 (fun p hp'=>hp p ?_)⟩
    · obtain⟨d,x⟩:=s
      cases d with
      | own j m=>
        simp only[a8a];split
        · rename_i e
          subst e;have hm:m=n:=hp (j=j→m=n) (by simp only[IU];exact aRB) rfl;subst hm;exact⟨hk _ h1.1.1 h1.1.2,trivial⟩
        ·exact AC le h1
      |_=>exact AC le h1
    · obtain⟨d,x⟩:=s
      cases d with
      |own j m=>simp only[IU];exact aRt _ hp'
      |_=>exact hp'
theorem aIZ {P:Program}{f:FuncId}{sg:qS}(hcon:zE P f sg.C) {g:Gh}{w:World}{H:rO}(hH:rZ g w H) {args:List pR}{vals:List Value}(hargs:v8 g w args vals) {base:Nat}{e:pY}{k:Nat}
    (hr:O2 H base args sg k (pT H k)=some e) (hs: ∀p∈e.side,p) (hfr:zC g base e):Calls P f vals.toArray w (fun en w'=> ∃v g',en= .returned v∧rS g w H e g' w' v):=by
  cases hk:pT H k with
  |none=>rw[hk] at hr;cases hr
  | some b=>
    rw[hk] at hr;cases b with
    | row e0 t l m=>
      simp only[O2] at hr;cases hi:F4 ((k,.dead)::H) base (O1 k t l args) (some sg) with
      |none=>rw[hi] at hr;cases hr
      | some e1=>
        rw[hi] at hr;unfold X3 at hr;split at hr
        · rename_i side t' x kk U rds heq
          simp only[aRg] at heq;subst heq;split at hr
          · rename_i hnl
            simp only[aRm,aRK] at hnl;obtain⟨⟨hnl,hU⟩,hkU⟩:=hnl;have hkU':k∉pU U:=fun h=>by rw[JA.2 h] at hkU;cases hkU
            cases hr;obtain⟨hl,v,xs,hv,hown,hF,hnone,hseal⟩:=hH.blk k _ hk
            let g':Gh:={g with S:=fun b o=>g.S b o∨(v.ownBlock=some b∧o<m*t.cells)}
            have le:Le g w g' w:=⟨fun _ _ h=> .inl h,fun _ _ _=>rfl,fun _ _ h=>h,fun _ _ _ h=>h⟩;have hown2: ∀b,v.ownBlock=some b→∀o,rP g k (.row e0 t l m) b o:=fun b hb o=>⟨v,hv,hb⟩
            have hlist: ∀u,g.cur k m=some u→((u= .slice none 0 0∧m=0)∨∃b cap,u= .slice (some ⟨b,0,none⟩) m cap∧m≤cap)→sO g' w (.list t) l u:=by
              intro u hu hshape;rw[hv] at hu;obtain rfl:=aRl hu;rcases hshape with⟨rfl,h0⟩ |⟨b,cap,rfl,hcap⟩
              · have:l=[]:=aRJ (by rw[hl,h0])
                subst this;exact .inr ⟨rfl,none,0,rfl,Nat.le_refl _,.inl rfl⟩
              · refine .inr ⟨rfl,some ⟨b,0,none⟩,cap,by rw[hl],by rw[hl];exact hcap,.inr ⟨b,0,rfl,J8 (BD (fun _ _ h=>vZ le h) hF) (fun j u hu=> ?_) (fun j hj=> ?_)⟩⟩
                · have:=hown.cells (g:=b) rfl j u hu
                  rwa [aSD] at this
                · right
                  exact⟨rfl,by rw[hl] at hj;omega⟩
            have hget: ∀i b,pT ((k,pQ.dead)::H) i=some b→(i=k∧b= .dead)∨(i≠k∧pT H i=some b):=by
              intro i b hb;simp only[pT] at hb;split at hb
              ·rename_i e1;exact .inl ⟨e1.symm,(aRl hb).symm⟩
              ·rename_i e1;exact .inr ⟨Ne.symm e1,hb⟩
            have hH':rZ g' w ((k,pQ.dead)::H):=by
              refine⟨fun i b hb=> ?_,fun i j bi bj b o hij h1 h2 o1 o2=> ?_,fun b o hS=> ?_,hH.tab.1,fun i b bb oo hb ho=> ?_⟩
              · rcases hget i b hb with⟨rfl,rfl⟩ |⟨hne,h1⟩
                ·trivial
                ·exact J5 (hH.blk i b h1) le rfl rfl (fun _ _ _=>⟨rfl,rfl⟩) (fun _ _=>rfl) (fun bb o ho hS=>by
                    rcases hS with hS|hS
                    ·exact hS
                    ·exact absurd (hown2 bb hS.1 o) (fun h5=>hH.dis i k b _ bb o hne h1 hk ho h5)) (fun _ _ _ _ h=>h)
              · rcases hget i bi h1 with⟨_,rfl⟩ |⟨_,h1⟩
                ·exact o1.elim
                · rcases hget j bj h2 with⟨_,rfl⟩ |⟨_,h2⟩
                  ·exact o2.elim
                  ·exact hH.dis i j bi bj b o hij h1 h2 ((y8 (g':=g') (g:=g) rfl rfl).1 o1) ((y8 (g':=g') (g:=g) rfl rfl).1 o2)
              · rcases hS with hS|hS
                ·exact hH.sl b o hS
                ·exact LG hown hS.1
              · rcases hget i b hb with⟨_,rfl⟩ |⟨_,h1⟩
                ·exact ho.elim
                ·exact hH.tab.2 i b bb oo h1 ((y8 (g':=g') (g:=g) rfl rfl).1 ho)
            have hsp: ∀p,p∈IU k m args∨p∈side→p:=fun p hp=>hs p (OT.2 hp)
            have hget2: ∀i,i≠k→pT ((k,pQ.dead)::H) i=pT H i:=fun i hi=>by
              simp only[pT];rw[if_neg (Ne.symm hi)]
            have hin: ∀{i},i∈pU U→i≠k:=fun h e=>hkU' (e▸h)
            have hup: ∀{i blk},i∈pU U→pT (qG U H) i=some blk→pT (qG U ((k,pQ.dead)::H)) i=some blk:=by
              intro i blk hi h
              have: ∀{U:List (Nat×pQ)},i∈pU U→pT (qG U ((k,pQ.dead)::H)) i=pT (qG U H) i:=by
                intro U
                induction U with
                |nil=>intro h;cases h
                | cons q U ih=>
                  intro h;obtain⟨j,b⟩:=q;simp only[qG,pT];split
                  ·rfl
                  · rename_i hne
                    simp only[pU,aRv] at h;exact ih (h.resolve_left (fun e=>hne e.symm))
              rw[this hi];exact h
            have hcells: ∀{i blk},i∈pU U→pT (qG U H) i=some blk→∃t y,blk= .cells t y []∧GV t=true:=by
              intro i blk hi h
              have: ∀{U:List (Nat×pQ)},L2 U=true→i∈pU U→pT (qG U H) i=some blk→∃t y,blk= .cells t y []∧GV t=true:=by
                intro U
                induction U with
                |nil=>intro _ h;cases h
                | cons q U ih=>
                  intro hU hi h;obtain⟨j,b⟩:=q;cases b with
                  | cells t y ts=>
                    cases ts with
                    |cons _ _=>simp [L2] at hU
                    | nil=>
                      simp only[L2,aRm] at hU;simp only[qG,pT] at h;split at h
                      · obtain rfl:=aRl h
                        exact⟨t,y,rfl,hU.1⟩
                      · rename_i hne
                        simp only[pU,aRv] at hi;exact ih hU.2 (hi.resolve_left (fun e=>hne e.symm)) h
                  |_=>simp [L2] at hU
              exact this hU hi h
            have hownI: ∀b o,sJ g' ((k,pQ.dead)::H) (pU U) b o→sJ g H (pU U) b o:=fun b o ⟨i,blk,hi,h1,h2⟩=>⟨i,blk,hi,(hget2 i (hin hi)).symm.trans h1,(y8 (g':=g') (g:=g) rfl rfl).1 h2⟩;refine(a9R hcon hH' (a9S le hlist hargs (fun p hp=>hsp p (.inl hp))) hi (fun p hp=>hsp p (.inr hp)) (fun i hi' hb=>hfr i hi' hb)).mono ?_;rintro en w' ⟨v1,g1,rfl,hE⟩
            let g2:Gh:={g1 with S:=g.S}
            have hle:Le g w g2 w':=⟨fun _ _ h=>h,fun b o h=>hE.le.cell b o (.inl h),fun i p h=>hE.le.J i p h,fun i n u h=>hE.le.cur i n u h⟩
            have hfr2:Fr (sJ g H (pU U)) w w' g.S g2.S:=
              ⟨hE.fr.os,hE.fr.tape,hE.fr.output,hE.fr.size,fun b hb hno=>hE.fr.blk b hb (fun o h=>hno o (hownI b o h)),fun b o hb hno=>hE.fr.cell b o hb (fun h=>hno (hownI b o h)),fun _ _ h=> .inl h,fun b s h=>(hE.fr.shape b s h).imp id fun h o=>hownI b o (h o)⟩
            have hgho: ∀i,i∉pU U→g2.J i=g.J i∧g2.cur i=g.cur i:=fun i hi=>hE.gho i hi
            have hperm: ∀i blk b o,i∈pU U→pT (qG U H) i=some blk→rP g2 i blk b o→w.heap.size≤b∨sJ g H (pU U) b o:=fun i blk b o hi hg ho=>
              (hE.perm i blk b o hi (hup hi hg) ((y8 (g':=g2) (g:=g1) rfl rfl).1 ho)).imp id (hownI b o)
            refine⟨v1,g2,rfl,hle,⟨?_,trivial⟩,hH.upd hle hfr2 hperm hgho (fun i blk hi hg=> ?_) (fun i j bi bj b o hi hj hij hgi hgj hoi hoj=> ?_) (fun b o h=>aRX (hH.sl b o h) hE.fr.size),hfr2,hperm,hgho,fun i u y us h=> ?_⟩
            ·exact hE.slot.1.imp (fun⟨a,cs,e,q⟩=>⟨a,cs,e,OX hnl q⟩) (fun⟨a,q⟩=>⟨a,OX hnl q⟩)
            · obtain⟨t2,y2,rfl,hn2⟩:=hcells hi hg
              obtain⟨p,cs,q1,q2,q3,q4,q5,_⟩:=hE.heap.blk i _ (hup hi hg);exact⟨p,cs,q1,OX hn2 q2,q3,q4,fun j hj hS=>q5 j hj (hE.le.S _ _ (.inl hS)),fun _ _ hm=>by cases hm⟩
            ·exact hE.heap.dis i j bi bj b o hij (hup hi hgi) (hup hj hgj) ((y8 (g':=g2) (g:=g1) rfl rfl).1 hoi) ((y8 (g':=g2) (g:=g1) rfl rfl).1 hoj)
            · by_cases hiU:i∈pU U
              · rcases hE.ty i u y us (hup hiU h) with⟨x',ts',q⟩ |q
                ·exact .inl ⟨x',ts',(hget2 i (hin hiU)).symm.trans q⟩
                ·exact .inr q
              ·exact .inl ⟨y,us,(BE hiU).symm.trans h⟩
          ·cases hr
        ·cases hr
    |_=>cases hr
theorem aI0 {P:Program}{f:FuncId}{F:(t:Ty)→List t.den→Option (List t.den)}(hF:T7 P f F) {g:Gh}{w:World}{H:rO}(hH:rZ g w H) {args:List pR}{vals:List Value}(hargs:v8 g w args vals) {e:pY}
    (hr:RQ H F args=some e) (hs: ∀p∈e.side,p):Calls P f vals.toArray w (fun en w'=> ∃v g',en= .returned v∧rS g w H e g' w' v):=by
  unfold RQ at hr;split at hr
  · rename_i k n x
    obtain⟨v,vs,rfl,ha,hv⟩:=hargs;rw[show vs=[] from hv];cases hk:pT H k with
    |none=>rw[hk] at hr;cases hr
    | some b=>
      rw[hk] at hr;cases b with
      | row e0 t l m=>
        simp only[X4] at hr;cases hf:F t l with
        |none=>rw[hf] at hr;cases hr
        | some l'=>
          rw[hf] at hr;cases hr;have hnm:n=m:=hs _ aRB;subst hnm;obtain⟨hl,v0,xs,hv0,hown,hFx,hnone,hseal⟩:=hH.blk k _ hk;have h1:=ha.1.1;rw[hv0] at h1;obtain rfl:=aRl h1;refine(hF g w e0 t l l' v0 n xs hH.tab.1 hown hFx hl (hs _ (by simp)) hf).mono ?_;rintro en w' ⟨rfl,hl',xs',k1,k2,k3⟩;have hownk: ∀b,v0.ownBlock=some b→∀o,sJ g H [k] b o:=fun b hb o=>⟨k,_,by simp,hk,v0,hv0,hb⟩;refine⟨_,_,rfl,rS.row (v:=v0) (xs:=xs') hH hl' k1 k2 hnone (fun u hu=>by rw[hv0] at hu;exact(aRl hu).symm) (.inr ⟨v0.ownBlock,k3,hownk⟩) (fun b o hS=> ?_) hseal (fun b hb=> .inr (hownk b hb)) ⟨⟨[],rfl,rfl⟩,trivial⟩⟩;have hne:v0.ownBlock≠some b:=fun e=>hseal b e o hS;exact aRF (a:=⟨b,o,none⟩) (k3.block b (hH.sl b o hS) (fun e=>hne e.symm))
      |_=>cases hr
  ·cases hr
section
variable {P:Program}{o:Oper}{a:Act}{g:Gh}{w:World}{H:rO}{T:sG}{Γ:tW}(hT:wY P T) (hΓ:CX P Γ) (hH:rZ g w H)
include hT hΓ hH
theorem a9T {f:FuncId}{args:List pR}{vals:List Value}(hargs:v8 g w args vals) {base:Nat}{e:pY}(hr:IY H base args (Γ f)=some e) (hs: ∀p∈e.side,p) (hfr:zC g base e):
    (∀args w,(callFunc f args).run P w= .ok (.enter f args) w)∧Calls P f vals.toArray w (fun en w'=> ∃v g',en= .returned v∧rS g w H e g' w' v):=by
  cases hg:Γ f with
  |none=>rw[hg] at hr;cases hr
  | some sg=>
    rw[hg] at hr;obtain⟨hcon,hrow⟩:=hΓ f sg hg;refine⟨hcon.1,?_⟩;simp only[IY] at hr;cases hF:sg.row with
    | some F=>
      rw[hF] at hr;exact aI0 (hrow F hF) hH hargs hr hs
    | none=>
      rw[hF] at hr;simp only[SE] at hr;cases hn:O0 sg.ps args with
      | some k=>
        rw[hn] at hr;exact aIZ hcon hH hargs hr hs hfr
      | none=>
        rw[hn] at hr;exact a9R hcon hH hargs hr hs hfr
theorem aI1 {fop:Operand}{args:Array Operand}{tys:Array TypeId}(ho:o.op= .call ⟨.value fop,args,tys⟩) {ρ:Operand→pR}(hf:qV g w (ρ fop) (a.eval fop)) (hρ: ∀x∈args.toList,qV g w (ρ x) (a.eval x)) {base:Nat}{e:pY}
    (hr:L5 Γ H base (F6 T ρ args.toList tys.toList) (ρ fop)=some e) (hs: ∀p∈e.side,p) (hfr:zC g base e) (hlen:args.size=tys.size):qP P o a g w H e:=by
  have hargs:=a9m (a:=a) (ρ:=ρ) hT hΓ hH (xs:=args.toList) (ts:=tys.toList) (by simpa using hlen) hρ;unfold L5 at hr;split at hr
  · rename_i f caps k heq
    rw[heq] at hf
    obtain⟨vs,hcv,hfv⟩: ∃vs,xL g caps vs∧a.eval fop= .func (.func f) #[] vs.toArray:=by
      rcases hf.1 with⟨h1,_⟩ |⟨_,vs,h2,h3⟩
      ·cases h1
      · simp only[aR7,and_true] at h3
        exact⟨vs,h2,h3⟩
    obtain⟨hen,hc⟩:=a9T hT hΓ hH (aIs hT hΓ hH hargs (a9n hT hΓ hH hcv)) hr hs hfr;intro K Q hK;refine a9o ho hfv hen (hc.mono ?_);rintro en w' ⟨v,g',rfl,hE⟩;exact⟨v,rfl,hK _ w' v hE.w⟩
  · rename_i f k heq
    rw[heq] at hf
    have hfv:a.eval fop= .func (.func f) #[] ([]:List Value).toArray:=by
      rcases hf.1 with⟨h1,_⟩ |⟨_,h2⟩
      ·cases h1
      ·simpa[Rd,a8D] using h2
    obtain⟨hen,hc⟩:=a9T hT hΓ hH hargs hr hs hfr;intro K Q hK;refine a9o ho hfv hen ?_;rw[List.append_nil];refine hc.mono ?_;rintro en w' ⟨v,g',rfl,hE⟩;exact⟨v,rfl,hK _ w' v hE.w⟩
  ·cases hr
theorem a9U: ∀{xs:List Operand}{ts:List TypeId},IZ xs ts=true→xs.length=ts.length
  |[],[],_=>rfl
  |_::xs,_::ts,h=>by simp only[IZ] at h;simp [a9U h]
  |[],_::_,h=>by cases h
  |_::_,[],h=>by cases h
theorem ZB {op:Op}(ho:o.op=op) {ρ:Operand→pR}(hρ: ∀x∈s8 op,qV g w (ρ x) (a.eval x)) {base:Nat}{e:pY}(hr:tX T Γ o.type ρ base H op=some e) (hs: ∀p∈e.side,p) (hf:zC g base e):qP P o a g w H e:=by
  unfold tX at hr;split at hr
  · rename_i x
    exact a83 hT hH (.inl ho) (hρ x (by simp [s8])) hr hf
  · rename_i x
    exact a83 hT hH (.inr ho) (hρ x (by simp [s8])) hr hf
  ·exact aId hT hH ho hr hf
  · rename_i t x
    exact aIc hT hH ho (YZ hT hΓ hH (hρ x (by simp [s8]))) hr hf
  · rename_i t ps
    exact aHR hT hH ho (ρ:=ρ) (fun q hq=>hρ q.2 (by
      simp only[s8];generalize ps.toList=l at hq
      induction l with
      |nil=>cases hq
      |cons p l ih=>rcases aRv.1 hq with rfl|h<;>simp_all [s8.parts])) hr
  · rename_i t n ps
    exact aIi hT hH ho (ρ:=ρ) (fun q hq=>hρ q.2 (by
      simp only[s8];generalize ps.toList=l at hq
      induction l with
      |nil=>cases hq
      |cons p l ih=>rcases aRv.1 hq with rfl|h<;>simp_all [s8.parts])) hr hf
  · rename_i t x
    exact aH5 hT hH ho (hρ x (by simp [s8])) hr hs
  · rename_i t x y
    exact aIh hT hH ho (hρ x (by simp [s8])) (YZ hT hΓ hH (hρ y (by simp [s8]))) hr hs hf
  · rename_i x
    exact aHL hT hH ho (hρ x (by simp [s8])) hr
  · rename_i op t x y t'
    cases hb:RC op (ρ x) (ρ y) with
    | some r=>
      rw[hb] at hr;exact aHC hH ho (hρ x (by simp [s8])) (hρ y (by simp [s8])) (by rw[hb];exact hr) hs
    | none=>
      rw[hb] at hr;exact aIS hT hH ho (hρ x (by simp [s8])) (hρ y (by simp [s8])) hr
  · rename_i op t x
    exact aHD hH ho (hρ x (by simp [s8])) hr hs
  · rename_i t t' x
    cases hb:RE (rF T t) (rF T t') (ρ x) with
    | some r=>
      rw[hb] at hr;exact aHE hT hH ho (hρ x (by simp [s8])) (by rw[hb];exact hr)
    | none=>
      rw[hb] at hr;exact aIW hT hH ho (hρ x (by simp [s8])) hr
  · rename_i f first caps
    have hfi:first= #[]:=by
      cases hl:first.toList with
      |nil=>apply aSv.1;simpa using hl
      |cons x l=>rw[hl] at hr;cases hr
    subst hfi;exact aHV hT hH ho (ρ:=ρ) (fun x hx=>hρ x (by simpa[s8] using hx)) hr
  · rename_i t x lo hi
    refine aH6 hT hH ho (ρ:=ρ) (hρ x (by simp [s8])) (fun y hy=>hρ y ?_) (fun y hy=>hρ y ?_) hr hs
    · cases lo with
      |none=>simp at hy
      |some l=>simp at hy;subst hy;simp [s8,s8.opt,qG]
    · cases hi with
      |none=>simp at hy
      |some l=>simp at hy;subst hy;cases lo<;>simp [s8,s8.opt,qG]
  · rename_i t x f
    exact aHJ hT hH ho (hρ x (by simp [s8])) hr
  · rename_i t x f
    exact aHI hT hH ho (hρ x (by simp [s8])) hr
  · rename_i t x ix
    exact aHN hT hH ho (hρ x (by simp [s8])) (hρ ix (by simp [s8])) hr hs
  · rename_i t x ix
    exact aHM hT hH ho (hρ x (by simp [s8])) (hρ ix (by simp [s8])) hr hs
  · rename_i x i
    exact aHK hT hH ho (hρ x (by simp [s8])) hr hs
  · rename_i t r
    exact aIl hT hH ho hr hf
  · rename_i t x
    exact aIq hT hH ho (hρ x (by simp [s8])) hr hf
  · rename_i x b
    exact aIr hT hH ho (hρ x (by simp [s8])) hr
  · rename_i t x i ok
    exact aIn hT hH ho (hρ x (by simp [s8])) (hρ i (by simp [s8])) hr
  · rename_i t m k x
    exact a9j hT hH (.inl ho) (hρ m (by simp [s8])) (hρ k (by simp [s8])) (a9i (hρ x (by simp [s8]))) hr
  · rename_i t m k x
    exact a9j hT hH (.inr ho) (hρ m (by simp [s8])) (hρ k (by simp [s8])) (a9i (hρ x (by simp [s8]))) hr
  · rename_i c
    obtain⟨cal,args,tys⟩:=c;simp only at hr;unfold J0 at hr;split at hr
    ·exact aHU hT hH ho (ρ:=ρ) (fun x hx=>hρ x (by simpa[s8] using hx)) hr
    ·exact aIX hT hH ho (ρ:=ρ) (fun x hx=>hρ x (by simpa[s8] using hx)) hr hs
    ·exact a8T (mx:=true) hT hH ho (ρ:=ρ) (fun x hx=>hρ x (by simpa[s8] using hx)) hr
    ·exact a8T (mx:=false) hT hH ho (ρ:=ρ) (fun x hx=>hρ x (by simpa[s8] using hx)) hr
    · rename_i f
      cases hsl:IZ args.toList tys.toList with
      |false=>rw[hsl] at hr;cases hr
      | true=>
        rw[hsl] at hr;simp only[XX] at hr;exact aI1 hT hΓ hH ho (hρ f (by simp [s8])) (fun x hx=>hρ x (by simp [s8];right;simpa using hx)) hr hs hf (by simpa using a9U hT hΓ hH hsl)
    ·cases hr
  ·cases hr
end
def AG (g:Gh) (w:World) (env:List (Nat×pR)) (tmps:Array Value):Prop:= ∀t,qV g w (lk env t) (tmps.getD t undef)
def yR (B:Nat) (w:World) (ds:List Deferred):Prop:=ds.Nodup/\∀d∈ds,∃D,d={target:= .collected D,args:= #[]}/\B<=D/\NG<=D/\w.heap[D]? =some (.deferred (some []))
theorem a9V (B:Nat) (w:World):yR B w []:=⟨List.nodup_nil,fun d hd=>by cases hd⟩
theorem yR.same {B:Nat}{w w':World}{ds:List Deferred}(h:yR B w ds) (hb: ∀D:Nat,w.heap[D]? =some (Obj.deferred (some []))->w'.heap[D]? =some (Obj.deferred (some []))):yR B w' ds:=
 ⟨h.1,fun d hd=>by obtain⟨D,h1,h2,h0,h3⟩:=h.2 d hd;exact⟨D,h1,h2,h0,hb D h3⟩⟩
def FD:Obj->Bool
 | .deferred _=>true
 | .loop _=>true
 |_=>false
theorem ZC {w:World}{b:Nat}{ob:Obj}(hd:w.heap[b]? =some ob) (hm:FD ob=true) (o:Nat):w.cell? ⟨b,o,none⟩=none:=by
 unfold World.cell?;simp only[hd];cases ob<;>first|rfl|cases hm
theorem TL {g:Gh}{w:World}{i:Nat}{blk:pQ}(h:zA g w i blk) {b o:Nat}(ho:rP g i blk b o) {ob:Obj}(hd:w.heap[b]? =some ob) (hm:FD ob=true):False:=by
 have hrow: ∀{e:TypeId}{c n:Nat}{v:Value}{xs:List Value},w.ownsRow 0 e c v n xs->v.ownBlock=some b->False:=by
  intro e c n v xs hr hb;rcases hr.2 with⟨rfl,_⟩ |⟨g',cap,cur,rfl,_,h3,_⟩
  ·cases hb
  ·simp only[Value.ownBlock,aRg] at hb;subst hb;rw[hd] at h3;cases h3;cases hm
 cases blk with
 |cells t x toks=>
  obtain⟨p,cs,hp,_,_,ht,_⟩:=h;obtain⟨q,hq,rfl,h1,h2⟩:=ho;rw[hp] at hq;obtain rfl:=aRl hq;have:=(ht.1 (o-p.2) (by omega)).1;rw[ZC hd hm] at this;cases this
 |grow e c n=>
  obtain⟨v,xs,hv,hr,_⟩:=h;obtain⟨v',hv',hb⟩:=ho;rw[hv] at hv';obtain rfl:=aRl hv';exact hrow hr hb
 |row e t l n=>
  obtain⟨_,v,xs,hv,hr,_⟩:=h;obtain⟨v',hv',hb⟩:=ho;rw[hv] at hv';obtain rfl:=aRl hv';exact hrow hr hb
 |map k v l=>
  obtain⟨p,es,cl,hp,h0,h2,_⟩:=h;obtain⟨q,hq,h1⟩:=ho;rw[hp] at hq;obtain rfl:=aRl hq;rw[show b=p.1 from h1] at hd;rw[h2] at hd;cases hd;cases hm
 |iter s n=>
  obtain⟨p,hp,h0,h2,_⟩:=h;obtain⟨q,hq,h1⟩:=ho;rw[hp] at hq;obtain rfl:=aRl hq;rw[show b=p.1 from h1] at hd;rw[h2] at hd;cases hd;cases hm
 |dead=>exact ho.elim
theorem yR.eff {B:Nat}{g g':Gh}{w w':World}{H:rO}{e:pY}{v:Value}{ds:List Deferred}(h:yR B w ds) (hH:rZ g w H) (k:zB g w H e g' w' v):yR B w' ds:=
 h.same fun D hD=>by
  rw[k.fr.blk D (aRE.1 hD).1 (fun o ⟨i,blk,_,h1,h2⟩=>TL (hH.blk i blk h1) h2 hD rfl)];exact hD
structure uO (B:Nat) (g:Gh) (w:World) (s:St) (a:Act):Prop where
 env:AG g w s.env a.tmps
 heap:rZ g w s.H
 size:a.tmps.size=s.N
 nb: ∀i,s.nb<=i->g.J i=none/\∀n,g.cur i n=none
 def_:yR B w a.defers
 np:s.np<=s.nb
theorem aI2 (g:Gh) (w:World) (v:Value):z8 g w (WS v) v:=by
 unfold WS;split
 ·exact w9 _ _ _
 ·exact wH _ _ _ _
 ·rename_i s;have:=DT g w s.data.toList;rw[aSQ] at this;exact this
 ·exact rfl
 ·exact .inr ⟨rfl,rfl⟩
 ·exact .inr ⟨rfl,rfl⟩
 ·exact .inr ⟨rfl,rfl⟩
 ·exact trivial
theorem zG {g:Gh}{w:World}{env:List (Nat×pR)}{a:Act}(h:AG g w env a.tmps) (x:Operand):qV g w (tH env x) (a.eval x):=by
 cases x with
 |tmp t=>exact h t
 |const v=>exact⟨aI2 g w v,trivial⟩
 |func f=>exact⟨.inr ⟨rfl,[],rfl,rfl⟩,trivial⟩
 |global i=>exact⟨trivial,trivial⟩
theorem LR {g:Gh}{w:World}{G:Bool}(hG:G=true): ∀{ss:List pR}{s:pR}{v:Value},s∈ss->(∀p∈y7 G ss,p)->qV g w s v->qV g w (xD s) v
 |x::ss,s,v,hm,hn,hs=>by
  have hcase: ∀{s:pR},(∀p∈y7 G [s],p)->qV g w s v->qV g w (xD s) v:=by
   intro s hn hs;obtain⟨d,k⟩:=s;cases d with
   |cond p d=>
    refine⟨hs.1.1 (hn (G=true->p=true) (by simp [y7]) hG),?_⟩;simp only[xD]
   |_=>exact hs
  have hsplit: ∀p,p∈y7 G [x]->p∈y7 G (x::ss):=by
   intro p hp;unfold y7 at hp⊢;split at hp
   ·cases hp
   ·rename_i heq;simp only[aR7] at heq;obtain⟨rfl,rfl⟩:=heq;rcases aRv.1 hp with h|h
    ·exact h▸aRB
    ·cases h
   ·rename_i h0 heq;simp only[aR7] at heq;obtain⟨_,rfl⟩:=heq;cases hp
  have hsplit2: ∀p,p∈y7 G ss->p∈y7 G (x::ss):=by
   intro p hp;generalize hL:y7 G ss=L at hp;unfold y7;split
   ·rename_i h;cases h
   ·rename_i heq;simp only[aR7] at heq;obtain⟨_,rfl⟩:=heq;rw[hL];exact aRt _ hp
   ·rename_i heq;simp only[aR7] at heq;obtain⟨_,rfl⟩:=heq;rw[hL];exact hp
  rcases aRv.1 hm with rfl|hm
  ·exact hcase (fun p hp=>hn p (hsplit p hp)) hs
  ·exact LR hG hm (fun p hp=>hn p (hsplit2 p hp)) hs
theorem TM {env:List (Nat×pR)}: ∀{xs:List Operand}{x:Operand},x∈xs->tH env x∈BB env xs
 |y::xs,x,h=>by
  simp only[BB];rcases aRv.1 h with rfl|h
  ·exact aRB
  ·exact aRt _ (TM h)
theorem ZD: ∀(ops:List Oper) (j:Nat),CO ops j=(ops[j]?).bind (·.dst)
 |[],j=>by simp [CO]
 |o::_,0=>rfl
 |_::r,j+1=>by simpa[CO] using ZD r j
section
variable {P:Program}{g:Gh}{w:World}{T:sG}{Γ:tW}(hT:wY P T) (hΓ:CX P Γ)
include hT hΓ
theorem aI3 {ops:List Oper}{o:Oper}{a:Act}{env:List (Nat×pR)}(henv:AG g w env a.tmps) {j:Nat}{b:Bool}(hg:o.guard=some (j,b)) {G:Bool}(h:F8 env b (CO ops j)=some G):Region.wanted o (yielded ops.toArray a.tmps)=G:=by
 rw[ZD] at h;unfold Region.wanted;rw[hg];simp only;cases hd:(ops[j]?).bind (·.dst) with
 |none=>rw[hd] at h;cases h
 |some t=>
  rw[hd] at h;simp only[F8] at h;have hy:yielded ops.toArray a.tmps j=match a.tmps[t]? with|some (.bool b)=>some b|_=>none:=by
   unfold yielded;have:(ops.toArray[j]?).bind (·.dst)=some t:=by simpa using hd
   rw[this];rfl
  have hv:=henv t;generalize hl:lk env t=s at h hv;unfold a8s at h;have hb: ∀c,a.tmps.getD t undef= .bool c->a.tmps[t]? =some (.bool c):=by
   intro c hc;rw[aRQ] at hc;cases hq:a.tmps[t]? with
   |none=>rw[hq] at hc;simp [undef] at hc
   |some v=>rw[hq] at hc;simp at hc;rw[hc]
  split at h
  ·rename_i c k;simp only[aRg] at h;have:=hb _ (wZ hv.1);rw[hy,this,<-h];cases c<;>cases b<;>rfl
  ·rename_i p c k;simp only[aRg] at h;subst h;cases p with
   |true=>
    have:=hb _ (wZ (hv.1.1 rfl));rw[hy,this];cases c<;>cases b<;>rfl
   |false=>
    have hu:=hv.1.2 rfl;have: ∀c,a.tmps[t]? ≠some (.bool c):=by
     intro c hc;rw[aRQ,hc] at hu;simp [undef] at hu
    rw[hy];cases hq:a.tmps[t]? with
    |none=>cases b<;>rfl
    |some v=>cases v<;>first|(exact absurd hq (this _)) |(cases b<;>rfl)
  ·cases h
theorem OY {G:Bool}{p:Prop}: ∀{l:List Prop},p∈l->(G=true->p)∈O8 G l
 |q::l,h=>by
  simp only[O8];rcases aRv.1 h with rfl|h
  ·exact aRB
  ·exact aRt _ (OY h)
theorem ZE {o:Oper}{a:Act}{H:rO}(hH:rZ g w H) {c x y:Operand}(hop:o.op= .pick c x y) {sc sx sy:pR}(hc:qV g w sc (a.eval c)) (hx:qV g w sx (a.eval x)) (hy:qV g w sy (a.eval y)) {e:pY}(hr:O7 sc sx sy=some e) (hs: ∀p∈e.side,p):qP P o a g w H e:=by
 intro K Q hK;unfold O7 at hr;split at hr
 ·rename_i z k;have hz:=wZ hc.1;have run:(execOp a.eval o).run P w= .ok (.value (if z then a.eval x else a.eval y)) w:=by
   unfold execOp;rw[hop];simp [hz,asBool]
  have wQ: ∀{v:Bool}{side:List Prop},(if z then a.eval x else a.eval y)= .bool v->e=⟨side,(.val .bool v,none),[],[]⟩->o.wp P a w K Q:=by
   intro v side hv he;subst he;refine qP.value (v:= .bool v) (g':=g) (w':=w) (H:=H) (by rw[run,hv]) (.pure hH (s:=(.val .bool v,none)) ⟨(w9 g w v:z8 g w (.val .bool v) (.bool v)),trivial⟩) K Q hK
  unfold a8t at hr;split at hr
  ·rename_i m1 _ m2 _;simp only[aRg] at hr;refine wQ (v:=cond z m1 m2) ?_ hr.symm;cases z
   ·exact wZ hy.1
   ·exact wZ hx.1
  ·rename_i p m1 _ m2 _;simp only[aRg] at hr;refine wQ (v:=cond z m1 m2) ?_ hr.symm;cases z
   ·exact wZ hy.1
   ·exact wZ (hx.1.1 (hs (true=true->p=true) (by rw[<-hr];simp) rfl))
  ·rename_i m1 _ p m2 _;simp only[aRg] at hr;refine wQ (v:=cond z m1 m2) ?_ hr.symm;cases z
   ·exact wZ (hy.1.1 (hs (false=false->p=true) (by rw[<-hr];simp) rfl))
   ·exact wZ hx.1
  ·rename_i q m1 _ p m2 _;simp only[aRg] at hr;refine wQ (v:=cond z m1 m2) ?_ hr.symm;cases z
   ·exact wZ (hy.1.1 (hs (false=false->p=true) (by rw[<-hr];simp) rfl))
   ·exact wZ (hx.1.1 (hs (true=true->q=true) (by rw[<-hr];simp) rfl))
  ·cases hr
 ·cases hr
omit hT hΓ in
theorem OZ {np:Nat}{x:Option pY}{e:pY}(h:Y3 np x=some e):x=some e/\(GS e.rds=true->GZ np e.upd=true):=by
 cases x with
 |none=>cases h
 |some q=>
  simp only[Y3] at h;cases hq:GS q.rds with
  |false=>
   rw[hq] at h;cases h;exact⟨rfl,fun h=>by rw[hq] at h;cases h⟩
  |true=>
   rw[hq] at h;simp only[a8u] at h;split at h
   ·rename_i hc;cases h;exact⟨rfl,fun _=>hc⟩
   ·cases h
omit hT hΓ in
theorem a9W {np:Nat}{H:rO}: ∀{U:List (Nat×pQ)},GZ np U=true->∀{i:Nat}{u:Ty}{y:u.den}{us:List (Nat×Nat)},i<np->pT (qG U H) i=some (.cells u y us)->pT H i=some (.cells u y us)
 |[],_,i,u,y,us,_,h=>h
 |(j,b)::U,h,i,u,y,us,hi,hg=>by
  simp only[qG,pT] at hg;split at hg
  ·rename_i e;subst e;simp only[aRg] at hg;subst hg;simp only[GZ] at h;split at h
   ·omega
   ·cases h
  ·refine a9W ?_ hi hg;unfold GZ at h;split at h
   ·rename_i heq;cases heq
   ·rename_i heq;cases heq;split at h
    ·exact h
    ·cases h
   ·rename_i heq;cases heq;exact h
theorem a9X {ops:List Oper}{o:Oper}{a:Act}{s:St}{e:pY}(henv:AG g w s.env a.tmps) (hH:rZ g w s.H) (hr:DQ T Γ ops o s=some e) (hs: ∀p∈e.side,p) (hf:zC g s.nb e) {K:Act->World->Prop}{Q:Exit->Act->World->Prop}
  (hK: ∀g' w' v,zB g w s.H e g' w' v->K (a.put o.dst v) w'):
  if Region.wanted o (yielded ops.toArray a.tmps) then o.wp P a w K Q else K (a.put o.dst undef) w:=by
 replace hr:=(OZ hr).1;unfold LB at hr;cases hgd:o.guard with
 |none=>
  rw[hgd] at hr;simp only at hr;have hw:Region.wanted o (yielded ops.toArray a.tmps)=true:=by unfold Region.wanted;rw[hgd]
  rw[if_pos hw];cases hop:o.op with
  |pick c x y=>
   rw[hop] at hr;simp only[LA] at hr;exact ZE hT hΓ hH hop (zG henv c) (zG henv x) (zG henv y) hr hs K Q hK
  |_=>
   rw[hop] at hr;simp only[LA] at hr;rw[<-hop] at hr;generalize hpl:tX T Γ o.type (fun x=>xD (tH s.env x)) s.nb s.H o.op=op at hr;cases op with
   |none=>cases hr
   |some e0=>
    simp only[L8,aRg] at hr;subst hr;refine ZB hT hΓ hH rfl (ρ:=fun x=>xD (tH s.env x)) (fun x hx=> ?_) hpl (fun p hp=>hs p (wJ.2 (.inr hp))) hf K Q (fun g' w' v h=>hK g' w' v ⟨h.le,h.slot,h.heap,h.fr,h.perm,h.gho,h.ty⟩);exact LR rfl (TM hx) (fun p hp=>hs p (wJ.2 (.inl hp))) (zG henv x)
 |some jb=>
  obtain⟨j,b⟩:=jb;rw[hgd] at hr;simp only at hr;generalize hG:F8 s.env b (CO ops j)=oG at hr;cases oG with
  |none=>cases hr
  |some G=>
   have hw:=aI3 hT hΓ henv hgd hG;rw[hw];by_cases hpk: ∃c x y,o.op= .pick c x y
   ·obtain⟨c,x,y,hop⟩:=hpk;rw[hop] at hr;simp only[L9] at hr;generalize hpl:O7 (xD (tH s.env c)) (tH s.env x) (tH s.env y)=op at hr;cases op with
    |none=>cases hr
    |some e0=>
     unfold GY at hr;split at hr
     ·rename_i side d k rds heq;simp only[aRg] at hr heq;subst hr;subst heq;by_cases hGt:G=true
      ·rw[if_pos hGt];refine ZE hT hΓ hH hop (LR hGt (ss:=[tH s.env c]) (by simp) (fun p hp=>hs p (wJ.2 (.inl hp))) (zG henv c)) (zG henv x) (zG henv y) hpl (fun p hp=>hs (G=true->p) (wJ.2 (.inr (OY hT hΓ hp))) hGt) K Q (fun g' w' v h=>hK g' w' v ⟨h.le,⟨⟨fun _=>h.slot.1,fun hc=>by rw[hGt] at hc;cases hc⟩,trivial⟩,h.heap,h.fr,h.perm,h.gho,h.ty⟩)
      ·rw[if_neg hGt];exact hK g w undef (zB.pure hH ⟨⟨fun hc=>absurd hc hGt,fun _=>rfl⟩,trivial⟩)
     ·rename_i side sl u us rds heq;simp only[aRg] at hr heq;subst hr;subst heq;have hGt:G=true:=hs _ aRB;rw[if_pos hGt];exact ZE hT hΓ hH hop (LR hGt (ss:=[tH s.env c]) (by simp) (fun p hp=>hs p (aRt _ (wJ.2 (.inl hp)))) (zG henv c)) (zG henv x) (zG henv y) hpl (fun p hp=>hs (G=true->p) (aRt _ (wJ.2 (.inr (OY hT hΓ hp)))) hGt) K Q (fun g' w' v h=>hK g' w' v ⟨h.le,h.slot,h.heap,h.fr,h.perm,h.gho,h.ty⟩)
     ·cases hr
   ·have e1:L9 T Γ o s (some G) o.op=GY G (y7 G (BB s.env (s8 o.op))) (tX T Γ o.type (fun x=>xD (tH s.env x)) s.nb s.H o.op):=by
     cases ho:o.op<;>first|rfl|(exact absurd ⟨_,_,_,ho⟩ hpk)
    rw[e1] at hr;generalize hpl:tX T Γ o.type (fun x=>xD (tH s.env x)) s.nb s.H o.op=op at hr;cases op with
    |none=>cases hr
    |some e0=>
     unfold GY at hr;split at hr
     ·rename_i side d k rds heq;simp only[aRg] at hr heq;subst hr;subst heq;by_cases hGt:G=true
      ·rw[if_pos hGt];refine ZB hT hΓ hH rfl (ρ:=fun x=>xD (tH s.env x)) (fun x hx=> ?_) hpl (fun p hp=>hs (G=true->p) (wJ.2 (.inr (OY hT hΓ hp))) hGt) (fun i hi=>by cases hi) K Q (fun g' w' v h=>hK g' w' v ⟨h.le,⟨⟨fun _=>h.slot.1,fun hc=>by rw[hGt] at hc;cases hc⟩,trivial⟩,h.heap,h.fr,h.perm,h.gho,h.ty⟩);exact LR hGt (TM hx) (fun p hp=>hs p (wJ.2 (.inl hp))) (zG henv x)
      ·rw[if_neg hGt];exact hK g w undef (zB.pure hH ⟨⟨fun hc=>absurd hc hGt,fun _=>rfl⟩,trivial⟩)
     ·rename_i side sl u us rds heq;simp only[aRg] at hr heq;subst hr;subst heq;have hGt:G=true:=hs _ aRB;rw[if_pos hGt];refine ZB hT hΓ hH rfl (ρ:=fun x=>xD (tH s.env x)) (fun x hx=> ?_) hpl (fun p hp=>hs (G=true->p) (aRt _ (wJ.2 (.inr (OY hT hΓ hp)))) hGt) hf K Q (fun g' w' v h=>hK g' w' v ⟨h.le,h.slot,h.heap,h.fr,h.perm,h.gho,h.ty⟩);exact LR hGt (TM hx) (fun p hp=>hs p (aRt _ (wJ.2 (.inl hp)))) (zG henv x)
     ·cases hr
end
structure sR (A:Nat->Nat->Prop) (L:List pQ) (g0:Gh) (w0:World) (g:Gh) (w:World) (H:rO):Prop where
 shut: ∀b o,g0.S b o->g.S b o/\w.cell? ⟨b,o,none⟩=w0.cell? ⟨b,o,none⟩
 fr:Fr A w0 w g0.S g.S
 perm: ∀i blk b o,pT H i=some blk->rP g i blk b o->w0.heap.size<=b\/A b o
 J: ∀i p,i<L.length->g0.J i=some p->g.J i=some p
 live: ∀i,i<L.length->(∃p,g.J i=some p)\/(∃n v,g.cur i n=some v)
 ty: ∀i u y us,i<L.length->pT H i=some (.cells u y us)->∃x ts,L[i]? =some (.cells u x ts)
 cur: ∀i n v,i<L.length->g0.cur i n=some v->g.cur i n=some v
theorem sR.eff {A:Nat->Nat->Prop}{L:List pQ}{g0 g g':Gh}{w0 w w':World}{H:rO}{e:pY}{v:Value}(h:sR A L g0 w0 g w H) (k:zB g w H e g' w' v) (hc:GS e.rds=true->GZ L.length e.upd=true):sR A L g0 w0 g' w' (qG e.upd H):=by
 have hown: ∀b o,sJ g H (pU e.upd) b o->w0.heap.size<=b\/A b o:=fun b o ⟨i,blk,_,h2,h3⟩=>h.perm i blk b o h2 h3;refine⟨fun b o hs=> ?_,h.fr.trans k.fr hown,fun i blk b o hg ho=> ?_,fun i p hi hp=>k.le.J _ _ (h.J i p hi hp),fun i hi=> ?_,fun i u y us hi hg=> ?_,fun i n u hi hu=>k.le.cur _ _ _ (h.cur i n u hi hu)⟩
 ·obtain⟨h1,h2⟩:=h.shut b o hs;exact⟨k.le.S b o h1,(k.le.cell b o h1).trans h2⟩
 ·by_cases hi:i∈pU e.upd
  ·rcases k.perm i blk b o hi hg ho with h1|h1
   ·exact .inl (aSe h.fr.size h1)
   ·exact hown b o h1
  ·exact h.perm i blk b o ((BE hi).symm.trans hg) ((y8 (k.gho i hi).1 (k.gho i hi).2).1 ho)
 ·rcases h.live i hi with⟨p,hp⟩ |⟨n,u,hu⟩
  ·exact .inl ⟨p,k.le.J _ _ hp⟩
  ·exact .inr ⟨n,u,k.le.cur _ _ _ hu⟩
 ·cases hre:GS e.rds with
  |true=>exact h.ty i u y us hi (a9W (hc hre) hi hg)
  |false=>
   rcases k.ty hre i u y us hg with⟨x,ts,h1⟩ |⟨h1,h2⟩
   ·exact h.ty i u x ts hi h1
   ·rcases h.live i hi with⟨p,hp⟩ |⟨n,u,hu⟩
    ·rw[h1] at hp;cases hp
    ·rw[h2] at hu;cases hu
def yS:List (Nat×Nat)->Nat->Option Nat
 |[],_=>none
 |(n,o)::r,k=>if n=k then some o else yS r k
def u6 (g:Gh) (np:Nat) (m:List (Nat×Nat)):Gh:=
 ⟨g.S,fun i=>if i<np then g.J i else(yS m i).bind g.J,fun i n=>if i<np then g.cur i n else(yS m i).bind fun o=>g.cur o n⟩
theorem TN {n o:Nat}: ∀{m:List (Nat×Nat)},LD n o m=false->∀n' o',(n',o')∈m->n'≠n/\o'≠o
 |[],_,_,_,h=>by cases h
 |(a,b)::m,h,n',o',hm=>by
  simp only[LD,aSo,aRU] at h;rcases aRv.1 hm with h1|h1
  ·cases h1;exact h.1
  ·exact TN h.2 n' o' h1
theorem ZF {np:Nat}: ∀{m:List (Nat×Nat)},xE np m=true->∀{n o:Nat},(n,o)∈m->yS m n=some o/\(n<np->o=n)
 |[],_,_,_,h=>by cases h
 |(a,b)::m,hk,n,o,h=>by
  simp only[xE,aRm,aRK,aSu,aRk] at hk;obtain⟨⟨h1,h2⟩,h3⟩:=hk;simp only[yS];rcases aRv.1 h with h4|h4
  ·cases h4;rw[if_pos rfl];exact⟨rfl,fun h5=>by rcases h1 with h1|h1<;>omega⟩
  ·have h5:=TN h2 n o h4;rw[if_neg (Ne.symm h5.1)];exact ZF h3 h4
theorem C0: ∀{m:List (Nat×Nat)}{k j:Nat},wG m k=some j->(j,k)∈m
 |[],_,_,h=>by cases h
 |(a,b)::m,k,j,h=>by
  simp only[wG] at h;split at h
  ·rename_i e;subst e;simp only[aRg] at h;subst h;exact aRB
  ·exact aRt _ (C0 h)
theorem zW {g:Gh}{np:Nat}{m:List (Nat×Nat)}(hk:xE np m=true) {n o:Nat}(h:(n,o)∈m):(u6 g np m).J n=g.J o/\(u6 g np m).cur n=g.cur o:=by
 obtain⟨h1,h2⟩:=ZF hk h;refine⟨?_,?_⟩
 ·show (if n<np then g.J n else(yS m n).bind g.J)=_;by_cases hn:n<np
  ·rw[if_pos hn,h2 hn]
  ·rw[if_neg hn,h1];rfl
 ·funext q;show (if n<np then g.cur n q else(yS m n).bind fun o=>g.cur o q)=_;by_cases hn:n<np
  ·rw[if_pos hn,h2 hn]
  ·rw[if_neg hn,h1];rfl
theorem ZG {g:Gh}{np:Nat}{m:List (Nat×Nat)}(hk:xE np m=true): ∀(l l':List (Nat×Nat)) (vs:List Value),xL g l vs->BC m l=some l'->xL (u6 g np m) l' vs
 |[],l',vs,h,hr=>by simp only[BC,aRg] at hr;subst hr;exact h
 |(i,o)::l,l',vs,⟨p,vs',h1,h2,h3⟩,hr=>by
  simp only[BC] at hr;cases hi:wG m i with
  |none=>rw[hi] at hr;cases hr2:BC m l<;>rw[hr2] at hr<;>cases hr
  |some j=>
   rw[hi] at hr;cases hr2:BC m l with
   |none=>rw[hr2] at hr;cases hr
   |some l2=>
    rw[hr2] at hr;simp only[BC.renCons,aRg] at hr;subst hr;exact⟨p,vs',by rw[(zW hk (C0 hi)).1];exact h1,h2,ZG hk l l2 vs' h3 hr2⟩
theorem aI4 {m:List (Nat×Nat)}{u t:Ty}{x y:t.den}{o:Nat}{l:List u.den}(h:yO m t x=some y) (hg:qO (.list u) t x o=some l):qO (.list u) t y o=some l:=
 Z2 (yO m) (fun _ _ _=>rfl) (fun _ _=>rfl) h hg
theorem P0 {g:Gh}{w:World}{np:Nat}{m:List (Nat×Nat)}(hk:xE np m=true): ∀{t:Ty}{x y:t.den}{cs:List Value},Rd g w t x cs->yO m t x=some y->Rd (u6 g np m) w t y cs
 | .bool,_,_,_,r,h=>by cases h;exact r
 | .int _,_,_,_,r,h=>by cases h;exact r
 | .str,_,_,_,r,h=>by cases h;exact r
 | .unit,_,_,_,r,h=>by cases h;exact r
 | .list t,x,y,_,r,h=>by
  simp only[yO] at h;split at h
  ·rename_i hp;cases h;exact vH (g:=g) (g':=u6 g np m) rfl (t:= .list t) (by simpa[Ty.pure] using hp) r
  ·cases h
 | .ref,none,y,_,r,h=>by cases h;exact r
 | .ref,some (i,o),y,_,⟨p,h1,h2⟩,h=>by
  simp only[yO,SR] at h;cases hi:wG m i with
  |none=>rw[hi] at h;cases h
  |some j=>
   rw[hi] at h;cases h;exact⟨p,by rw[(zW hk (C0 hi)).1];exact h1,h2⟩
 | .clo,none,y,_,r,h=>by cases h;exact r
 | .clo,some (f,l),y,_,⟨vs,h1,h2⟩,h=>by
  simp only[yO,a8y] at h;cases hi:BC m l with
  |none=>rw[hi] at h;cases h
  |some l'=>
   rw[hi] at h;cases h;exact⟨vs,ZG hk l l' vs h1 hi,h2⟩
 | .fn,_,_,_,r,h=>by cases h;exact r
 | .rl _ _,none,y,_,r,h=>by cases h;exact r
 | .rl _ _,some (k,n),y,_,⟨v,h1,h2⟩,h=>by
  simp only[yO,a8A] at h;cases hi:wG m k with
  |none=>rw[hi] at h;cases h
  |some j=>
   rw[hi] at h;cases h;exact⟨v,by rw[(zW hk (C0 hi)).2];exact h1,h2⟩
 | .mref,none,y,_,r,h=>by cases h;exact r
 | .mref,some (i,o),y,_,⟨p,h1,h2⟩,h=>by
  simp only[yO,SR] at h;cases hi:wG m i with
  |none=>rw[hi] at h;cases h
  |some j=>
   rw[hi] at h;cases h;exact⟨p,by rw[(zW hk (C0 hi)).1];exact h1,h2⟩
 | .mp,none,y,_,r,h=>by cases h;exact r
 | .mp,some i,y,_,⟨p,h1,h2⟩,h=>by
  simp only[yO,a8z] at h;cases hi:wG m i with
  |none=>rw[hi] at h;cases h
  |some j=>
   rw[hi] at h;cases h;exact⟨p,by rw[(zW hk (C0 hi)).1];exact h1,h2⟩
 | .pair a b,x,y,_,⟨c1,c2,e,r1,r2⟩,h=>by
  simp only[yO] at h;obtain⟨h1,h2⟩:=Z1 h;refine⟨c1,c2,e,?_,?_⟩
  ·split at h1
   ·rename_i hp;exact(aRl h1)▸vH (g:=g) (g':=u6 g np m) rfl hp r1
   ·exact P0 hk r1 h1
  ·split at h2
   ·rename_i hp;exact(aRl h2)▸vH (g:=g) (g':=u6 g np m) rfl hp r2
   ·exact P0 hk r2 h2
theorem TO {g:Gh}{w:World}{np:Nat}{m:List (Nat×Nat)}(hk:xE np m=true) {s:pR}{v:Value}(h:qV g w s v):qV (u6 g np m) w (z7 m s) v:=by
 have caps: ∀(l l':List (Nat×Nat)) (vs:List Value),xL g l vs->BC m l=some l'->xL (u6 g np m) l' vs:=ZG hk;unfold z7;split
 ·rename_i k n k';cases hi:wG m k with
  |none=>exact⟨trivial,trivial⟩
  |some j=>
   obtain⟨h1,h2⟩:=h.1;exact⟨⟨by rw[(zW hk (C0 hi)).2];exact h1,h2⟩,trivial⟩
 ·obtain h1:=h.1;refine⟨?_,trivial⟩;rcases h1 with⟨h1,_⟩ |⟨_,h2⟩
  ·cases h1
  ·exact .inr ⟨rfl,h2⟩
 ·rename_i p k;obtain⟨i,o⟩:=p;simp only[a8w];cases hi:wG m i with
  |none=>exact⟨trivial,trivial⟩
  |some j=>
   simp only[Option.map_some,z7.refSlot];obtain⟨q,hq,hv⟩:=yP h.1;exact⟨.inr ⟨rfl,q,by rw[(zW hk (C0 hi)).1];exact hq,by rw[hv]⟩,trivial⟩
 ·rename_i f l k;cases hl:BC m l with
  |none=>exact⟨trivial,trivial⟩
  |some l'=>
   simp only[z7.cloSlot];rcases h.1 with⟨h1,_⟩ |⟨_,vs,h2,h3⟩
   ·cases h1
   ·exact⟨.inr ⟨rfl,vs,caps l l' vs h2 hl,h3⟩,trivial⟩
 ·rename_i i k;cases hi:wG m i with
  |none=>exact⟨trivial,trivial⟩
  |some j=>
   simp only[z7.mpSlot];rcases h.1 with⟨h1,_⟩ |⟨_,p,h2,h3⟩
   ·cases h1
   ·exact⟨.inr ⟨rfl,p,by rw[(zW hk (C0 hi)).1];exact h2,h3⟩,trivial⟩
 ·rename_i t x k _ _ _ _;split
  ·rename_i hp;have hv:sO (u6 g np m) w t x v:=h.1.imp (fun⟨a,cs,e,q⟩=>⟨a,cs,e,vH (g:=g) (g':=u6 g np m) rfl hp q⟩) (fun⟨a,q⟩=>⟨a,vH (g:=g) (g':=u6 g np m) rfl hp q⟩);refine⟨hv,?_⟩;replace h:=a9l h;generalize htk:F1 t k=k' at h⊢;cases k' with
   |none=>trivial
   |some k=>
    simp only[a8x];cases hj:wG m k with
    |none=>trivial
    |some j=>
     have h2:=h.2;cases t with
     |list u=>
      show (u6 g np m).cur j _=_;rw[(zW hk (C0 hj)).2];exact h2
     |pair a b=>exact h2
     |_=>exact h2.elim
  ·cases hy:yO m t x with
   |none=>exact⟨trivial,trivial⟩
   |some y=>
    simp only[z7.valSlot];exact⟨h.1.imp (fun⟨a,cs,e,q⟩=>⟨a,cs,e,P0 hk q hy⟩) (fun⟨a,q⟩=>⟨a,P0 hk q hy⟩),trivial⟩
 ·rename_i t x k;split
  ·rename_i hp;obtain⟨b,o,cs,h1,h2,h3,h4⟩:=h.1;exact⟨⟨b,o,cs,h1,h2,h3,vH (g:=g) (g':=u6 g np m) rfl hp h4⟩,trivial⟩
  ·exact⟨trivial,trivial⟩
 ·exact⟨trivial,trivial⟩
theorem a9Y {q j:Nat}{x:Nat×Nat}: ∀{r:List (Nat×Nat)},x∈SS q j r->x=(q,j)\/x∈r
 |[],h=> .inl (aRr.1 h)
 |(a,b)::r,h=>by
  simp only[SS] at h;split at h
  ·exact aRv.1 h
  ·rcases aRv.1 h with h|h
   ·exact .inr (by rw[h];exact aRB)
   ·exact(a9Y h).imp id (aRt _)
theorem TP {m:List (Nat×Nat)}: ∀{ts:List (Nat×Nat)}{q j:Nat},(q,j)∈J3 m ts->∃k,(q,k)∈ts/\wG m k=some j
 |[],_,_,h=>by cases h
 |(a,b)::ts,q,j,h=>by
  simp only[J3] at h;cases hb:wG m b with
  |none=>
   rw[hb] at h;obtain⟨k,h1,h2⟩:=TP h;exact⟨k,aRt _ h1,h2⟩
  |some j'=>
   rw[hb] at h;simp only[J3.renTok1] at h;rcases a9Y h with h1|h1
   ·cases h1;exact⟨b,aRB,hb⟩
   ·obtain⟨k,h1,h2⟩:=TP h1;exact⟨k,aRt _ h1,h2⟩
theorem JC {g:Gh}{w:World}{np:Nat}{m:List (Nat×Nat)}(hk:xE np m=true) {n o:Nat}(hm:(n,o)∈m) {b:Option pQ}(h: ∀c,b=some c->zA g w o c):
  zA (u6 g np m) w n (H5 m b)/\∀bb oo,rP (u6 g np m) n (H5 m b) bb oo->∃c,b=some c/\rP g o c bb oo:=by
 obtain⟨hJ,hcur⟩:=zW (g:=g) hk hm;unfold H5;split
 ·rename_i t x toks;split
  ·rename_i hp;obtain⟨p,cs,h1,h2,h3,h4,h5,h6⟩:=h _ rfl;refine⟨⟨p,cs,by rw[hJ];exact h1,vH (g:=g) (g':=u6 g np m) rfl hp h2,h3,h4,h5,fun q j hmem=> ?_⟩,fun bb oo ⟨pp,e1,e2⟩=>⟨_,rfl,pp,by rw[hJ] at e1;exact e1,e2⟩⟩;obtain⟨k,k1,k2⟩:=TP hmem;obtain⟨u,l,v,g1,g2,g3⟩:=h6 q k k1;exact⟨u,l,v,g1,g2,by rw[(zW hk (C0 k2)).2];exact g3⟩
  ·cases hy:yO m t x with
   |none=>exact⟨trivial,fun _ _ h=>h.elim⟩
   |some y=>
    obtain⟨p,cs,h1,h2,h3,h4,h5,h6⟩:=h _ rfl;simp only[Y5];refine⟨⟨p,cs,by rw[hJ];exact h1,P0 hk h2 hy,h3,h4,h5,fun q j hmem=> ?_⟩,fun bb oo ⟨pp,e1,e2⟩=>⟨_,rfl,pp,by rw[hJ] at e1;exact e1,e2⟩⟩;obtain⟨k,k1,k2⟩:=TP hmem;obtain⟨u,l,v,g1,g2,g3⟩:=h6 q k k1;exact⟨u,l,v,aI4 hy g1,g2,by rw[(zW hk (C0 k2)).2];exact g3⟩
 ·rename_i e c k;obtain⟨v,xs,h1,h2,h3,h4⟩:=h _ rfl;exact⟨⟨v,xs,by rw[hcur];exact h1,h2,fun q hq=>by rw[hcur];exact h3 q hq,h4⟩,fun bb oo ⟨v',e1,e2⟩=>⟨_,rfl,v',by rw[hcur] at e1;exact e1,e2⟩⟩
 ·rename_i e t l n;split
  ·rename_i hp;obtain⟨h0,v,xs,h1,h2,h5,h3,h4⟩:=h _ rfl;exact⟨⟨h0,v,xs,by rw[hcur];exact h1,h2,BD (fun _ _ h=>vH (g:=g) (g':=u6 g np m) rfl hp h) h5,fun q hq=>by rw[hcur];exact h3 q hq,h4⟩,fun bb oo ⟨v',e1,e2⟩=>⟨_,rfl,v',by rw[hcur] at e1;exact e1,e2⟩⟩
  ·exact⟨trivial,fun _ _ h=>h.elim⟩
 ·rename_i k v l;split
  ·rename_i hp;rw[aRm] at hp;obtain⟨p,es,cl,h1,h0,h2,h3,h4⟩:=h _ rfl;exact⟨⟨p,es,cl,by rw[hJ];exact h1,h0,h2,OH (g:=g) (g':=u6 g np m) rfl hp.1 hp.2 h3,h4⟩,fun bb oo ⟨pp,e1,e2⟩=>⟨_,rfl,pp,by rw[hJ] at e1;exact e1,e2⟩⟩
  ·exact⟨trivial,fun _ _ h=>h.elim⟩
 ·obtain⟨p,h1,h0,h2,h4⟩:=h _ rfl;exact⟨⟨p,by rw[hJ];exact h1,h0,h2,h4⟩,fun bb oo ⟨pp,e1,e2⟩=>⟨_,rfl,pp,by rw[hJ] at e1;exact e1,e2⟩⟩
 ·exact⟨trivial,fun _ _ h=>h.elim⟩
theorem HA {m:List (Nat×Nat)}{H:rO}: ∀{l:List (Nat×Nat)}{n:Nat}{b:pQ},pT (ST m H l) n=some b->∃o,(n,o)∈l/\b=H5 m (pT H o)
 |[],_,_,h=>by cases h
 |(a,c)::l,n,b,h=>by
  simp only[ST,pT] at h;split at h
  ·rename_i e;subst e;exact⟨c,aRB,(aRl h).symm⟩
  ·obtain⟨o,h1,h2⟩:=HA h;exact⟨o,aRt _ h1,h2⟩
theorem a9Z {m:List (Nat×Nat)}{env:List (Nat×pR)}: ∀(l:List Nat) (t:Nat),lk (OB m env l) t=(.any,none)\/lk (OB m env l) t=z7 m (lk env t)
 |[],_=> .inl rfl
 |a::l,t=>by
  simp only[OB,lk];split
  ·rename_i e;subst e;exact .inr rfl
  ·exact a9Z l t
theorem a90: ∀{m:List (Nat×Nat)}{n o:Nat},(n,o)∈m->n<SU m
 |(a,b)::m,n,o,h=>by
  simp only[SU];rcases aRv.1 h with h1|h1
  ·cases h1;omega
  ·have:=a90 h1;omega
theorem ZH: ∀{m:List (Nat×Nat)}{n o:Nat},yS m n=some o->(n,o)∈m
 |[],_,_,h=>by cases h
 |(a,b)::m,n,o,h=>by
  simp only[yS] at h;split at h
  ·rename_i e;subst e;simp only[aRg] at h;subst h;exact aRB
  ·exact aRt _ (ZH h)
theorem ZI {B:Nat}{A:Nat->Nat->Prop}{L:List pQ}{g0 g:Gh}{w0 w:World}{s:St}{a:Act}(h:uO B g w s a) (hg:sR A L g0 w0 g w s.H) (hnp:s.np=L.length) (k:vK) (hk:xE s.np k.ids=true):
  uO B (u6 g s.np k.ids) w (s.keep k) a/\sR A L g0 w0 (u6 g s.np k.ids) w (s.keep k).H/\(s.keep k).np=L.length/\(s.keep k).N=s.N:=by
 unfold St.keep;rw[hk];refine⟨⟨fun t=> ?_,⟨fun i b hb=> ?_,fun i j bi bj b o hij h1 h2 o1 o2=> ?_,h.heap.sl,h.heap.tab.1,fun i b bb oo hb ho=>by
   obtain⟨o,h1,rfl⟩:=HA hb;obtain⟨c1,e1,o1'⟩:=(JC hk h1 fun c hc=>h.heap.blk o c hc).2 bb oo ho;exact h.heap.tab.2 o c1 bb oo e1 o1'⟩,h.size,fun i hi=> ?_,h.def_,Nat.le_max_left _ _⟩,⟨hg.shut,hg.fr,fun i blk b o hb ho=> ?_,fun i p hi hp=> ?_,fun i hi=> ?_,fun i u y us hi hb=> ?_,fun i n u hi hu=>(by
   show (if i<s.np then g.cur i n else _)=_;rw[if_pos (by omega)];exact hg.cur i n u hi hu)⟩,hnp,rfl⟩
 ·rcases a9Z (m:=k.ids) (env:=s.env) k.slots t with e|e
  ·exact⟨by rw[show lk (OC s k true).env t=_ from e];trivial,by rw[show lk (OC s k true).env t=_ from e];trivial⟩
  ·have:=TO hk (h.env t);rw[show lk (OC s k true).env t=_ from e];exact this
 ·obtain⟨o,h1,rfl⟩:=HA hb;exact(JC hk h1 fun c hc=>h.heap.blk o c hc).1
 ·obtain⟨p,k1,rfl⟩:=HA h1;obtain⟨q,k2,rfl⟩:=HA h2;obtain⟨c1,e1,o1'⟩:=(JC hk k1 fun c hc=>h.heap.blk p c hc).2 b o o1;obtain⟨c2,e2,o2'⟩:=(JC hk k2 fun c hc=>h.heap.blk q c hc).2 b o o2;refine h.heap.dis p q c1 c2 b o (fun e=> ?_) e1 e2 o1' o2';subst e;have inj: ∀{m:List (Nat×Nat)},xE s.np m=true->∀{i j o:Nat},(i,o)∈m->(j,o)∈m->i=j:=by
   intro m
   induction m with
   |nil=>intro _ _ _ _ h;cases h
   |cons z m ih=>
    obtain⟨z1,z2⟩:=z;intro hk i j o h1 h2;simp only[xE,aRm,aRK] at hk;rcases aRv.1 h1 with h1|h1<;>rcases aRv.1 h2 with h2|h2
    ·cases h1;cases h2;rfl
    ·cases h1;exact absurd rfl (TN hk.1.2 _ _ h2).2
    ·cases h2;exact absurd rfl (TN hk.1.2 _ _ h1).2
    ·exact ih hk.2 h1 h2
  exact hij (inj hk k1 k2)
 ·have hi': ¬i<s.np:=by have:=aSe (Nat.le_max_left _ _) hi;omega
  have hold:yS k.ids i=none:=by
   cases ho:yS k.ids i with
   |none=>rfl
   |some o=>
    have:=a90 (ZH ho);have:=aSe (Nat.le_max_right _ _) hi;omega
  refine⟨?_,fun n=> ?_⟩
  ·show (if i<s.np then g.J i else(yS k.ids i).bind g.J)=none;rw[if_neg hi',hold];rfl
  ·show (if i<s.np then g.cur i n else(yS k.ids i).bind fun o=>g.cur o n)=none;rw[if_neg hi',hold];rfl
 ·obtain⟨p,h1,rfl⟩:=HA hb;obtain⟨c,e1,e2⟩:=(JC hk h1 fun c hc=>h.heap.blk p c hc).2 b o ho;exact hg.perm p c b o e1 e2
 ·show (if i<s.np then g.J i else _)=_;rw[if_pos (by omega)];exact hg.J i p hi hp
 ·rcases hg.live i hi with⟨p,hp⟩ |⟨n,v,hv⟩
  ·left;refine⟨p,?_⟩;show (if i<s.np then g.J i else _)=_;rw[if_pos (by omega)];exact hp
  ·right;refine⟨n,v,?_⟩;show (if i<s.np then g.cur i n else _)=_;rw[if_pos (by omega)];exact hv
 ·obtain⟨o,h1,h2⟩:=HA hb;have ho:=(ZF hk h1).2 (by omega);subst ho;unfold H5 at h2;split at h2
  ·rename_i t x toks heq;split at h2
   ·simp only[pQ.cells.injEq] at h2;obtain⟨rfl,_⟩:=h2;exact hg.ty o u x toks hi heq
   ·cases hy:yO k.ids t x with
    |none=>rw[hy] at h2;cases h2
    |some y=>
     rw[hy] at h2;simp only[Y5,pQ.cells.injEq] at h2;obtain⟨rfl,_⟩:=h2;exact hg.ty o u x toks hi heq
  ·cases h2
  ·split at h2<;>cases h2
  ·split at h2<;>cases h2
  ·cases h2
  ·cases h2
theorem FE {B:Nat}{A:Nat->Nat->Prop}{L:List pQ}{g0 g:Gh}{w0 w:World}{s:St}{a:Act}(h:uO B g w s a) (hg:sR A L g0 w0 g w s.H) (hnp:s.np=L.length) (k:vK):
  ∃g',uO B g' w (s.keep k) a/\sR A L g0 w0 g' w (s.keep k).H/\(s.keep k).np=L.length/\(s.keep k).N=s.N:=by
 unfold St.keep;cases hk:xE s.np k.ids with
 |false=>
  refine⟨g,⟨fun t=>⟨trivial,trivial⟩,⟨(fun i b h=>by cases h),(fun i j bi bj b o _ h=>by cases h),h.heap.sl,h.heap.tab.1,(fun i b bb oo h=>by cases h)⟩,h.size,h.nb,h.def_,h.np⟩,⟨hg.shut,hg.fr,(fun i blk b o h=>by cases h),hg.J,hg.live,(fun i u y us _ h=>by cases h),hg.cur⟩,hnp,rfl⟩
 |true=>
  have:=ZI h hg hnp k hk;unfold St.keep at this;rw[hk] at this;exact⟨_,this⟩
theorem ZJ {g g':Gh}{w w':World}{env:List (Nat×pR)}{a:Act}{o:Oper}{sl:pR}{v:Value}(h:AG g w env a.tmps) (le:Le g w g' w') (hs:qV g' w' sl v) {N:Nat}(hN:a.tmps.size=N) (hd:H0 N o.dst=true):AG g' w' (sX o.dst sl env) (a.put o.dst v).tmps:=by
  intro t;cases ho:o.dst with
  |none=>exact AC le (h t)
  | some d=>
    rw[ho] at hd;simp only[H0,aRk] at hd;simp only[sX,lk,Act.put];by_cases hdt:d=t
    · subst hdt
      rw[if_pos rfl];have hlt:d<a.tmps.size:=by rw[hN];exact hd
      have:(a.tmps.setIfInBounds d v).getD d undef=v:=by
        rw[aRQ,Array.getElem?_setIfInBounds_self_of_lt hlt];rfl
      rw[this];exact hs
    · rw[if_neg hdt]
      have:(a.tmps.setIfInBounds d v).getD t undef=a.tmps.getD t undef:=by
        rw[aRQ,aSK hdt,←aRQ]
      rw[this];exact AC le (h t)
theorem P1 {n:Nat}: ∀{u:List (Nat×pQ)},H4 n u=true→∀{i:Nat},i∈pU u→i<n
  | (k,b)::u,h,i,hi=>by
    simp only[H4,aRm,aRk] at h;simp only[pU,aRv] at hi;rcases hi with rfl|hi
    ·exact h.1
    ·exact P1 h.2 hi
theorem a91 (a:Act) (d:Option Tmp) (v:Value):(a.put d v).tmps.size=a.tmps.size:=by
  cases d<;>simp [Act.put]
theorem a92 (a:Act) (d:Option Tmp) (v:Value):(a.put d v).defers=a.defers:=by
  cases d<;>simp [Act.put]
theorem uO.step {B:Nat}{g g':Gh}{w w':World}{s:St}{a:Act}{o:Oper}{e:pY}{v:Value}(h:uO B g w s a) (k:zB g w s.H e g' w' v) (hd:H0 s.N o.dst=true) (hi:H4 (s.nb+32) e.upd=true):
    uO B g' w' ⟨sX o.dst e.slot s.env,qG e.upd s.H,s.nb+32,s.N,s.np⟩ (a.put o.dst v):=by
  refine⟨ZJ h.env k.le k.slot h.size hd,k.heap,(a91 _ _ _).trans h.size,fun i hn=> ?_,by rw[a92];exact h.def_.eff h.heap k,aSe h.np (Nat.le_add_right _ _)⟩;have:i∉pU e.upd:=fun hm=>by have:=P1 hi hm;simp only at hn;omega
  have hk:=k.gho i this;have hb:=h.nb i (by simp only at hn;omega);exact⟨hk.1.trans hb.1,fun n=>by rw[hk.2];exact hb.2 n⟩
theorem a93 {T:sG}{Γ:tW}{ops:List Oper}: ∀(l:List Oper),vV T Γ ops l none=none
  |[]=>rfl
  |_::_=>rfl
theorem ZK {T:sG}{Γ:tW}{ops:List Oper}{o:Oper}{l:List Oper}{x y:vU}(h:vV T Γ ops (o::l) (some x)=some y):
    ∃ e,DQ T Γ ops o x.s=some e∧H0 x.s.N o.dst=true∧H4 (x.s.nb+32) e.upd=true∧
      vV T Γ ops l (some ⟨⟨sX o.dst e.slot x.s.env,qG e.upd x.s.H,x.s.nb+32,x.s.N,x.s.np⟩,qG x.side (qG (J1 x.s.H e.upd e.rds e.upd) e.side),e::x.es⟩)=some y:=by
  simp only[vV] at h;cases he:DQ T Γ ops o x.s with
  |none=>rw[he] at h;simp only[Y4] at h;rw[a93] at h;cases h
  | some e=>
    rw[he] at h;simp only[Y4] at h;by_cases hc:(H0 x.s.N o.dst&&H4 (x.s.nb+32) e.upd)=true
    · rw[if_pos hc] at h
      simp only[aRm] at hc;exact⟨e,rfl,hc.1,hc.2,h⟩
    ·rw[if_neg hc,a93] at h;cases h
theorem JD {T:sG}{Γ:tW}{ops:List Oper}: ∀{l:List Oper}{x y:vU},vV T Γ ops l (some x)=some y→(∀p∈x.side,p∈y.side)∧y.s.N=x.s.N∧y.s.np=x.s.np
  | [],x,y,h=>by
    simp only[vV,aRg] at h;subst h;exact⟨fun _ h=>h,rfl,rfl⟩
  | o::l,x,y,h=>by
    obtain⟨e,_,_,_,h4⟩:=ZK h;obtain⟨h5,h6,h7⟩:=JD h4;exact⟨fun p hp=>h5 p (wJ.2 (.inl hp)),h6,h7⟩
def DX (ro:Option Nat):Fence:={Fence.wide with round:=ro}
theorem a94 {ro:Option Nat}{n:Nat}{P:Program}{f:FuncId}{args:Array Value}{w:World}{R:Ending→World→Prop}(h:Calls P f args w R):CallsIn (DX ro) n P f args w R:=callsIn_wide.2 h
section
variable {B:Nat}{P:Program}{T:sG}{Γ:tW}(hT:wY P T) (hΓ:CX P Γ) {A:Nat→Nat→Prop}{L:List pQ}{g0:Gh}{w0:World}{Q:Exit→Act→World→Prop}
include hT hΓ
theorem aI5 {g:Gh}{w:World}{s:St}{a:Act}(h:uO B g w s a) (e:pY):zC g s.nb e:=fun i _ hb=>h.nb i hb
omit hT hΓ in
theorem a95 {ops:List Oper}{o:Oper}{s:St}{e:pY}(h:DQ T Γ ops o s=some e): ∀c,o.op≠.defer c:=by
  intro c hc;replace h:=(OZ h).1;unfold LB at h;cases hg:o.guard with
  |none=>rw[hg,hc] at h;simp [LA,tX,L8] at h
  |some jb=>rw[hg,hc] at h;simp only at h;cases hG:F8 s.env jb.2 (CO ops jb.1)<;>rw[hG] at h<;>simp [L9,tX,GY] at h
omit hT hΓ in
theorem a96 {ro:Option Nat}{o:Oper}{a:Act}{w:World}{K:Act→World→Prop}(hd: ∀c,o.op≠.defer c) (h:o.wp P a w K Q):o.wpIn (DX ro) 0 P a w K Q:=by
  refine⟨fun _ _=>trivial,?_⟩;rw[Oper.semAt_eq _ _ _ hd];unfold Oper.wp at h;generalize (execOp a.eval o).run P w=r at h⊢;unfold Oper.upon at h;unfold Oper.uponIn;split at h
  ·exact h
  ·exact h
  ·exact h
  ·exact⟨fun h0=>(by cases h0),a94 h⟩
  ·exact⟨fun h0=>(by cases h0),fun c cs _=>let ⟨v,w',r,s⟩:=h c cs;⟨v,w',r,stepsIn_wide.2 s⟩⟩
  ·exact h
  ·exact h.elim
theorem a97 {ro:Option Nat}{ops:Array Oper}: ∀{l:List Oper}{x y:vU}{a:Act}{w:World}{g:Gh},vV T Γ ops.toList l (some x)=some y→(∀p∈y.side,p)→uO B g w x.s a→sR A L g0 w0 g w x.s.H→L.length=x.s.np→
    (∀g' a' w',uO B g' w' y.s a'→sR A L g0 w0 g' w' y.s.H→Q .normal a' w')→wpListIn (DX ro) 0 P ops Q l a w
  | [],x,y,a,w,g,h,hs,hr,hg,hn,hQ=>by
    simp only[vV,aRg] at h;subst h;exact hQ g a w hr hg
  | o::l,x,y,a,w,g,h,hs,hr,hg,hn,hQ=>by
    obtain⟨e,h1,h2,h3,h4⟩:=ZK h;have hside: ∀p∈e.side,p:=fun p hp=>hs p ((JD h4).1 p (wJ.2 (.inr (wJ.2 (.inr hp)))));have key:=a9X hT hΓ (ops:=ops.toList) (o:=o) (a:=a) (K:=wpListIn (DX ro) 0 P ops Q l) (Q:=Q) hr.env hr.heap h1 hside (aI5 hT hΓ hr e) (fun g' w' v k=>a97 h4 hs (hr.step k h2 h3) (hg.eff k (hn▸(OZ h1).2)) hn hQ);simp only[aSQ] at key;unfold wpListIn;split at key
    ·rename_i hw;rw[if_pos hw];exact a96 (a95 h1) key
    ·rename_i hw;rw[if_neg hw];exact⟨fun _ _=>trivial,key⟩
theorem aI6 {ro:Option Nat}{id:Nat}{ops:Array Oper}{s:St}{y:vU}{a:Act}{w:World}{g:Gh}(h:vV T Γ ops.toList ops.toList (some ⟨s,[],[]⟩)=some y) (hs: ∀p∈y.side,p) (hr:uO B g w s a) (hg:sR A L g0 w0 g w s.H) (hn:L.length=s.np)
    (hQ: ∀g' a' w',uO B g' w' y.s a'→sR A L g0 w0 g' w' y.s.H→Q .normal a' w'):(Code.region id ops false).wpIn (DX ro) 0 P Q a w:=
  wpIn_region_list (a97 hT hΓ h hs hr hg hn hQ)
end
theorem aI7 {H H':List (Nat×pQ)}{t:Ty}{i off:Nat}{e:pY}(h:GX H t i off (pT H i)=some e) (hl: ∀id∈e.rds,pT H' id=pT H id):i∈e.rds∧GX H' t i off (pT H' i)=some e:=by
  have key: ∃k n v x ts,pT H i=some (.cells v x ts)∧AB v x=some (k,n)∧RX t i off k n v x (pT H k)=some e∧e.rds=[1000000000,i,k]:=by
    unfold GX at h;split at h
    case h_2=>cases h
    rename_i v x ts hb;cases hf:AB v x with
    |none=>rw[hf] at h;cases h
    | some q=>
      obtain⟨k,n⟩:=q;rw[hf] at h;refine⟨k,n,v,x,ts,hb,hf,h,?_⟩;simp only[RY] at h;unfold RX at h;split at h
      case h_2=>cases h
      generalize yM _ _ _ _=z at h;cases z with
      |none=>cases h
      | some z=>
        obtain⟨v',x'⟩:=z;simp only[XJ] at h;unfold XI at h;split at h
        ·simp only[aRg] at h;rw[←h]
        ·cases h
  obtain⟨k,n,v,x,ts,h1,h2,h3,h4⟩:=key;refine⟨by rw[h4];simp,?_⟩;rw[hl i (by rw[h4];simp),h1];simp only[GX,h2,RY];rw[hl k (by rw[h4];simp)];exact h3
theorem ZL {ρ ρ':Operand→pR}: ∀{xs:List Operand},(∀x∈xs,ρ' x=ρ x)→v6 ρ' xs=v6 ρ xs
  |[],_=>rfl
  |x::xs,h=>by simp only[v6,h x (by simp),ZL (fun y hy=>h y (aRt _ hy))]
theorem ZM {ρ ρ':Operand→pR}: ∀{xs:List (Nat×Operand)},(∀x∈xs,ρ' x.2=ρ x.2)→tZ ρ' xs=tZ ρ xs
  |[],_=>rfl
  |(i,x)::xs,h=>by simp only[tZ,h (i,x) (by simp),ZM (fun y hy=>h y (aRt _ hy))]
theorem a98 {T:sG}{ρ ρ':Operand→pR}: ∀{xs:List Operand}{ts:List TypeId},(∀x∈xs,ρ' x=ρ x)→F6 T ρ' xs ts=F6 T ρ xs ts
  |[],_,_=>by simp [F6]
  |_::_,[],_=>by simp [F6]
  |x::xs,t::ts,h=>by simp only[F6,h x (by simp),a98 (fun y hy=>h y (aRt _ hy))]
theorem aI8 {T:sG}{Γ:tW}{ty:TypeId}{ρ ρ':Operand→pR}{base:Nat}{H:List (Nat×pQ)}(op:Op) (h: ∀x∈op.operands,ρ' x=ρ x):tX T Γ ty ρ' base H op=tX T Γ ty ρ base H op:=by
  cases op
  case slice t x lo hi mx=>
    cases mx with
    |some m=>rfl
    | none=>
      have h1:=h x (by simp [Op.operands])
      have h2:yN ρ' lo=yN ρ lo:=by
        cases lo with
        |none=>rfl
        |some l=>simp only[yN,h l (by simp [Op.operands])]
      have h3:yN ρ' hi=yN ρ hi:=by
        cases hi with
        |none=>rfl
        |some l=>simp only[yN,h l (by simp [Op.operands])]
      simp only[tX,h1,h2,h3]
  case call c=>
    obtain⟨callee,args,tys⟩:=c
    have ha: ∀x∈args.toList,ρ' x=ρ x:=fun x hx=>h x (by
      have:x∈args:=by simpa using hx
      simp only[Op.operands,Call.operands];split<;>simp [this])
    cases callee with
    |builtin b=>cases b<;>simp only[tX,J0,ZL ha]
    | value f=>
      have hf:=h f (by simp [Op.operands,Call.operands]);simp only[tX,J0,hf];cases IZ args.toList tys.toList with
      |false=>rfl
      |true=>simp only[XX,a98 ha]
    |_=>rfl
  case build t ps=>simp only[tX,ZM (fun x hx=>h x.2 (by simp only[Op.operands,aTh];exact List.mem_map_of_mem hx))]
  case buildSlice t n ps=>simp only[tX,ZM (fun x hx=>h x.2 (by simp only[Op.operands,aTh];exact List.mem_map_of_mem hx))]
  case makeFunc f first caps=>
    cases f with
    | func f=>
      have hc: ∀x∈caps.toList,ρ' x=ρ x:=fun x hx=>h x (by
        have:x∈caps:=by simpa using hx
        simp [Op.operands,this])
      simp only[tX,ZL hc]
    |_=>rfl
  all_goals first
    |rfl
    |(simp only[Op.operands,aTh,aRv,aTg,or_false,forall_eq,forall_eq_or_imp] at h;simp only[tX,h])
    |(simp [Op.operands] at h;simp only[tX,h])
theorem ZN: ∀{l acc:List qR}{i:Nat},i∈rW (yJ l acc)↔i∈rW l∨i∈rW acc
  |[],_,_=>by simp [yJ,rW]
  | w::l,acc,i=>by
    simp only[yJ,ZN,rW,aRv];constructor
    · rintro(h|h|h)
      ·exact .inl (.inr h)
      ·exact .inl (.inl h)
      ·exact .inr h
    · rintro((h|h) |h)
      ·exact .inr (.inl h)
      ·exact .inl h
      ·exact .inr (.inr h)
section
variable {H H':List (Nat×pQ)}
theorem aI9 {k:Option Nat}{a b:sM}(h:yK H k (some a)=some b):(∀i,i∈rW a.ws→i∈rW b.ws)∧((∀i,i∈rW b.ws→pT H' i=pT H i)→yK H' k (some a)=some b):=by
  cases k with
  | none=>
    have h:none=some b:=h;cases h
  | some k=>
    simp only[yK] at h⊢
    have:(∃e c m,pT H k=some (.grow e c m)):=by
      cases hg:pT H k with
      |none=>rw[hg] at h;cases h
      | some bl=>cases bl with
        |grow e c m=>exact⟨_,_,_,rfl⟩
        |_=>rw[hg] at h;cases h
    obtain⟨e,c,m,hg⟩:=this;rw[hg] at h;simp only[B5] at h;split at h
    ·cases h
    · rename_i hm
      simp only[aRg] at h;subst h;refine⟨fun i hi=>by simp only[rW,aRv];exact .inr hi,fun hl=> ?_⟩;rw[hl k (by simp [rW,qR.id]),hg];simp only[B5];rw[if_neg hm]
theorem aJa (H:List (Nat×pQ)) (k:Option Nat):yK H k none=none:=by
  cases k with
  |none=>rfl
  | some k=>
    simp only[yK];cases pT H k with
    |none=>rfl
    |some bl=>cases bl<;>rfl
theorem a99 (H:List (Nat×pQ)) (toks:List (Nat×Nat)) (o:Nat): ∀(qs:List Nat),xW H toks o qs none=none
  |[]=>rfl
  |q::qs=>by simp only[xW,aJa,a99 H toks o qs]
theorem aAa {H H':List (Nat×pQ)}{toks:List (Nat×Nat)}{o:Nat}: ∀{qs:List Nat}{a b:sM},xW H toks o qs (some a)=some b→(∀i,i∈rW a.ws→i∈rW b.ws)∧((∀i,i∈rW b.ws→pT H' i=pT H i)→xW H' toks o qs (some a)=some b)
  |[],a,b,h=>by simp only[xW,aRg] at h;subst h;exact⟨fun _ h=>h,fun _=>rfl⟩
  | q::qs,a,b,h=>by
    simp only[xW] at h⊢;cases hm:yK H (wV toks (o+q)) (some a) with
    |none=>rw[hm,a99] at h;cases h
    | some m=>
      rw[hm] at h;obtain⟨h1,h2⟩:=aI9 (H':=H') hm;obtain⟨h3,h4⟩:=aAa (H':=H') h;exact⟨fun i hi=>h3 i (h1 i hi),fun hl=>by rw[h2 (fun i hi=>hl i (h3 i hi))];exact h4 hl⟩
theorem aJb (H H':List (Nat×pQ)) (a:sM) (s:pR):xJ H' a .v s=xJ H a .v s:=by
  obtain⟨d,k⟩:=s;cases d with
  | val t x=>
    cases t with
    | clo=>
      cases x with
      |none=>rfl
      |some q=>obtain⟨f,l⟩:=q;cases l<;>rfl
    |_=>rfl
  |_=>rfl
theorem aAb {H H':List (Nat×pQ)}{t:Ty}{os:List Nat}{i o:Nat}{a b:sM}(h:vG H t os i o a (pT H i)=some b):(∀i,i∈rW a.ws→i∈rW b.ws)∧((∀i,i∈rW b.ws→pT H' i=pT H i)→vG H' t os i o a (pT H' i)=some b):=by
  cases hg:pT H i with
  |none=>rw[hg] at h;simp [vG] at h
  | some bl=>
    rw[hg] at h;cases bl with
    | cells u x toks=>
      simp only[vG] at h;cases hy:qO t u x o with
      |none=>rw[hy] at h;simp [DK] at h
      | some y=>
        rw[hy] at h;simp only[DK] at h;split at h
        · rename_i hc
          obtain⟨h3,h4⟩:=aAa (H':=H') h;refine⟨fun j hj=>h3 j (by simp only[rW,aRv];exact .inr hj),fun hl=> ?_⟩;rw[hl i (h3 i (by simp [rW,qR.id])),hg];simp only[vG,hy,DK];rw[if_pos hc];exact h4 hl
        ·cases h
    |_=>simp [vG] at h
theorem aJc (H:List (Nat×pQ)) (f:FuncId) (args:List pR) (ks:List (Ty×List Nat)) (cs ids:List (Nat×Nat)):xA H f args ks cs ids none=none:=by cases ks<;>cases cs<;>rfl
theorem aAc {H H':List (Nat×pQ)}{f:FuncId}{args:List pR}: ∀{ks:List (Ty×List Nat)}{cs ids:List (Nat×Nat)}{a b:sM},xA H f args ks cs ids (some a)=some b→(∀i,i∈rW a.ws→i∈rW b.ws)∧((∀i,i∈rW b.ws→pT H' i=pT H i)→xA H' f args ks cs ids (some a)=some b)
  | [],[],ids,a,b,h=>by
    simp only[xA,aRg] at h⊢;subst h;exact⟨fun _ h=>h,fun _=>rfl⟩
  |[],_::_,_,_,_,h=>by simp [xA] at h
  |_::_,[],_,_,_,h=>by simp [xA] at h
  | (t,os)::ks,(i,o)::cs,ids,a,b,h=>by
    simp only[xA] at h⊢;cases hb:vG H t os i o a (pT H i) with
    |none=>rw[hb,aJc] at h;cases h
    | some m=>
      rw[hb] at h;obtain⟨h1,h2⟩:=aAb (H':=H') hb;obtain⟨h3,h4⟩:=aAc (H':=H') h;exact⟨fun i hi=>h3 i (h1 i hi),fun hl=>by rw[h2 (fun i hi=>hl i (h3 i hi))];exact h4 hl⟩
theorem aAd {p:PK}{s:pR}{a b:sM}(h:xJ H a p s=some b):(∀i,i∈rW a.ws→i∈rW b.ws)∧((∀i,i∈rW b.ws→pT H' i=pT H i)→xJ H' a p s=some b):=by
  by_cases hpv:p= .v
  · subst hpv
    refine⟨?_,fun _=>by rw[aJb H H'];exact h⟩;unfold xJ at h;split at h
    ·simp only[RI,aRg] at h;subst h;exact fun _ h=>h
    · simp only[RH] at h
      split at h
      ·simp only[aRg] at h;subst h;exact fun _ h=>h
      ·cases h
    ·rename_i h1;cases h1
    ·rename_i h1;cases h1
    ·rename_i h1;cases h1
    ·rename_i h1;cases h1
    ·rename_i h1;cases h1
    ·cases h
  unfold xJ at h;split at h
  ·exact absurd rfl hpv
  ·exact absurd rfl hpv
  · rename_i t x k
    simp only[xJ];cases hg:pT H k with
    |none=>rw[hg] at h;simp [B6] at h
    | some bl=>
      rw[hg] at h;cases bl with
      | grow e c m=>
        simp only[B6] at h;split at h
        · rename_i hc
          simp only[aRg] at h;subst h;refine⟨fun i hi=>by simp only[rW,aRv];exact .inr hi,fun hl=> ?_⟩;rw[hl k (by simp [rW,qR.id]),hg];simp only[B6];rw[if_pos hc]
        ·cases h
      |_=>simp [B6] at h
  · rename_i t os i o k
    simp only[xJ];exact aAb h
  · rename_i i k
    simp only[xJ];cases hg:pT H i with
    |none=>rw[hg] at h;simp [B7] at h
    | some bl=>
      rw[hg] at h;cases bl with
      | map s t l=>
        simp only[B7] at h;split at h
        · rename_i hc
          simp only[aRg] at h;subst h;refine⟨fun j hj=>by simp only[rW,aRv];exact .inr hj,fun hl=> ?_⟩;rw[hl i (by simp [rW,qR.id]),hg];simp only[B7];rw[if_pos hc]
        ·cases h
      |_=>simp [B7] at h
  · rename_i k n k'
    simp only[xJ];cases hg:pT H k with
    |none=>rw[hg] at h;simp [B8] at h
    | some bl=>
      rw[hg] at h;cases bl with
      | row e t l m=>
        simp only[B8] at h;split at h
        · rename_i hc
          simp only[aRg] at h;subst h;refine⟨fun j hj=>by simp only[rW,aRv];exact .inr hj,fun hl=> ?_⟩;rw[hl k (by simp [rW,qR.id]),hg];simp only[B8];rw[if_pos hc]
        ·cases h
      |_=>simp [B8] at h
  · simp only[xJ]
    exact aAc h
  ·cases h
theorem aAe (H:List (Nat×pQ)) (gs:List (Nat×Nat×PK)):A8 H gs none=none:=by cases gs<;>rfl
theorem aAf {H H':List (Nat×pQ)}: ∀{gs:List (Nat×Nat×PK)}{a b:sM},A8 H gs (some a)=some b→(∀i,i∈rW a.ws→i∈rW b.ws)∧((∀i,i∈rW b.ws→pT H' i=pT H i)→A8 H' gs (some a)=some b)
  |[],a,b,h=>by simp only[A8,aRg] at h;subst h;exact⟨fun _ h=>h,fun _=>rfl⟩
  | (c,q,pk)::gs,a,b,h=>by
    simp only[A8] at h⊢;cases hm:xJ H a pk (IP q pk (GT a.H (a.n-1-c))) with
    |none=>rw[hm] at h;simp only[KX,aAe] at h;cases h
    | some m=>
      rw[hm] at h;simp only[KX] at h;obtain⟨h1,h2⟩:=aAd (H':=H') hm;obtain⟨h3,h4⟩:=aAf (H':=H') h;exact⟨fun i hi=>h3 i (h1 i hi),fun hl=>by rw[h2 (fun i hi=>hl i (h3 i hi))];simp only[KX];exact h4 hl⟩
theorem aJd (H:List (Nat×pQ)): ∀(ps:List PK) (ss:List pR),xB H ps ss none=none
  |[],[]=>rfl
  |[],_::_=>rfl
  |_::_,[]=>rfl
  |_::_,_::_=>rfl
theorem aAg {H H':List (Nat×pQ)}: ∀{ps:List PK}{ss:List pR}{a b:sM},xB H ps ss (some a)=some b→(∀i,i∈rW a.ws→i∈rW b.ws)∧((∀i,i∈rW b.ws→pT H' i=pT H i)→xB H' ps ss (some a)=some b)
  |[],[],a,b,h=>by simp only[xB,aRg] at h;subst h;exact⟨fun _ h=>h,fun _=>rfl⟩
  |[],_::_,a,b,h=>by simp [xB] at h
  |_::_,[],a,b,h=>by simp [xB] at h
  | p::ps,s::ss,a,b,h=>by
    simp only[xB] at h⊢;cases hm:xJ H a p s with
    |none=>rw[hm,aJd] at h;cases h
    | some m=>
      rw[hm] at h;obtain⟨h1,h2⟩:=aAd (H':=H') hm;obtain⟨h3,h4⟩:=aAg (H':=H') h;exact⟨fun i hi=>h3 i (h1 i hi),fun hl=>by rw[h2 (fun i hi=>hl i (h3 i hi))];exact h4 hl⟩
theorem aAh {H H':List (Nat×pQ)}{base:Nat}{args:List pR}{s:qS}{e:pY}(h:F4 H base args (some s)=some e) (hl: ∀i∈e.rds,pT H' i=pT H i):F4 H' base args (some s)=some e:=by
  simp only[F4] at h⊢;cases hp0:xB H s.ps args (some ⟨[],[],[],0⟩) with
  |none=>rw[hp0,aAe] at h;cases h
  |some a0=>
   rw[hp0] at h;cases hp:A8 H s.gs (some a0) with
   |none=>rw[hp] at h;cases h
   |some a=>
    rw[hp] at h
    have hrd: ∀i,i∈rW (yJ a.ws [])→i∈e.rds:=by
      simp only[NZ] at h;cases hcl:GU (yJ a.ws []) (yJ a.H []) with
      |none=>rw[hcl] at h;cases h
      |some L=>
      rw[hcl] at h;simp only[RO] at h;cases hc:s.C (yJ a.args []) L with
      |none=>rw[hc] at h;cases h
      | some r=>
        rw[hc] at h;simp only[RN] at h;unfold NX at h;split at h
        · simp only[aRg] at h
          rw[←h];exact fun i hi=>wJ.2 (.inl hi)
        ·cases h
    obtain⟨g1,g2⟩:=aAf (H':=H') hp;rw[(aAg (H':=H') hp0).2 (fun i hi=>hl i (hrd i (ZN.2 (.inl (g1 i hi))))),g2 (fun i hi=>hl i (hrd i (ZN.2 (.inl hi))))];exact h
theorem aAi {H H':List (Nat×pQ)}{base:Nat}{args:List pR}{s:Option qS}{e:pY}(h:IY H base args s=some e) (hl: ∀i∈e.rds,pT H' i=pT H i):IY H' base args s=some e:=by
  cases s with
  |none=>cases h
  | some s=>
    simp only[IY] at h⊢;cases hr:s.row with
    | some F=>
      rw[hr] at h;simp only[SE] at h⊢;unfold RQ at h⊢;split at h
      · rename_i k n x
        cases hg:pT H k with
        |none=>rw[hg] at h;cases h
        | some b=>
          have hk:k∈e.rds:=by
            rw[hg] at h;cases b with
            | row e0 t l m=>
              simp only[X4] at h;unfold a8c at h;split at h
              ·simp only[aRg] at h;rw[←h];simp
              ·cases h
            |_=>cases h
          rw[hl k hk];exact h
      ·cases h
    | none=>
      rw[hr] at h;simp only[SE] at h⊢;cases hn:O0 s.ps args with
      |none=>rw[hn] at h;exact aAh h hl
      | some k=>
        rw[hn] at h;simp only[a8b] at h⊢;cases hg:pT H k with
        |none=>rw[hg] at h;cases h
        | some b=>
          rw[hg] at h;cases b with
          | row e0 t l m=>
            simp only[O2] at h;cases hi:F4 ((k,.dead)::H) base (O1 k t l args) (some s) with
            |none=>rw[hi] at h;cases h
            | some e1=>
              rw[hi] at h
              have hk:k∈e.rds∧∀i∈e1.rds,i∈e.rds:=by
                unfold X3 at h;split at h
                · rename_i heq
                  simp only[aRg] at heq;subst heq;split at h
                  · simp only[aRg] at h
                    rw[←h];exact⟨by simp,fun i hi=>aRt _ hi⟩
                  ·cases h
                ·cases h
              rw[hl k hk.1,hg];simp only[O2]
              rw[aAh hi (fun i hi'=>by
                simp only[pT];split
                ·rfl
                ·exact hl i (hk.2 i hi'))]
              exact h
          |_=>cases h
theorem aJe {Γ:tW}{base:Nat}{args:List pR}{f:pR}{e:pY}(h:L5 Γ H base args f=some e) (hl: ∀i∈e.rds,pT H' i=pT H i):L5 Γ H' base args f=some e:=by
  unfold L5 at h⊢;split at h
  ·exact aAi h hl
  ·exact aAi h hl
  ·cases h
theorem aJf {T:sG}{Γ:tW}{ty:TypeId}{ρ:Operand→pR}{base:Nat}{op:Op}{e:pY}(h:tX T Γ ty ρ base H op=some e) (hl: ∀i∈e.rds,pT H' i=pT H i):tX T Γ ty ρ base H' op=some e:=by
  cases op
  case load t x=>
    simp only[tX] at h⊢;unfold RZ at h⊢;split at h
    · rename_i ti k n c i o' _ e1 e2
      unfold O5 at h;split at h
      · rename_i e' t' l m hg
        split at h
        · rename_i hc
          have:e.rds=[k]:=by
            unfold a8i at h;split at h
            ·simp only[aRg] at h;rw[←h]
            ·cases h
          rw[hl k (by rw[this];simp),hg];simp only[O5];rw[if_pos hc];exact h
        ·cases h
      ·cases h
    ·exact h
    · rename_i ti i off k e1 e2
      rcases a8Y h with h1|⟨h0,h1⟩
      · have hi:i∈e.rds:=by
          rcases a8X h1 with h|h
          · unfold O4 at h
            split at h
            · unfold a8h at h;split at h
              ·simp only[aRg] at h;rw[←h];simp
              ·cases h
            ·cases h
          · unfold RW at h
            split at h
            · unfold XE at h;split at h
              ·simp only[aRg] at h;rw[←h];simp
              ·cases h
            ·cases h
        rw[hl i hi,h1];rfl
      · obtain⟨hi,h2⟩:=aI7 h1 hl
        rw[hl i hi,h0];rw[hl i hi] at h2;exact h2
    ·cases h
  case store t x y=>
    simp only[tX] at h⊢;unfold S5 at h⊢;split at h
    · rename_i ti i off k kk n k' e1 e2 e3
      have hi:i∈e.rds:=by
        unfold XN at h;split at h
        · rcases a9d h with h|h
          · unfold S0 at h;split at h
            ·simp only[aRg] at h;rw[←h];simp
            ·cases h
          · unfold XM at h;split at h
            ·simp only[aRg] at h;rw[←h];simp
            ·cases h
        ·cases h
      rw[hl i hi];exact h
    · rename_i ti k n c i o' _ t y k' e1 e2 e3
      split at h
      · rename_i ht
        rw[if_pos ht];unfold S4 at h;split at h
        · rename_i e' t' l m hg
          split at h
          · rename_i hc
            have:e.rds=[k]:=by
              unfold a8l at h;split at h
              ·simp only[aRg] at h;rw[←h]
              ·cases h
            rw[hl k (by rw[this];simp),hg];simp only[S4];rw[if_pos hc];exact h
          ·cases h
        ·cases h
      ·cases h
    · rename_i ti i off k t y k' e1 e2 e3
      split at h
      · rename_i ht
        have hi:e.rds=[i]:=by
          unfold S3 at h;split at h
          · unfold S2 at h
            split at h
            · unfold a8k at h;split at h
              ·simp only[aRg] at h;rw[←h]
              ·cases h
            ·cases h
          · unfold S1 at h
            split at h
            · unfold S0 at h;split at h
              ·simp only[aRg] at h;rw[←h]
              ·cases h
            ·cases h
        rw[hl i (by rw[hi];simp)];simp only[if_pos ht];exact h
      ·cases h
    ·cases h
  case call c=>
    obtain⟨callee,args,tys⟩:=c;cases callee with
    | builtin b=>
      cases b
      case append=>
        simp only[tX,J0] at h⊢;unfold SH at h⊢;split at h
        · split at h
          · rename_i hu
            rw[if_pos hu];unfold SC at h⊢;split at h
            · split at h
              · rename_i hbu
                rw[if_pos hbu];unfold SB at h;split at h
                · rename_i hg
                  split at h
                  · rename_i hbt
                    split at h
                    · rename_i hc
                      simp only[aRg] at h;subst h;rw[hl _ (aRB),hg];simp only[SB];rw[aTt hbt,if_pos hc]
                    ·cases h
                  ·cases h
                ·cases h
              ·cases h
            · split at h
              · rename_i hba
                rw[aTt hba];unfold SA at h;split at h
                · rename_i hg
                  split at h
                  · rename_i hc
                    simp only[aRg] at h;subst h;rw[hl _ (aRB),hg];simp only[SA];rw[if_pos hc]
                  ·cases h
                ·cases h
              ·cases h
            ·cases h
          · rename_i hu
            rw[if_neg hu];unfold XW at h⊢;split at h
            · unfold SG at h
              split at h
              · rename_i hg
                split at h
                · rename_i hc
                  simp only[aRg] at h;subst h;rw[hl _ (aRB),hg];simp only[SG];rw[if_pos hc]
                ·cases h
              ·cases h
            ·cases h
        ·cases h
      case len=>
        simp only[tX,J0] at h⊢;unfold SF at h⊢;split at h
        · unfold XU at h⊢
          split at h
          · unfold S9 at h
            split at h
            · rename_i hg
              simp only[aRg] at h;subst h;rw[hl _ (aRB),hg];simp only[S9]
            ·cases h
          all_goals exact h
        ·cases h
      all_goals exact h
    | value f=>
      simp only[tX,J0] at h⊢;cases hsl:IZ args.toList tys.toList with
      |false=>rw[hsl] at h;cases h
      |true=>rw[hsl] at h;exact aJe h hl
    |_=>exact h
  case makeFunc f first caps=>
    cases f with
    |func f=>exact h
    |_=>exact h
  case slice t x lo hi mx=>
    cases mx with
    |none=>exact h
    |some m=>exact h
  case next x b=>
    simp only[tX] at h⊢;unfold SN at h⊢;split at h
    · rename_i i k e1
      unfold Y2 at h;split at h
      · rename_i hg
        have:e.rds=[i]:=by
          simp only[aRg] at h;rw[←h]
        rw[hl i (by rw[this];simp),hg];exact h
      ·cases h
    ·cases h
  case lookup xt x ix ok=>
    simp only[tX] at h⊢;unfold SK at h⊢;split at h
    · rename_i el fl ar ls_ i kk e1 e2
      unfold XZ at h⊢;split at h
      · rename_i kt vt k a _
        split at h
        · rename_i hk
          rw[if_pos hk];unfold SJ at h;split at h
          · rename_i hg
            split at h
            · rename_i hkv
              split at h
              · rename_i hkey
                have:e.rds=[i]:=by
                  cases ok<;>(simp only[aRg] at h;rw[←h])
                rw[hl i (by rw[this];simp),hg];simp only[SJ];rw[aTt hkv,if_pos hkey];exact h
              ·cases h
            ·cases h
          ·cases h
        ·cases h
      ·cases h
    ·cases h
  case mapUpdate mt m x y=>
    simp only[tX] at h⊢;unfold L7 at h⊢;split at h
    · rename_i el fl ar ls_ i kk e1 e2
      unfold SL at h⊢;split at h
      · rename_i kt k a _ u b _
        split at h
        · rename_i hk
          rw[if_pos hk];unfold L6 at h;split at h
          · rename_i hg
            split at h
            · rename_i hkv
              split at h
              · rename_i hkey
                have:e.rds=[i]:=by
                  simp only[aRg] at h;rw[←h]
                rw[hl i (by rw[this];simp),hg];simp only[L6];rw[aTt hkv,if_pos hkey];exact h
              ·cases h
            ·cases h
          ·cases h
        ·cases h
      ·cases h
    ·cases h
  case insert mt m x y=>
    simp only[tX] at h⊢;unfold L7 at h⊢;split at h
    · rename_i el fl ar ls_ i kk e1 e2
      unfold SL at h⊢;split at h
      · rename_i kt k a _ u b _
        split at h
        · rename_i hk
          rw[if_pos hk];unfold L6 at h;split at h
          · rename_i hg
            split at h
            · rename_i hkv
              split at h
              · rename_i hkey
                have:e.rds=[i]:=by
                  simp only[aRg] at h;rw[←h]
                rw[hl i (by rw[this];simp),hg];simp only[L6];rw[aTt hkv,if_pos hkey];exact h
              ·cases h
            ·cases h
          ·cases h
        ·cases h
      ·cases h
    ·cases h
  all_goals exact h
end
theorem aJg {T:sG}{Γ:tW}{ops:Array Oper}{o:Oper}{s s':St}{e:pY}(h:LB T Γ ops.toList o s=some e) (ht: ∀t∈o.looksAt ops,lk s'.env t=lk s.env t) (hH: ∀i∈e.rds,pT s'.H i=pT s.H i) (hn:s'.nb=s.nb):LB T Γ ops.toList o s'=some e:=by
 have hop: ∀x∈o.op.operands,tH s'.env x=tH s.env x:=fun x hx=>by
  cases x with
  |tmp t=>exact ht t (by simp only[Oper.looksAt,aRO,List.mem_filterMap];exact .inl ⟨.tmp t,by simpa using hx,rfl⟩)
  |_=>rfl
 have hops:BB s'.env (s8 o.op)=BB s.env (s8 o.op):=by
  have hsub: ∀x∈s8 o.op,x∈o.op.operands:=by
   have hp: ∀(l:List (Nat×Operand)) x,x∈s8.parts l->x∈l.map (·.2):=by
    intro l
    induction l with
    |nil=>intro x h;exact h
    |cons q l ih=>
     intro x h;obtain⟨i,y⟩:=q;simp only[s8.parts,aRv] at h;rcases h with rfl|h
     ·simp
     ·simp only[aR2,aRv];exact .inr (ih x h)
   have ho: ∀(y:Option Operand) x,x∈s8.opt y->y=some x:=by
    intro y x h;cases y with
    |none=>cases h
    |some y=>simp only[s8.opt,aRr] at h;rw[h]
   intro x hx;cases hop:o.op
   case call c=>
    rw[hop] at hx;obtain⟨callee,args,tys⟩:=c;cases callee<;>simp_all [s8,Op.operands,Call.operands]
   case slice t y lo hi mx=>
    rw[hop] at hx;simp only[s8,aRv,wJ] at hx;simp only[Op.operands,Array.mem_append];rcases hx with rfl|hx|hx
    ·simp
    ·have:=ho _ _ hx;subst this;simp
    ·have:=ho _ _ hx;subst this;simp
   case build t ps=>rw[hop] at hx;simp only[Op.operands,aTh];exact hp _ _ hx
   case buildSlice t n ps=>rw[hop] at hx;simp only[Op.operands,aTh];exact hp _ _ hx
   all_goals (rw[hop] at hx;simp_all [s8,Op.operands])
  have: ∀(l:List Operand),(∀x∈l,x∈o.op.operands)->BB s'.env l=BB s.env l:=by
   intro l
   induction l with
   |nil=>intro _;rfl
   |cons x l ih=>intro h;simp only[BB,hop x (h x (by simp)),ih (fun y hy=>h y (aRt _ hy))]
  exact this _ hsub
 have hpl: ∀{e0:pY},tX T Γ o.type (fun x=>xD (tH s.env x)) s.nb s.H o.op=some e0->e0.rds=e.rds->tX T Γ o.type (fun x=>xD (tH s'.env x)) s'.nb s'.H o.op=some e0:=by
  intro e0 h1 h2;rw[aI8 (ρ:=fun x=>xD (tH s.env x)) (ρ':=fun x=>xD (tH s'.env x)) o.op (fun x hx=>by simp only[hop x hx]),hn];exact aJf h1 (by rw[h2];exact hH)
 unfold LB at h⊢;cases hg:o.guard with
 |none=>
  rw[hg] at h;simp only at h⊢;by_cases hpk: ∃c x y,o.op= .pick c x y
  ·obtain⟨c,x,y,hp⟩:=hpk;rw[hp] at h⊢;simp only[LA] at h⊢;rw[hop c (by rw[hp];simp [Op.operands]),hop x (by rw[hp];simp [Op.operands]),hop y (by rw[hp];simp [Op.operands])];exact h
  ·have e1: ∀s,LA T Γ o s o.op=L8 (y7 true (BB s.env (s8 o.op))) (tX T Γ o.type (fun x=>xD (tH s.env x)) s.nb s.H o.op):=by
    intro s;cases ho:o.op<;>first|rfl|(exact absurd ⟨_,_,_,ho⟩ hpk)
   rw[e1] at h⊢;rw[hops];cases hp0:tX T Γ o.type (fun x=>xD (tH s.env x)) s.nb s.H o.op with
   |none=>rw[hp0] at h;cases h
   |some e0=>
    rw[hp0] at h;simp only[L8,aRg] at h;rw[hpl hp0 (by rw[<-h])];simp only[L8,h]
 |some jb=>
  obtain⟨j,b⟩:=jb;rw[hg] at h;simp only at h⊢;have hgu:F8 s'.env b (CO ops.toList j)=F8 s.env b (CO ops.toList j):=by
   rw[ZD];cases hd:(ops.toList[j]?).bind (·.dst) with
   |none=>rfl
   |some t=>
    simp only[F8];rw[ht t (by
     simp only[Oper.looksAt,hg,aRO];right;have:(ops[j]?).bind (·.dst)=some t:=by simpa using hd
     rw[this];simp)]
  rw[hgu];cases hG:F8 s.env b (CO ops.toList j) with
  |none=>rw[hG] at h;cases h
  |some G=>
   rw[hG] at h;by_cases hpk: ∃c x y,o.op= .pick c x y
   ·obtain⟨c,x,y,hp⟩:=hpk;rw[hp] at h⊢;simp only[L9] at h⊢;rw[hop c (by rw[hp];simp [Op.operands]),hop x (by rw[hp];simp [Op.operands]),hop y (by rw[hp];simp [Op.operands])];exact h
   have e1: ∀s,L9 T Γ o s (some G) o.op=GY G (y7 G (BB s.env (s8 o.op))) (tX T Γ o.type (fun x=>xD (tH s.env x)) s.nb s.H o.op):=by
    intro s;cases ho:o.op<;>first|rfl|(exact absurd ⟨_,_,_,ho⟩ hpk)
   rw[e1] at h⊢;rw[hops];cases hp0:tX T Γ o.type (fun x=>xD (tH s.env x)) s.nb s.H o.op with
   |none=>rw[hp0] at h;cases h
   |some e0=>
    rw[hp0] at h;have hrd:e0.rds=e.rds:=by
     unfold GY at h;split at h
     ·rename_i heq;simp only[aRg] at h heq;subst heq;rw[<-h]
     ·rename_i heq;simp only[aRg] at h heq;subst heq;rw[<-h]
     ·cases h
    rw[hpl hp0 hrd];exact h
theorem aJh {T:sG}{Γ:tW}{ops:Array Oper}{o:Oper}{s s':St}{e:pY}(h:DQ T Γ ops.toList o s=some e) (ht: ∀t∈o.looksAt ops,lk s'.env t=lk s.env t) (hH: ∀i∈e.rds,pT s'.H i=pT s.H i) (hn:s'.nb=s.nb) (hp:s'.np=s.np):DQ T Γ ops.toList o s'=some e:=by
 obtain⟨h1,h2⟩:=OZ h;unfold DQ at h⊢;rw[h1] at h;rw[aJg h1 ht hH hn,hp];exact h
def vA {α:Type}(p:Nat->Bool) (wr:Nat->Option α) (b:α):Nat->α
 |0=>b
 |k+1=>if p k=true then(wr k).getD (vA p wr b k) else vA p wr b k
theorem LS {α:Type}{p q:Nat->Bool}{wr:Nat->Option α}{b:α}: ∀{n:Nat},(∀j,j<n->wr j≠none->p j=q j)->vA p wr b n=vA q wr b n
 |0,_=>rfl
 |n+1,h=>by
  simp only[vA];have ih:=LS (p:=p) (q:=q) (wr:=wr) (b:=b) (n:=n) (fun j hj=>h j (by omega));cases hw:wr n with
  |none=>simp [ih]
  |some v=>rw[h n (by omega) (by rw[hw];simp),ih]
theorem aAj {α:Type}{wr:Nat->Option α}{b:α}{i:Nat}: ∀{n:Nat},i<=n->vA (fun j=>decide (j<i)) wr b n=vA (fun _=>true) wr b i
 |0,h=>by
  have:i=0:=by omega
  subst this;rfl
 |n+1,h=>by
  by_cases hi:i=n+1
  ·subst hi;exact LS (fun j hj _=>by simp [hj])
  ·have: ¬n<i:=by omega
   simp only[vA];rw[if_neg (by simp [this])];exact aAj (by omega)
theorem ZO {α:Type}{p q:Nat->Bool}{wr:Nat->Option α}{b:α}{i:Nat}(hi:p i=false) (hq: ∀j,q j=if j=i then true else p j): ∀{n:Nat},i<n->(∀j,i<j->j<n->p j=true->wr j=none\/wr i=none)->vA q wr b n=(wr i).getD (vA p wr b n)
 |0,h,_=>by omega
 |n+1,h,hd=>by
  simp only[vA];by_cases hn:n=i
  ·subst hn;rw[if_pos (by rw[hq];simp),if_neg (by simp [hi])];rw[LS (p:=q) (q:=p) (fun j hj _=>by rw[hq,if_neg (by omega)])]
  ·have ih:=ZO (b:=b) hi hq (n:=n) (by omega) (fun j h1 h2=>hd j h1 (by omega));rw[hq,if_neg hn,ih];by_cases hp:p n=true
   ·rw[if_pos hp,if_pos hp];rcases hd n (by omega) (by omega) hp with h1|h1
    ·rw[h1];rfl
    ·rw[h1];rfl
   ·rw[if_neg hp,if_neg hp]
theorem ZP {α:Type}{p:Nat->Bool}{wr:Nat->Option α}{b:α}: ∀(k:Nat),vA p wr b (k+1)=vA (fun j=>p (j+1)) (fun j=>wr (j+1)) (if p 0=true then(wr 0).getD b else b) k
 |0=>rfl
 |k+1=>by
  rw[vA,ZP k];rfl
theorem ZQ {rds:List Nat}{i:Nat}: ∀{u:List (Nat×pQ)},i∈pU (LC rds u)↔i∈pU u/\CP i rds=false
 |[]=>by simp [LC,pU]
 |(j,b)::u=>by
  simp only[LC];cases h:CP j rds with
  |true=>
   rw[if_pos rfl,ZQ (u:=u)];simp only[pU,aRv];constructor
   ·rintro⟨h1,h2⟩;exact⟨.inr h1,h2⟩
   ·rintro⟨rfl|h1,h2⟩
    ·rw[h] at h2;cases h2
    ·exact⟨h1,h2⟩
  |false=>
   rw[if_neg (by simp)];simp only[pU,aRv,ZQ (u:=u)];constructor
   ·rintro(rfl|⟨h1,h2⟩)
    ·exact⟨.inl rfl,h⟩
    ·exact⟨.inr h1,h2⟩
   ·rintro⟨rfl|h1,h2⟩
    ·exact .inl rfl
    ·exact .inr ⟨h1,h2⟩
theorem TQ {e:pY}{i:Nat}:i∈pU (BW e)↔i∈pU e.upd/\CP i e.rds=false:=ZQ
theorem aAk {i:Nat}: ∀{l:List Nat},CP i l=true->i∈l
 |[],h=>by cases h
 |j::l,h=>by
  simp only[CP] at h;split at h
  ·rename_i e;subst e;exact aRB
  ·exact aRt _ (aAk h)
theorem aAl {H U:List (Nat×pQ)}{rds:List Nat}{i:Nat}(h:CP i rds=true): ∀{u:List (Nat×pQ)},i∈pU u->(pT U i=pT H i)∈J1 H U rds u
 |[],hi=>by cases hi
 |(j,b)::u,hi=>by
  simp only[J1];simp only[pU,aRv] at hi;rcases hi with rfl|hi
  ·rw[if_pos h];exact aRB
  ·have:=aAl (H:=H) (U:=U) h hi;split
   ·exact aRt _ this
   ·exact this
theorem aJi {H:List (Nat×pQ)}{e:pY}(hs: ∀p∈J1 H e.upd e.rds e.upd,p) {i:Nat}(h1:i∈pU e.upd) (h2:i∉pU (BW e)):pT e.upd i=pT H i/\i∈e.rds:=by
 have h:CP i e.rds=true:=by
  cases h3:CP i e.rds with
  |true=>rfl
  |false=>exact absurd (TQ.2 ⟨h1,h3⟩) h2
 exact⟨hs _ (aAl h h1),aAk h⟩
def AH (os:List Oper) (es:List pY) (t j:Nat):Option pR:=
 match os[j]?,es[j]? with
 |some o,some e=>if o.dst=some t then some e.slot else none
 |_,_=>none
def AI (es:List pY) (id j:Nat):Option (Option pQ):=
 match es[j]? with
 |some e=>if id∈pU (BW e) then some (pT e.upd id) else none
 |none=>none
theorem ZR {id:Nat}{H:rO}: ∀{u:List (Nat×pQ)},pT (qG u H) id=if id∈pU u then pT u id else pT H id
 |[]=>by simp [qG,pU]
 |(k,b)::u=>by
  simp only[qG,pT,pU,aRv];by_cases h:k=id
  ·subst h;simp
  ·rw[if_neg h,if_neg h,ZR (u:=u)];have:(id=k\/id∈pU u)↔id∈pU u:=⟨fun h'=>h'.resolve_left (Ne.symm h),.inr⟩;simp only[this]
theorem aAm {d:Option Tmp}{s:pR}{env:List (Nat×pR)}{t:Nat}:lk (sX d s env) t=if d=some t then s else lk env t:=by
 cases d with
 |none=>simp [sX]
 |some d=>simp only[sX,lk,aRg]
structure aJj (T:sG) (Γ:tW) (ops:List Oper) (os:List Oper) (es:List pY) (s:St) (y:vU) (k:Nat) (o:Oper) (e:pY) (sk:St):Prop where
 ev:DQ T Γ ops o sk=some e
 nb:sk.nb=s.nb+32*k
 dst:H0 s.N o.dst=true
 ids:H4 (s.nb+32*k+32) e.upd=true
 np:sk.np=s.np
 side: ∀p∈e.side,p∈y.side
 env: ∀t,lk sk.env t=vA (fun _=>true) (AH os es t) (lk s.env t) k
 heap: ∀id,pT sk.H id=vA (fun _=>true) (AI es id) (pT s.H id) k
 same: ∀id,id∈pU e.upd->id∉pU (BW e)->pT e.upd id=pT sk.H id/\id∈e.rds
structure aAn (T:sG) (Γ:tW) (ops:List Oper) (os:List Oper) (es:List pY) (s:St) (y:vU):Prop where
 len:es.length=os.length
 nb:y.s.nb=s.nb+32*os.length
 step: ∀k o e,os[k]? =some o->es[k]? =some e->∃sk,aJj T Γ ops os es s y k o e sk
 env: ∀t,lk y.s.env t=vA (fun _=>true) (AH os es t) (lk s.env t) os.length
 heap: ∀id,pT y.s.H id=vA (fun _=>true) (AI es id) (pT s.H id) os.length
theorem aAo {T:sG}{Γ:tW}{ops:List Oper}: ∀{l:List Oper}{x y:vU},vV T Γ ops l (some x)=some y->(∀p∈y.side,p)->∃es:List pY,y.es=es.reverse++x.es/\aAn T Γ ops l es x.s y
 |[],x,y,h,_=>by
  simp only[vV,aRg] at h;subst h;exact⟨[],rfl,rfl,rfl,fun k o e h=>by simp at h,fun _=>rfl,fun _=>rfl⟩
 |o::l,x,y,h,hsy=>by
  obtain⟨e,h1,h2,h3,h4⟩:=ZK h;obtain⟨es,h5,h6⟩:=aAo h4 hsy;have hsame: ∀{i:Nat},i∈pU e.upd->i∉pU (BW e)->pT e.upd i=pT x.s.H i/\i∈e.rds:=fun h1 h2=>aJi (fun p hp=>hsy p ((JD h4).1 p (wJ.2 (.inr (wJ.2 (.inl hp)))))) h1 h2;have envs: ∀t k,vA (fun _=>true) (AH (o::l) (e::es) t) (lk x.s.env t) (k+1)=vA (fun _=>true) (AH l es t) (lk (sX o.dst e.slot x.s.env) t) k:=fun t k=>by
   rw[ZP,if_pos rfl,aAm];have:(AH (o::l) (e::es) t 0).getD (lk x.s.env t)=if o.dst=some t then e.slot else lk x.s.env t:=by
    simp only[AH,aRM];split<;>rfl
   rw[this];rfl
  have heaps: ∀id k,vA (fun _=>true) (AI (e::es) id) (pT x.s.H id) (k+1)=vA (fun _=>true) (AI es id) (pT (qG e.upd x.s.H) id) k:=fun id k=>by
   rw[ZP,if_pos rfl,ZR];have:(AI (e::es) id 0).getD (pT x.s.H id)=if id∈pU e.upd then pT e.upd id else pT x.s.H id:=by
    simp only[AI,aRM];by_cases h7:id∈pU (BW e)
    ·rw[if_pos h7,if_pos (TQ.1 h7).1];rfl
    ·rw[if_neg h7];by_cases h8:id∈pU e.upd
     ·rw[if_pos h8,(hsame h8 h7).1];rfl
     ·rw[if_neg h8];rfl
   rw[this];rfl
  refine⟨e::es,by rw[h5];simp,by simp [h6.len],?_,?_,fun t=> ?_,fun id=> ?_⟩
  ·have:=h6.nb;simp only at this;rw[this];simp only[aRj];omega
  ·intro k o' e' ho he;cases k with
   |zero=>
    simp only[aRM,aRg] at ho he;subst ho;subst he;exact⟨x.s,h1,rfl,h2,h3,rfl,fun p hp=>(JD h4).1 p (wJ.2 (.inr (wJ.2 (.inr hp)))),fun _=>rfl,fun _=>rfl,fun id=>hsame⟩
   |succ k=>
    simp only[aR3] at ho he;obtain⟨sk,q⟩:=h6.step k o' e' ho he;refine⟨sk,q.ev,by rw[q.nb];simp only;omega,q.dst,?_,q.np,q.side,fun t=>by rw[q.env t,envs],fun id=>by rw[q.heap id,heaps],q.same⟩;have:=q.ids;simp only at this;rw[show x.s.nb+32*(k+1)+32=x.s.nb+32+32*k+32 by omega];exact this
  ·rw[aRj,envs];exact h6.env t
  ·rw[aRj,heaps];exact h6.heap id
theorem aAp {ops:Array Oper}{bs:List Nat}{nb i:Nat}{o:Oper}{e:pY}: ∀{ps:List Oper}{fs:List pY}{j:Nat},SO ops bs nb i o e ps fs j=true->∀k p f,ps[k]? =some p->fs[k]? =some f->
  (bs.getD (j+k) 0).testBit i=true\/(o.apart ops p=true/\F9 e f=true/\J2 (nb+32*i) f.upd=true)
 |p::ps,f::fs,j,h,k,p',f',hp,hf=>by
  simp only[SO,aRm,aSu] at h;cases k with
  |zero=>
   simp only[aRM,aRg] at hp hf;subst hp;subst hf;exact h.1.imp id (fun h=>⟨h.1.1,h.1.2,h.2⟩)
  |succ k=>
   simp only[aR3] at hp hf;have:=aAp h.2 k p' f' hp hf;rw[show j+(k+1)=j+1+k by omega];exact this
 |[],_,_,_,_,_,_,hp,_=>by simp at hp
 |_::_,[],_,_,_,_,_,_,hf=>by simp at hf
theorem ZS {ops:Array Oper}{bs:List Nat}{nb:Nat}: ∀{os:List Oper}{es:List pY}{m:Nat},SP ops bs nb os es m=true->∀i j o e p f,i<j->os[i]? =some o->es[i]? =some e->os[j]? =some p->es[j]? =some f->
  (bs.getD (m+j) 0).testBit (m+i)=true\/(o.apart ops p=true/\F9 e f=true/\J2 (nb+32*(m+i)) f.upd=true)
 |o'::os,e'::es,m,h,i,j,o,e,p,f,hij,ho,he,hp,hf=>by
  simp only[SP,aRm] at h;obtain⟨j,rfl⟩: ∃k,j=k+1:=⟨j-1,by omega⟩;simp only[aR3] at hp hf;cases i with
  |zero=>
   simp only[aRM,aRg] at ho he;subst ho;subst he;have:=aAp h.1 j p f hp hf;rw[show m+(j+1)=m+1+j by omega];exact this
  |succ i=>
   simp only[aR3] at ho he;have:=ZS h.2 i j o e p f (by omega) ho he hp hf;rw[show m+(j+1)=m+1+j by omega,show m+(i+1)=m+1+i by omega];exact this
 |[],_,_,_,_,_,_,_,_,_,_,ho,_,_,_=>by simp at ho
 |_::_,[],_,_,_,_,_,_,_,_,_,_,he,_,_=>by simp at he
theorem aAq: ∀{os:List Oper}{m:Nat},SQ os m=true->∀i o,os[i]? =some o->∀e∈o.after,Region.binds .any e=true->e.on<m+i
 |o'::os,m,h,i,o,ho,e,he,hb=>by
  simp only[SQ,aRm] at h;cases i with
  |zero=>
   simp only[aRM,aRg] at ho;subst ho;have:=aRW.1 h.1 e (by simpa using he);simpa[hb] using this
  |succ i=>
   simp only[aR3] at ho;have:=aAq h.2 i o ho e he hb;omega
 |[],_,_,_,_,ho,_,_,_=>by simp at ho
theorem TR {l:List Nat}: ∀{u:List (Nat×pQ)},O9 u l=false->∀i,i∈pU u->i∉l
 |(k,b)::u,h,i,hi=>by
  simp only[O9,aSo] at h;simp only[pU,aRv] at hi;rcases hi with rfl|hi
  ·simpa using h.1
  ·exact TR h.2 i hi
theorem ZT {a b:pY}(h:F9 a b=true):(∀i∈pU (BW a),i∉b.rds/\i∉pU b.upd)/\(∀i∈pU (BW b),i∉a.rds):=by
 simp only[F9,aRm,aRK] at h;exact⟨fun i hi=>⟨fun h1=>TR h.1 i hi (wJ.2 (.inl h1)),fun h1=>TR h.1 i hi (wJ.2 (.inr h1))⟩,fun i hi=>TR h.2 i hi⟩
theorem aAr {lo:Nat}: ∀{u:List (Nat×pQ)},J2 lo u=true->∀i∈pU u,i<lo\/lo+32<=i
 |(k,b)::u,h,i,hi=>by
  simp only[J2,aRm,aSu,aRk] at h;simp only[pU,aRv] at hi;rcases hi with rfl|hi
  ·exact h.1
  ·exact aAr h.2 i hi
def ZU (os:List Oper) (p:Nat->Bool):Prop:= ∀j o,os[j]? =some o->p j=true->∀e∈o.after,Region.binds .any e=true->p e.on=true
theorem aAs {p:Nat->Bool}{acc:Array Nat}(hacc: ∀i j,(acc.getD i 0).testBit j=true->p i=true->p j=true) {i:Nat}: ∀{es:List Edge}{s:Nat},(s.testBit i=true->p i=true)->(∀e∈es,Region.binds .any e=true->p e.on=true)->
  (es.foldl (fun s e=>if Region.binds .any e then s|||2^e.on|||acc.getD e.on 0 else s) s).testBit i=true->p i=true
 |[],s,hs,_,h=>hs h
 |e::es,s,hs,he,h=>by
  simp only[List.foldl_cons] at h;refine aAs hacc (es:=es) (fun h1=> ?_) (fun e' h'=>he e' (aRt _ h')) h;split at h1
  ·rename_i hb;simp only[Nat.testBit_or,aSu,Nat.testBit_two_pow,aRk] at h1;rcases h1 with(h1|h1) |h1
   ·exact hs h1
   ·rw[<-h1];exact he e (by simp) hb
   ·exact hacc _ _ h1 (he e (by simp) hb)
  ·exact hs h1
theorem aAt {p:Nat->Bool}: ∀{os:List Oper}{acc:Array Nat},(∀i j,(acc.getD i 0).testBit j=true->p i=true->p j=true)->(∀j o,os[j]? =some o->p (acc.size+j)=true->∀e∈o.after,Region.binds .any e=true->p e.on=true)->
  ∀i j,((os.foldl (fun acc o=>acc.push (o.after.foldl (fun s e=>if Region.binds .any e then s|||2^e.on|||acc.getD e.on 0 else s) 0)) acc).getD i 0).testBit j=true->p i=true->p j=true
 |[],acc,hacc,_,i,j,h,hp=>hacc i j h hp
 |o::os,acc,hacc,hos,i,j,h,hp=>by
  simp only[List.foldl_cons] at h;refine aAt (os:=os) (fun i j h hp=> ?_) (fun k o' ho hk=> ?_) i j h hp
  ·rw[aRQ,Array.getElem?_push] at h;split at h
   ·rename_i hi;simp only[aSO] at h;rw[<-aTn] at h;refine aAs hacc (es:=o.after.toList) (s:=0) (fun h=>by simp at h) (fun e he hb=>hos 0 o rfl (by rw[hi] at hp;exact hp) e (by simpa using he) hb) h
   ·rw[<-aRQ] at h;exact hacc i j h hp
  ·refine hos (k+1) o' ho ?_;rw[Array.size_push] at hk;rw[show acc.size+(k+1)=acc.size+1+k by omega];exact hk
theorem aAu {ops:Array Oper}{p:Nat->Bool}(hp:ZU ops.toList p) {i j:Nat}(h:((Region.before ops).toList.getD i 0).testBit j=true) (hi:p i=true):p j=true:=by
 refine aAt (os:=ops.toList) (acc:= #[]) (p:=p) (fun i j h=>by simp at h) (fun j o ho hj=>hp j o ho (by simpa using hj)) i j ?_ hi;unfold Region.before at h;rw[<-aTn] at h;rw[aRQ,<-aSt,<-aRD];exact h
def C1 (l:Array Bool):Nat->Nat
 |0=>0
 |k+1=>C1 l k+if l.getD k false=true then 0 else 1
theorem aAv {l l':Array Bool}: ∀{n:Nat},(∀j,j<n->l'.getD j false=l.getD j false)->C1 l' n=C1 l n
 |0,_=>rfl
 |n+1,h=>by simp only[C1];rw[aAv (fun j hj=>h j (by omega)),h n (by omega)]
theorem aAw {l:Array Bool}: ∀{n:Nat},C1 l n=0->∀j,j<n->l.getD j false=true
 |n+1,h,j,hj=>by
  simp only[C1] at h;by_cases hn:l.getD n false=true
  ·by_cases hjn:j=n
   ·subst hjn;exact hn
   ·exact aAw (n:=n) (by omega) j (by omega)
  ·rw[if_neg hn] at h;omega
theorem FF {l:Array Bool}{i j:Nat}(hi:i<l.size):(l.setIfInBounds i true).getD j false=if j=i then true else l.getD j false:=by
 by_cases h:j=i
 ·subst h;rw[if_pos rfl,aRQ,Array.getElem?_setIfInBounds_self_of_lt hi];rfl
 ·rw[if_neg h,aRQ,aSK (Ne.symm h),<-aRQ]
theorem aAx {l:Array Bool}{i:Nat}(hi:i<l.size) (hf:l.getD i false=false): ∀{n:Nat},i<n->C1 (l.setIfInBounds i true) n+1=C1 l n
 |n+1,h=>by
  simp only[C1];by_cases hn:n=i
  ·subst hn;rw[FF hi,if_pos rfl,if_pos rfl,hf,aAv (l:=l) (fun j hj=>by rw[FF hi,if_neg (by omega)])];simp
  ·rw[FF hi,if_neg hn];have:=aAx hi hf (n:=n) (by omega);omega
theorem aAy {p:Nat->Bool}: ∀{n:Nat},(∃j,j<n/\p j=false)->∃j,j<n/\p j=false/\∀k,k<j->p k=true
 |0,⟨j,h,_⟩=>by omega
 |n+1,⟨j,h,hj⟩=>by
  by_cases hs: ∃j,j<n/\p j=false
  ·obtain⟨k,h1,h2,h3⟩:=aAy hs;exact⟨k,by omega,h2,h3⟩
  ·refine⟨j,h,hj,fun k hk=> ?_⟩;cases hp:p k with
   |true=>rfl
   |false=>exact absurd ⟨k,by omega,hp⟩ hs
theorem rZ.ext {g:Gh}{w:World}{H H':rO}(h:rZ g w H) (e: ∀i,pT H' i=pT H i):rZ g w H':=
 ⟨fun i b hb=>h.blk i b (by rw[<-e];exact hb),fun i j bi bj b o hij h1 h2=>h.dis i j bi bj b o hij (by rw[<-e];exact h1) (by rw[<-e];exact h2),h.sl,h.tab.1,fun i b bb oo hb ho=>h.tab.2 i b bb oo (by rw[<-e];exact hb) ho⟩
theorem sR.ext {A:Nat->Nat->Prop}{L:List pQ}{g0 g:Gh}{w0 w:World}{H H':rO}(h:sR A L g0 w0 g w H) (e: ∀i,pT H' i=pT H i):sR A L g0 w0 g w H':=
 ⟨h.shut,h.fr,fun i blk b o hb=>h.perm i blk b o (by rw[<-e];exact hb),h.J,h.live,fun i u y us hi hb=>h.ty i u y us hi (by rw[<-e];exact hb),h.cur⟩
theorem aAz (g:Gh) (w:World) (d:Nat):Le g w g {w with drawn:=d}:=⟨fun _ _ h=>h,fun _ _ _=>rfl,fun _ _ h=>h,fun _ _ _ h=>h⟩
theorem rZ.drawn {g:Gh}{w:World}{H:rO}(h:rZ g w H) (d:Nat):rZ g {w with drawn:=d} H:=
 ⟨fun i b hb=>J5 (h.blk i b hb) (aAz g w d) rfl rfl (fun _ _ _=>⟨rfl,rfl⟩) (fun _ _=>rfl) (fun _ _ _ h=>h) (fun _ _ _ _ h=>h),h.dis,h.sl,NT h.tab.1 (Nat.le_refl _) (fun _ _=>rfl),h.tab.2⟩
theorem sR.drawn {A:Nat->Nat->Prop}{L:List pQ}{g0 g:Gh}{w0 w:World}{H:rO}(h:sR A L g0 w0 g w H) (d:Nat):sR A L g0 w0 g {w with drawn:=d} H:=
 ⟨h.shut,⟨h.fr.os,h.fr.tape,h.fr.output,h.fr.size,h.fr.blk,h.fr.cell,h.fr.new,h.fr.shape⟩,h.perm,h.J,h.live,h.ty,h.cur⟩
section
variable {B:Nat}{P:Program}{T:sG}{Γ:tW}(hT:wY P T) (hΓ:CX P Γ) {A:Nat->Nat->Prop}{L:List pQ}{g0:Gh}{w0:World}{Q:Exit->Act->World->Prop}
structure Mid (B:Nat) (A:Nat->Nat->Prop) (L:List pQ) (g0:Gh) (w0:World) (ops:Array Oper) (es:List pY) (s:St) (listed:Array Bool) (g:Gh) (w:World) (a:Act) (env:List (Nat×pR)) (H:rO):Prop where
 size:listed.size=ops.size
 closed:ZU ops.toList (fun j=>listed.getD j false)
 eok:AG g w env a.tmps
 look: ∀t,lk env t=vA (fun j=>listed.getD j false) (AH ops.toList es t) (lk s.env t) ops.size
 heap:rZ g w H
 get: ∀id,pT H id=vA (fun j=>listed.getD j false) (AI es id) (pT s.H id) ops.size
 tmps:a.tmps.size=s.N
 def_:yR B w a.defers
 good:sR A L g0 w0 g w H
 len:L.length=s.np
 free: ∀j,j<ops.size->listed.getD j false=false->∀id,s.nb+32*j<=id->id<s.nb+32*j+32->g.J id=none/\∀n,g.cur id n=none
 top: ∀id,s.nb+32*ops.size<=id->g.J id=none/\∀n,g.cur id n=none
include hT hΓ
theorem aJk {ro:Option Nat}{ops:Array Oper}{es:List pY}{s:St}{y:vU}(run:aAn T Γ ops.toList ops.toList es s y) (hs: ∀p∈y.side,p) (hchk:DR ops s.nb es=true)
  (hQ: ∀g a w env H,AG g w env a.tmps->(∀t,lk env t=lk y.s.env t)->rZ g w H->(∀id,pT H id=pT y.s.H id)->a.tmps.size=s.N->yR B w a.defers->sR A L g0 w0 g w H->(∀id,s.nb+32*ops.size<=id->g.J id=none/\∀n,g.cur id n=none)->Q .normal a w):
  ∀(fuel:Nat) (listed:Array Bool) (g:Gh) (w:World) (a:Act) (env:List (Nat×pR)) (H:rO),C1 listed ops.size<=fuel->Mid B A L g0 w0 ops es s listed g w a env H->wpAnyIn (DX ro) 0 P .any ops Q fuel listed a w:=by
 simp only[DR,aRm] at hchk;obtain⟨haf,hfr⟩:=hchk;have hsz:ops.toList.length=ops.size:=aRP;have done: ∀(listed:Array Bool) (g:Gh) (w:World) (a:Act) (env:List (Nat×pR)) (H:rO),Mid B A L g0 w0 ops es s listed g w a env H->(∀j,j<ops.size->listed.getD j false=true)->Q .normal a w:=by
  intro listed g w a env H m hall;refine hQ g a w env H m.eok (fun t=> ?_) m.heap (fun id=> ?_) m.tmps m.def_ m.good m.top
  ·rw[m.look t,run.env t,hsz];exact LS (fun j hj _=>hall j hj)
  ·rw[m.get id,run.heap id,hsz];exact LS (fun j hj _=>hall j hj)
 have stuck: ∀(listed:Array Bool),listed.size=ops.size->Region.ready .any ops listed=[]->∀j,j<ops.size->listed.getD j false=true:=by
  intro listed hls hr j hj;cases hp:listed.getD j false with
  |true=>rfl
  |false=>
   obtain⟨k,h1,h2,h3⟩:=aAy (p:=fun j=>listed.getD j false) ⟨j,hj,hp⟩;have:k∈Region.ready .any ops listed:=by
    rw[mem_ready];refine⟨?_,ops[k],by simp [h1],fun e he hb=> ?_⟩
    ·have h2:listed.getD k false=false:=h2;rw[aRQ] at h2⊢;rw[aTe (by omega)] at h2⊢;exact h2
    ·have:=aAq haf k ops[k] (by simp [h1]) e he hb;exact h3 e.on (by omega)
   rw[hr] at this;cases this
 intro fuel
 induction fuel with
 |zero=>
  intro listed g w a env H hu m;have hall:=aAw (l:=listed) (n:=ops.size) (by omega);refine⟨?_,done listed g w a env H m hall⟩;cases hr:Region.ready .any ops listed with
  |nil=>rfl
  |cons i r=>
   have:i∈Region.ready .any ops listed:=by rw[hr];simp
   obtain⟨h0,o,ho,_⟩:=mem_ready.1 this;have hi:i<ops.size:=(aRE.1 ho).1;have:=hall i hi;rw[aRQ] at this h0;rw[aTe (by rw[m.size];exact hi)] at this h0;simp at this h0;rw[this] at h0;cases h0
 |succ fuel ih=>
  intro listed g w a env H hu m;refine⟨fun hr=>done listed g w a env H m (stuck listed m.size hr),fun i hi=> ?_⟩;obtain⟨h0,o,ho,hall⟩:=mem_ready.1 hi;have hin:i<ops.size:=(aRE.1 ho).1;have hil:i<listed.size:=by rw[m.size];exact hin
  have hpi:listed.getD i false=false:=by
   rw[aRQ] at h0⊢;rw[aTe hil] at h0⊢;exact h0
  have hoL:ops.toList[i]? =some o:=by simpa using ho
  obtain⟨e,he⟩: ∃e,es[i]? =some e:=⟨es[i]'(by rw[run.len,hsz];exact hin),by simp⟩;obtain⟨sk,st⟩:=run.step i o e hoL he;have hcl':ZU ops.toList (fun j=>(listed.setIfInBounds i true).getD j false):=by
   intro j o' ho' hj ed hed hb;simp only[FF hil] at hj⊢;by_cases hji:j=i
   ·subst hji;rw[hoL] at ho';obtain rfl:=aRl ho';have:=hall ed hed hb;split
    ·rfl
    ·exact this
   ·rw[if_neg hji] at hj;have:=m.closed j o' ho' hj ed hed hb;split
    ·rfl
    ·exact this
  have hbef: ∀j,((Region.before ops).toList.getD i 0).testBit j=true->j≠i->listed.getD j false=true:=by
   intro j hj hne;have:=aAu hcl' hj (by simp only[FF hil];simp);simp only[FF hil,if_neg hne] at this;exact this
  have haft: ∀j,((Region.before ops).toList.getD j 0).testBit i=true->listed.getD j false=true->False:=by
   intro j hj hl;have:=aAu m.closed hj hl;rw[hpi] at this;cases this
  have pairLt: ∀j p f,j<i->ops.toList[j]? =some p->es[j]? =some f->listed.getD j false=true\/(p.apart ops o=true/\F9 f e=true/\J2 (s.nb+32*j) e.upd=true):=by
   intro j p f hji hp hf;rcases ZS hfr j i p f o e hji hp hf hoL he with h1|h1
   ·rw[aRR,aRR] at h1;exact .inl (hbef j h1 (by omega))
   ·rw[aRR] at h1;exact .inr h1
  have pairGt: ∀j p f,i<j->ops.toList[j]? =some p->es[j]? =some f->listed.getD j false=true->o.apart ops p=true/\F9 e f=true:=by
   intro j p f hij hp hf hl;rcases ZS hfr i j o e p f hij hoL he hp hf with h1|h1
   ·rw[aRR,aRR] at h1;exact(haft j h1 hl).elim
   ·exact⟨h1.1,h1.2.1⟩
  have same: ∀{α:Type}(wr:Nat->Option α) (b:α),(∀j p f,j<i->ops.toList[j]? =some p->es[j]? =some f->wr j≠none->p.apart ops o=true->F9 f e=true->False)->
    (∀j p f,i<j->ops.toList[j]? =some p->es[j]? =some f->wr j≠none->o.apart ops p=true->F9 e f=true->False)->(∀j,wr j≠none->∃f,es[j]? =some f)->
    vA (fun j=>listed.getD j false) wr b ops.size=vA (fun _=>true) wr b i:=by
   intro α wr b hlt hgt hex;rw[<-aAj (n:=ops.size) (by omega)];refine LS (fun j hj hw=> ?_);obtain⟨f,hf⟩:=hex j hw;have hpj:ops.toList[j]? =some ops[j]:=by simp [hj]
   rcases Nat.lt_trichotomy j i with h1|h1|h1
   ·rw[aSd h1];rcases pairLt j _ f h1 hpj hf with h2|h2
    ·exact h2
    ·exact(hlt j _ f h1 hpj hf hw h2.1 h2.2.1).elim
   ·subst h1;simp [hpi]
   ·have: ¬j<i:=by omega
    rw[decide_eq_false this];cases hl:listed.getD j false with
    |false=>rfl
    |true=>
     obtain⟨h2,h3⟩:=pairGt j _ f h1 hpj hf hl;exact(hgt j _ f h1 hpj hf hw h2 h3).elim
  have exS: ∀t j,AH ops.toList es t j≠none->∃f,es[j]? =some f:=by
   intro t j h;unfold AH at h;cases hf:es[j]? with
   |none=>rw[hf] at h;exact absurd (by split<;>first|rfl|(rename_i h1;cases h1)) h
   |some f=>exact⟨f,rfl⟩
  have exH: ∀t j,AI es t j≠none->∃f,es[j]? =some f:=by
   intro t j h;unfold AI at h;cases hf:es[j]? with
   |none=>rw[hf] at h;exact absurd rfl h
   |some f=>exact⟨f,rfl⟩
  have dS: ∀t j p f,ops.toList[j]? =some p->es[j]? =some f->AH ops.toList es t j≠none->p.dst=some t:=by
   intro t j p f hp hf h;unfold AH at h;rw[hp,hf] at h;simp only at h;split at h
   ·assumption
   ·exact absurd rfl h
  have dH: ∀id j f,es[j]? =some f->AI es id j≠none->id∈pU (BW f):=by
   intro id j f hf h;unfold AI at h;rw[hf] at h;simp only at h;split at h
   ·assumption
   ·exact absurd rfl h
  have hrds: ∀id∈e.rds,pT H id=pT sk.H id:=fun id hid=>by
   rw[m.get id,st.heap id];refine same _ _ (fun j p f _ hp hf hw _ ha=> ?_) (fun j p f _ hp hf hw _ ha=> ?_) (exH id)
   ·exact((ZT ha).1 id (dH id j f hf hw)).1 hid
   ·exact(ZT ha).2 id (dH id j f hf hw) hid
  have hev:DQ T Γ ops.toList o ⟨env,H,s.nb+32*i,s.N,s.np⟩=some e:=by
   refine aJh st.ev (fun t ht=> ?_) (fun id hid=> ?_) st.nb.symm st.np.symm
   ·show lk env t=_;rw[m.look t,st.env t];refine same _ _ (fun j p f _ hp hf hw ha _=> ?_) (fun j p f _ hp hf hw ha _=> ?_) (exS t)
    ·exact(Oper.apart_spec ha).1 t (dS t j p f hp hf hw) ht
    ·exact(Oper.apart_spec ha).2.2 t (dS t j p f hp hf hw) ht
   ·exact hrds id hid
  have hfresh:zC g (s.nb+32*i) e:=fun id hid hle=>m.free i hin hpi id hle (P1 st.ids hid);have key:=a9X hT hΓ (ops:=ops.toList) (o:=o) (a:=a) (s:=⟨env,H,s.nb+32*i,s.N,s.np⟩) (K:=wpAnyIn (DX ro) 0 P .any ops Q fuel (listed.setIfInBounds i true)) (Q:=Q) m.eok m.heap hev (fun p hp=>hs p (st.side p hp)) hfresh (fun g' w' v k=>by
   refine ih (listed.setIfInBounds i true) g' w' (a.put o.dst v) (sX o.dst e.slot env) (qG e.upd H) ?_ ⟨by rw[Array.size_setIfInBounds];exact m.size,hcl',ZJ m.eok k.le k.slot m.tmps st.dst,fun t=> ?_,k.heap,fun id=> ?_,(a91 _ _ _).trans m.tmps,by rw[a92];exact m.def_.eff m.heap k,m.good.eff k (m.len▸(OZ hev).2),m.len,fun j hj hjp id h1 h2=> ?_,fun id hid=> ?_⟩
   ·have:=aAx hil hpi hin;omega
   ·rw[aAm,ZO (p:=fun j=>listed.getD j false) (i:=i) hpi (fun j=>by simp only[FF hil]) hin (fun j hij hj hl=> ?_),<-m.look t]
    ·unfold AH;rw[hoL,he];simp only;split<;>rfl
    ·have hpj:ops.toList[j]? =some ops[j]:=by simp [hj]
     obtain⟨f,hf⟩: ∃f,es[j]? =some f:=⟨es[j]'(by rw[run.len,hsz];exact hj),by simp⟩;obtain⟨h3,_⟩:=pairGt j _ f hij hpj hf hl;by_cases hw:AH ops.toList es t j=none
     ·exact .inl hw
     ·right;have hd:=dS t j _ f hpj hf hw;by_cases hwi:AH ops.toList es t i=none
      ·exact hwi
      ·have hdi:=dS t i _ e hoL he hwi;exact absurd hd ((Oper.apart_spec h3).2.1 t hdi)
   ·rw[ZR,ZO (p:=fun j=>listed.getD j false) (i:=i) hpi (fun j=>by simp only[FF hil]) hin (fun j hij hj hl=> ?_),<-m.get id]
    ·unfold AI;rw[he];simp only;by_cases h7:id∈pU (BW e)
     ·rw[if_pos h7,if_pos (TQ.1 h7).1];rfl
     ·rw[if_neg h7];by_cases h8:id∈pU e.upd
      ·obtain⟨q1,q2⟩:=st.same id h8 h7;rw[if_pos h8,q1,<-hrds id q2];rfl
      ·rw[if_neg h8];rfl
    ·have hpj:ops.toList[j]? =some ops[j]:=by simp [hj]
     obtain⟨f,hf⟩: ∃f,es[j]? =some f:=⟨es[j]'(by rw[run.len,hsz];exact hj),by simp⟩;obtain⟨_,h3⟩:=pairGt j _ f hij hpj hf hl;by_cases hw:AI es id j=none
     ·exact .inl hw
     ·right;have hd:=dH id j f hf hw;by_cases hwi:AI es id i=none
      ·exact hwi
      ·have hdi:=dH id i e he hwi;exact absurd (TQ.1 hd).1 ((ZT h3).1 id hdi).2
   ·rw[FF hil] at hjp;have hji:j≠i:=fun h=>by rw[if_pos h] at hjp;cases hjp
    rw[if_neg hji] at hjp;have hnot:id∉pU e.upd:=by
     intro hm;have hlt:=P1 st.ids hm;rcases Nat.lt_or_gt_of_ne hji with h3|h3
     ·obtain⟨f,hf⟩: ∃f,es[j]? =some f:=⟨es[j]'(by rw[run.len,hsz];exact hj),by simp⟩;rcases pairLt j ops[j] f h3 (by simp [hj]) hf with h4|h4
      ·rw[hjp] at h4;cases h4
      ·have:=aAr h4.2.2 id hm;omega
     ·omega
    have hg:=k.gho id hnot;have hb:=m.free j hj hjp id h1 h2;exact⟨hg.1.trans hb.1,fun n=>by rw[hg.2];exact hb.2 n⟩
   ·have hnot:id∉pU e.upd:=fun hm=>by have:=P1 st.ids hm;omega
    have hg:=k.gho id hnot;have hb:=m.top id hid;exact⟨hg.1.trans hb.1,fun n=>by rw[hg.2];exact hb.2 n⟩)
  unfold wpOpIn;rw[ho];simp only[aSQ] at key⊢;split at key
  ·rename_i hw;rw[if_pos hw];exact a96 (a95 hev) key
  ·rename_i hw;rw[if_neg hw];exact⟨fun _ _=>trivial,key⟩
theorem aJl {ro:Option Nat}(hm:P.follows .mixedOrders=true) {id:Nat}{ops:Array Oper}{s:St}{y:vU}{a:Act}{w:World}{g:Gh}(h:vV T Γ ops.toList ops.toList (some ⟨s,[],[]⟩)=some y) (hchk:DR ops s.nb y.es.reverse=true) (hs: ∀p∈y.side,p) (hr:uO B g w s a) (hg:sR A L g0 w0 g w s.H) (hn:L.length=s.np)
  (hQ: ∀g' a' w',uO B g' w' y.s a'->sR A L g0 w0 g' w' y.s.H->Q .normal a' w'):(Code.region id ops true).wpIn (DX ro) 0 P Q a w:=by
 obtain⟨es,h1,run⟩:=aAo h hs;have hes:y.es.reverse=es:=by rw[h1];simp
 simp only at run;rw[hes] at hchk;have hsd:=JD h;have hrep: ∀j,(Array.replicate ops.size false).getD j false=false:=by
  intro j;rw[aRQ,Array.getElem?_replicate];split<;>rfl
 have none: ∀{α:Type}(wr:Nat->Option α) (b:α) n,vA (fun j=>(Array.replicate ops.size false).getD j false) wr b n=b:=by
  intro α wr b n
  induction n with
  |zero=>rfl
  |succ n ih=>simp only[vA];rw[if_neg (by rw[hrep];simp)];exact ih
 have hsz:ops.toList.length=ops.size:=aRP;refine wpIn_region_any hm (aJk hT hΓ run hs hchk (fun g' a' w' env H he hl hh hgt hz hd hgd htop=> ?_) _ _ g _ a s.env s.H ?_ ⟨by simp,fun j o ho hj=> ?_,fun t=>AC (aAz g w _) (hr.env t),fun t=> ?_,hr.heap.drawn _,fun id=> ?_,hr.size,hr.def_.same (fun _ h=>h),hg.drawn _,hn,fun j _ _ id h1 _=>hr.nb id (by omega),fun id h1=>hr.nb id (by omega)⟩)
 ·refine hQ g' a' w' ⟨fun t=>by rw[<-hl t];exact he t,hh.ext (fun i=>(hgt i).symm),by rw[hsd.2.1];exact hz,fun i hi=>htop i ?_,hd,?_⟩ (hgd.ext (fun i=>(hgt i).symm))
  ·rw[run.nb,hsz] at hi;exact hi
  ·rw[hsd.2.2,run.nb];exact aSe hr.np (Nat.le_add_right _ _)
 ·have: ∀n (l:Array Bool),C1 l n<=n:=by
   intro n l
   induction n with
   |zero=>exact Nat.le_refl _
   |succ n ih=>simp only[C1];split<;>omega
  exact this _ _
 ·simp only[hrep] at hj;cases hj
 ·rw[none]
 ·exact(none _ _ _).symm
end
theorem ZV: ∀{l:List Prop},rC l->∀p∈l,p
 |[p],h,q,hq=>by simp only[aRr] at hq;subst hq;exact h
 |p::q::r,h,x,hx=>by
  rcases aRv.1 hx with rfl|hx
  ·exact h.1
  ·exact ZV h.2 x hx
theorem aAB {p:Nat->Prop}(h: ∃n,p n): ∃n,p n/\∀m,p m->n<=m:=by
 obtain⟨n,hn⟩:=h
 induction n using Nat.strongRecOn with
 |_ n ih=>
  by_cases hs: ∃m,m<n/\p m
  ·obtain⟨m,hm,hp⟩:=hs;exact ih m hm hp
  ·exact⟨n,hn,fun m hm=>Nat.le_of_not_lt fun hlt=>hs ⟨m,hlt,hm⟩⟩
noncomputable def P2 (p:Nat->Prop):Nat:=open Classical in if h: ∃n,p n then(aAB h).choose else 0
theorem TS {p:Nat->Prop}(h: ∃n,p n):p (P2 p)/\∀m,p m->P2 p<=m:=by
 unfold P2;rw[aTt h];exact(aAB h).choose_spec
def DY:Exit->Option Ex
 | .normal=>some .normal
 | .exit id=>some (.exit id)
 | .ret=>some .ret
 |_=>none
def aAC (B:Nat) (A:Nat->Nat->Prop) (L:List pQ) (g0:Gh) (w0:World) (Q:Ex->St->Prop) (x:Exit) (a:Act) (w:World):Prop:=
 ∃e g s,DY x=some e/\Q e s/\uO B g w s a/\sR A L g0 w0 g w s.H/\s.np=L.length
section
variable {B:Nat}{P:Program}{T:sG}{Γ:tW}(hT:wY P T) (hΓ:CX P Γ) (hm:P.follows .mixedOrders=true) {A:Nat->Nat->Prop}{L:List pQ}{g0:Gh}{w0:World}
include hT hΓ hm
theorem FG {ro:Option Nat}: ∀(c:Code) (s:St) (Q:Ex->St->Prop) (g:Gh) (a:Act) (w:World),vW T Γ c s Q->uO B g w s a->sR A L g0 w0 g w s.H->s.np=L.length->c.wpIn (DX ro) 0 P (aAC B A L g0 w0 Q) a w
 | .skip,s,Q,g,a,w,h,hr,hg,hn=>by
  unfold vW at h;exact wpIn_skip ⟨.normal,g,s,rfl,h,hr,hg,hn⟩
 | .label l,s,Q,g,a,w,h,hr,hg,hn=>by
  unfold vW at h;exact wpIn_label ⟨.normal,g,s,rfl,h,hr,hg,hn⟩
 | .exit id,s,Q,g,a,w,h,hr,hg,hn=>by
  unfold vW at h;exact wpIn_exit ⟨.exit id,g,s,rfl,h,hr,hg,hn⟩
 | .ret,s,Q,g,a,w,h,hr,hg,hn=>by
  unfold vW at h;exact wpIn_ret ⟨.ret,g,s,rfl,h,hr,hg,hn⟩
 | .region id ops draw,s,Q,g,a,w,h,hr,hg,hn=>by
  unfold vW at h;cases draw with
  |false=>
   simp only[OA] at h;cases hy:vV T Γ ops.toList ops.toList (some ⟨s,[],[]⟩) with
   |none=>rw[hy] at h;cases h
   |some y=>
    rw[hy] at h;refine aI6 hT hΓ hy (ZV h.1) hr hg hn.symm (fun g' a' w' hr' hg'=>⟨.normal,g',y.s,rfl,h.2,hr',hg',(JD hy).2.2.trans hn⟩)
  |true=>
   simp only[OA] at h;cases hy:vV T Γ ops.toList ops.toList (some ⟨s,[],[]⟩) with
   |none=>rw[hy] at h;cases h
   |some y=>
    rw[hy] at h;simp only[a8v] at h;by_cases hc:DR ops s.nb y.es.reverse=true
    ·rw[if_pos hc] at h;refine aJl hT hΓ hm hy hc (ZV h.1) hr hg hn.symm (fun g' a' w' hr' hg'=>⟨.normal,g',y.s,rfl,h.2,hr',hg',(JD hy).2.2.trans hn⟩)
    ·rw[if_neg hc] at h;cases h
 | .seq x y,s,Q,g,a,w,h,hr,hg,hn=>by
  unfold vW at h;refine wpIn_seq (aS8 (FG x s _ g a w h hr hg hn) fun e a' w' hp=> ?_);obtain⟨e',g',s',h1,h2,h3,h4,h5⟩:=hp;cases e<;>simp only[DY,aRg] at h1
  case normal=>subst h1;exact FG y s' Q g' a' w' h2 h3 h4 h5
  case exit id=>subst h1;exact⟨.exit id,g',s',rfl,h2,h3,h4,h5⟩
  case ret=>subst h1;exact⟨.ret,g',s',rfl,h2,h3,h4,h5⟩
  all_goals cases h1
 | .cond c x y,s,Q,g,a,w,h,hr,hg,hn=>by
  unfold vW at h;have hc:=zG hr.env c;generalize tH s.env c=sc at h hc;unfold a8C at h;split at h
  ·exact wpIn_cond_split (wZ hc.1) (fun ht=>FG x s Q g a w (h.1 ht) hr hg hn) (fun ht=>FG y s Q g a w (h.2 ht) hr hg hn)
  ·obtain⟨b,hb,hp,hq⟩:=hc.1;exact wpIn_cond_split hb (fun ht=>FG x s Q g a w (h.1 (hp ht)) hr hg hn) (fun ht=>FG y s Q g a w (h.2 (hq ht)) hr hg hn)
  ·cases h
 | .block id c,s,Q,g,a,w,h,hr,hg,hn=>by
  unfold vW at h;refine wpIn_block (aS8 (FG c s _ g a w h hr hg hn) fun e a' w' hp=> ?_);obtain⟨e',g',s',h1,h2,h3,h4,h5⟩:=hp;cases e<;>simp only[DY,aRg] at h1
  case normal=>subst h1;exact⟨.normal,g',s',rfl,h2,h3,h4,h5⟩
  case exit j=>
   subst h1;simp only[J4] at h2;simp only[Exit.inBlock];split
   ·rename_i hj;rw[if_pos hj] at h2;exact⟨.normal,g',s',rfl,h2,h3,h4,h5⟩
   ·rename_i hj;rw[if_neg hj] at h2;exact⟨.exit j,g',s',rfl,h2,h3,h4,h5⟩
  case ret=>subst h1;exact⟨.ret,g',s',rfl,h2,h3,h4,h5⟩
  all_goals cases h1
 | .loop c,s,Q,g,a,w,h,hr,hg,hn=>by
  unfold vW at h;obtain⟨k,I,μ,h0,hround⟩:=h;obtain⟨g1,k1,k2,k3,_⟩:=FE hr hg hn k
  let R:Act->World->Nat->Prop:=fun a w n=> ∃g s,I s/\μ s=n/\uO B g w s a/\sR A L g0 w0 g w s.H/\s.np=L.length
  refine wpIn_loop (fun a w=> ∃n,R a w n) (fun a w=>P2 (R a w)) ⟨_,g1,s.keep k,h0,rfl,k1,k2,k3⟩ (fun a w hI=> ?_);obtain⟨⟨g2,s2,i1,i2,i3,i4,i5⟩,_⟩:=TS hI;refine aS8 (FG c s2 _ g2 a w (hround s2 i1) i3 i4 i5) fun e a' w' hp=> ?_;obtain⟨e',g',s',h1,h2,h3,h4,h5⟩:=hp;cases e<;>simp only[DY,aRg] at h1
  case normal=>
   subst h1;obtain⟨k',j1,j2⟩:=h2;obtain⟨g3,l1,l2,l3,_⟩:=FE h3 h4 h5 k';have hR:R a' w' (μ (s'.keep k')):=⟨g3,s'.keep k',j1,rfl,l1,l2,l3⟩;refine⟨⟨_,hR⟩,Nat.lt_of_le_of_lt ((TS ⟨_,hR⟩).2 _ hR) (by rw[<-i2];exact j2)⟩
  case exit id=>subst h1;exact⟨.exit id,g',s',rfl,h2,h3,h4,h5⟩
  case ret=>subst h1;exact⟨.ret,g',s',rfl,h2,h3,h4,h5⟩
  all_goals cases h1
 | .rangeFunc _ _ _ _,_,_,_,_,_,h,_,_,_=>by unfold vW at h;cases h
 | .scope _,_,_,_,_,_,h,_,_,_=>by unfold vW at h;cases h
 | .goto _,_,_,_,_,_,h,_,_,_=>by unfold vW at h;cases h
 | .refuse _,_,_,_,_,_,h,_,_,_=>by unfold vW at h;cases h
end
section
variable {f:St->Prop}{Q:Ex->St->Prop}{s:St}{id j:Nat}{I:St->Prop}{μ:St->Nat}{m:Nat}
theorem pZ (h:f s):OD f Q .normal s:=h
theorem uE (h:Q (.exit j) s):OD f Q (.exit j) s:=h
theorem qI (h:Q .ret s):OD f Q .ret s:=h
theorem rT (h:Q .normal s):J4 id Q .normal s:=h
theorem uF (h:Q .normal s):J4 id Q (.exit id) s:=by show (if id=id then Q .normal s else Q (.exit id) s);rw[if_pos rfl];exact h
theorem qW (h:Q .ret s):J4 id Q .ret s:=h
end
@[go_sem] def rG:Nat->List pR->List (Nat×pR)
 |_,[]=>[]
 |c,s::r=>(c,s)::rG (c+1) r
@[go_sem] def vB:Nat->List pQ->List (Nat×Nat)
 |_,[]=>[]
 |c,_::L=>(c,c)::vB (c+1) L
@[go_sem] def P3 (m:List (Nat×Nat)):List pR->Prop
 |[]=>True
 |s::r=>z7 m s=s/\P3 m r
@[go_sem] def P4 (m:List (Nat×Nat)):List pQ->Prop
 |[]=>True
 | .dead::_=>False
 |b::r=>H5 m (some b)=b/\P4 m r
def rI:List pQ->Prop
 |[]=>True
 | .row _ _ l n::r=>n=List.length l/\rI r
 |_::r=>rI r
theorem aAD {g:Gh}{w:World}: ∀{L:List pQ},(∀(i:Nat) b,L[i]? =some b->∃j,zA g w j b)->rI L
 |[],_=>trivial
 |b::L,h=>by
  have h1:=aAD (L:=L) fun i b' hb=>h (i+1) b' (by simpa using hb);obtain⟨j,h0⟩:=h 0 b rfl;cases b with
  |row e t l n=>exact⟨h0.1.symm,h1⟩
  |_=>exact h1
def ZW:List Value->Value
 |[v]=>v
 |l=> .tuple l.toArray
@[go_sem] def aAE (env:List (Nat×pR)):List Nat->List pR
 |[]=>[]
 |t::r=>lk env t::aAE env r
attribute [go_sem] qE
@[go_sem] def aAF:pR->Int
 |(.val (.int _) n,_)=>n
 |_=>0
@[go_sem] def Fin (ts:List Nat) (r:pX):Ex->St->Prop
 | .exit _,_=>False
 |_,s=> ∃k:vK,(s.keep k).H=qE 0 r.H/\aAE (s.keep k).env ts=r.ret
theorem aAG: ∀(l:List pR) (c t:Nat),lk (rG c l) t=if c<=t then(l[t-c]?).getD (.any,none) else(.any,none)
 |[],c,t=>by simp [rG,lk]
 |s::l,c,t=>by
  simp only[rG,lk];by_cases h:c=t
  ·subst h;simp
  ·rw[if_neg h,aAG l (c+1) t];by_cases h2:c<=t
   ·rw[if_pos h2,if_pos (by omega)];obtain⟨d,hd⟩: ∃d,t-c=d+1:=⟨t-c-1,by omega⟩;rw[hd,aR3,show t- (c+1)=d by omega]
   ·rw[if_neg h2,if_neg (by omega)]
theorem LT: ∀{L:List pQ}{c i j:Nat},(i,j)∈vB c L↔i=j/\c<=i/\i<c+L.length
 |[],c,i,j=>by simp only[vB,aTg,aRs,false_iff];omega
 |b::L,c,i,j=>by
  simp only[vB,aRv,aRI,LT,aRj];omega
theorem TT: ∀{L:List pQ}{c:Nat},xE 0 (vB c L)=true
 |[],_=>rfl
 |b::L,c=>by
  simp only[vB,xE,aRm];refine⟨⟨by simp,?_⟩,TT⟩;have: ∀{m:List (Nat×Nat)},(∀i j,(i,j)∈m->i≠c/\j≠c)->LD c c m=false:=by
   intro m
   induction m with
   |nil=>intro _;rfl
   |cons q m ih=>
    intro h;obtain⟨i,j⟩:=q;have:=h i j (by simp);simp only[LD,ih (fun i j hm=>h i j (aRt _ hm)),decide_eq_false this.1,decide_eq_false this.2];rfl
  rw[this]
  ·rfl
  ·intro i j hm;obtain⟨rfl,h1,_⟩:=LT.1 hm;omega
theorem aAH {m:List (Nat×Nat)}: ∀{l:List pR},P3 m l->∀s∈l,z7 m s=s
 |x::l,h,s,hs=>by
  rcases aRv.1 hs with rfl|hs
  ·exact h.1
  ·exact aAH h.2 s hs
theorem JE {m:List (Nat×Nat)}: ∀{l:List pQ},P4 m l->∀b∈l,H5 m (some b)=b/\b≠.dead
 |x::l,h,b,hb=>by
  cases x with
  |dead=>exact h.elim
  |cells t y ts=>
   rcases aRv.1 hb with rfl|hb
   ·exact⟨h.1,fun h=>by cases h⟩
   ·exact JE h.2 b hb
  |row e t l n=>
   rcases aRv.1 hb with rfl|hb
   ·exact⟨h.1,fun h=>by cases h⟩
   ·exact JE h.2 b hb
  |map k v l=>
   rcases aRv.1 hb with rfl|hb
   ·exact⟨h.1,fun h=>by cases h⟩
   ·exact JE h.2 b hb
  |iter s n=>
   rcases aRv.1 hb with rfl|hb
   ·exact⟨h.1,fun h=>by cases h⟩
   ·exact JE h.2 b hb
  |grow e c n=>
   rcases aRv.1 hb with rfl|hb
   ·exact⟨h.1,fun h=>by cases h⟩
   ·exact JE h.2 b hb
theorem TU {g:Gh}{w:World}: ∀{ss:List pR}{vs:List Value},v8 g w ss vs->vs.length=ss.length/\∀(i:Nat) s,ss[i]? =some s->∃v,vs[i]? =some v/\qV g w s v
 |[],vs,h=>by rw[show vs=[] from h];exact⟨rfl,fun i s h=>by simp at h⟩
 |s::ss,vs,⟨v,vs',e,h1,h2⟩=>by
  subst e;obtain⟨h3,h4⟩:=TU h2;refine⟨by simp [h3],fun i s' hi=> ?_⟩;cases i with
  |zero=>simp only[aRM,aRg] at hi;subst hi;exact⟨v,rfl,h1⟩
  |succ i=>simp only[aR3] at hi⊢;exact h4 i s' hi
theorem TV: ∀(L:List pQ),qK L=L.length
 |[]=>rfl
 |_::L=>by simp only[qK,aRj,TV L]
theorem aJm {g:Gh}{w:World}{args:List pR}{vals:List Value}{L:List pQ}{N:Nat}(hH:rZ g w (qE 0 L)) (ha:v8 g w args vals) (hs:P3 (vB 0 L) args) (hb:P4 (vB 0 L) L) (hN:args.length<=N):
  uO w.heap.size (u6 g 0 (vB 0 L)) w ⟨rG 0 args,qE 0 L,qK L,N,qK L⟩ {tmps:=vals.toArray++Array.replicate (N-vals.toArray.size) undef,defers:=[]}/\
  (∀i blk,L[i]? =some blk->(u6 g 0 (vB 0 L)).J i=g.J i/\zA (u6 g 0 (vB 0 L)) w i blk/\∀b o,rP (u6 g 0 (vB 0 L)) i blk b o->rP g i blk b o):=by
 have hk:xE 0 (vB 0 L)=true:=TT;have hmem: ∀i blk,L[i]? =some blk->(i,i)∈vB 0 L:=fun i blk h=>LT.2 ⟨rfl,by omega,by have:=(aRu.1 h).1;omega⟩;have hblk: ∀i blk,L[i]? =some blk->zA (u6 g 0 (vB 0 L)) w i blk/\∀b o,rP (u6 g 0 (vB 0 L)) i blk b o->rP g i blk b o:=by
  intro i blk h;have hr:=(JE hb blk (List.mem_of_getElem? h)).1;have:=JC (g:=g) (w:=w) hk (hmem i blk h) (b:=some blk) (fun c hc=>by cases hc;exact hH.blk i blk (by rw[xM];exact h));rw[hr] at this;exact⟨this.1,fun b o ho=>by obtain⟨c,hc,hco⟩:=this.2 b o ho;cases hc;exact hco⟩
 obtain⟨hl,hv⟩:=TU ha;refine⟨⟨fun t=> ?_,⟨fun i b h=> ?_,fun i j bi bj b o hij h1 h2 o1 o2=> ?_,hH.sl,hH.tab.1,fun i blk b o hg ho=>hH.tab.2 i blk b o hg ((hblk i blk (by rw[<-xM];exact hg)).2 b o ho)⟩,?_,fun i hi=> ?_,a9V _ _,Nat.le_refl _⟩,fun i blk h=>⟨(zW hk (hmem i blk h)).1,hblk i blk h⟩⟩
 ·rw[aAG,if_pos (aSg _),Nat.sub_zero];cases ht:args[t]? with
  |none=>exact⟨trivial,trivial⟩
  |some s=>
   obtain⟨v,hv1,hv2⟩:=hv t s ht;have hlt:t<vals.length:=(aRu.1 hv1).1;have:(vals.toArray++Array.replicate (N-vals.toArray.size) undef).getD t undef=v:=by
    rw[aRQ,Array.getElem?_append_left (by simpa using hlt)];simp [hv1]
   simp only[aSO];rw[this];have:=TO hk hv2;rw[aAH hs s (List.mem_of_getElem? ht)] at this;exact this
 ·rw[xM] at h;exact(hblk i b h).1
 ·rw[xM] at h1 h2;exact hH.dis i j bi bj b o hij (by rw[xM];exact h1) (by rw[xM];exact h2) ((hblk i bi h1).2 b o o1) ((hblk j bj h2).2 b o o2)
 ·simp only[aTq,Array.size_replicate,aR8];omega
 ·have hold:yS (vB 0 L) i=none:=by
   cases ho:yS (vB 0 L) i with
   |none=>rfl
   |some o=>
    obtain⟨rfl,_,h2⟩:=LT.1 (ZH ho);have hi:qK L<=i:=hi;rw[TV] at hi;omega
  refine⟨?_,fun n=> ?_⟩
  ·show (if i<0 then g.J i else(yS (vB 0 L) i).bind g.J)=none;rw[if_neg (by omega),hold];rfl
  ·show (if i<0 then g.cur i n else(yS (vB 0 L) i).bind fun o=>g.cur o n)=none;rw[if_neg (by omega),hold];rfl
structure uL (B:Nat) (w w':World):Prop where
 os:w'.os=w.os
 tape:w'.tape=w.tape
 output:w'.output=w.output
 size:w.heap.size<=w'.heap.size
 blk: ∀b,b<w.heap.size->w'.heap[b]? =w.heap[b]? \/(B<=b/\NG<=b/\∃o o',w.heap[b]? =some o/\w'.heap[b]? =some o'/\FD o=true/\FD o'=true)
theorem aAI {w:World}{b:Nat}{ob:Obj}(hd:w.heap[b]? =some ob) (hm:FD ob=true) (o:Nat):w.frozen? ⟨b,o,none⟩=false:=by
 unfold World.frozen?;simp only[hd];cases ob<;>first|rfl|cases hm
theorem aJn {w:World}{b:Nat}{ob:Obj}(hd:w.heap[b]? =some ob) (hm:FD ob=true):w.shape? b=none:=by
 unfold World.shape?;simp only[hd];cases ob<;>first|rfl|cases hm
section
variable {B:Nat}{w w' w'':World}
theorem uL.refl (B:Nat) (w:World):uL B w w:=⟨rfl,rfl,rfl,Nat.le_refl _,fun _ _=> .inl rfl⟩
theorem uL.trans (h:uL B w w') (k:uL B w' w''):uL B w w'':=by
 refine⟨k.os.trans h.os,k.tape.trans h.tape,k.output.trans h.output,aSe h.size k.size,fun b hb=> ?_⟩;rcases k.blk b (aRX hb h.size) with k1|⟨k0,k1,o,o',k2,k3,k4,k5⟩
 ·rcases h.blk b hb with h1|⟨h0,h1,o,o',h2,h3,h4,h5⟩
  ·exact .inl (k1.trans h1)
  ·exact .inr ⟨h0,h1,o,o',h2,k1.trans h3,h4,h5⟩
 ·rcases h.blk b hb with h1|⟨h0,h1,p,p',h2,h3,h4,h5⟩
  ·exact .inr ⟨k0,k1,o,o',h1▸k2,k3,k4,k5⟩
  ·exact .inr ⟨h0,h1,p,o',h2,k3,h4,k5⟩
theorem uL.cell (t:uL B w w') {b:Nat}(hb:b<w.heap.size) (o:Nat):w'.cell? ⟨b,o,none⟩=w.cell? ⟨b,o,none⟩/\w'.frozen? ⟨b,o,none⟩=w.frozen? ⟨b,o,none⟩:=by
 rcases t.blk b hb with h|⟨_,_,o1,o2,h1,h2,m1,m2⟩
 ·exact⟨aRF h,by unfold World.frozen?;simp only[h]⟩
 ·exact⟨by rw[ZC h1 m1,ZC h2 m2],by rw[aAI h1 m1,aAI h2 m2]⟩
theorem uL.shape (t:uL B w w') {b:Nat}{s:TypeId×Nat}(h:w.shape? b=some s):w'.shape? b=some s:=by
 have hb:b<w.heap.size:=by
  unfold World.shape? at h;cases hx:w.heap[b]? with
  |none=>rw[hx] at h;cases h
  |some _=>exact(aRE.1 hx).1
 rcases t.blk b hb with k|⟨_,_,o1,o2,h1,h2,m1,m2⟩
 ·unfold World.shape? at h⊢;rw[k];exact h
 ·rw[aJn h1 m1] at h;cases h
theorem uL.le (t:uL B w w') {g:Gh}(hs: ∀b o,g.S b o->b<w.heap.size):Le g w g w':=⟨fun _ _ h=>h,fun b o h=>(t.cell (hs b o h) o).1,fun _ _ h=>h,fun _ _ _ h=>h⟩
theorem uL.heapOk (t:uL B w w') {g:Gh}{H:rO}(h:rZ g w H):rZ g w' H:=by
 have own: ∀{i blk b o},pT H i=some blk->rP g i blk b o->w'.heap[b]? =w.heap[b]? :=fun hg ho=>by
  rcases t.blk _ (OJ (h.blk _ _ hg) ho) with k|⟨_,_,o1,o2,h1,_,m1,_⟩
  ·exact k
  ·exact(TL (h.blk _ _ hg) ho h1 m1).elim
 refine⟨fun i blk hb=>J5 (h.blk i blk hb) (t.le h.sl) rfl rfl (fun b o ho=>t.cell (OJ (h.blk i blk hb) ho) o) (fun b ho=>own hb (ho 0)) (fun _ _ _ x=>x) (fun b o s _ x=>t.shape x),h.dis,fun b o x=>aRX (h.sl b o x) t.size,NT h.tab.1 t.size (fun b hb=> ?_),h.tab.2⟩;rcases t.blk b (aRX hb h.tab.1.1) with k|⟨_,k,_⟩
 ·exact k
 ·omega
theorem uO.turn {g:Gh}{s:St}{a:Act}{ds:List Deferred}(h:uO B g w s a) (t:uL B w w') (hd:yR B w' ds):uO B g w' s {a with defers:=ds}:=
 ⟨fun x=>AC (t.le h.heap.sl) (h.env x),t.heapOk h.heap,h.size,h.nb,hd,h.np⟩
theorem sR.turn {A:Nat->Nat->Prop}{L:List pQ}{g0 g:Gh}{w0:World}{H:rO}(h:sR A L g0 w0 g w H) (hs: ∀b o,g.S b o->b<w.heap.size) (t:uL w0.heap.size w w'):sR A L g0 w0 g w' H:=by
 refine⟨fun b o x=>⟨(h.shut b o x).1,(t.cell (hs b o (h.shut b o x).1) o).1.trans (h.shut b o x).2⟩,⟨t.os.trans h.fr.os,t.tape.trans h.fr.tape,t.output.trans h.fr.output,aSe h.fr.size t.size,fun b hb hA=> ?_,fun b o hb hA=> ?_,h.fr.new,fun b s x=> ?_⟩,h.perm,h.J,h.live,h.ty,h.cur⟩
 ·rcases t.blk b (aRX hb h.fr.size) with k|⟨k,_⟩
  ·exact k.trans (h.fr.blk b hb hA)
  ·omega
 ·have:=t.cell (aRX hb h.fr.size) o;have k:=h.fr.cell b o hb hA;exact⟨this.1.trans k.1,this.2.trans k.2⟩
 ·rcases h.fr.shape b s x with k|k
  ·exact .inl (t.shape k)
  ·exact .inr k
end
theorem aAJ {P:Program}{fn:Func}{R:Ending->World->Prop}{A:Nat->Nat->Prop}{L:List pQ}{g0 g:Gh}{w0:World}{s:St}{tmps:Array Value}: ∀(ds:List Deferred) (w:World),uO w0.heap.size g w s {tmps:=tmps,defers:=ds}->sR A L g0 w0 g w s.H->
  (∀w',uO w0.heap.size g w' s {tmps:=tmps,defers:=[]}->sR A L g0 w0 g w' s.H->∃v,(results fn tmps).run P w'= .ok v w'/\R (.returned v) w')->LeavesInM Fence.wide 0 P fn tmps R ds .returning w
 |[],w,hr,hg,h=>h w hr hg
 |d::ds,w,hr,hg,h=>by
  obtain⟨hnd,hall⟩:=hr.def_;obtain⟨D,rfl,h1,h2,h3⟩:=hall d aRB;have hlt:=(aRE.1 h3).1;have t:uL w0.heap.size w (w.putObj D (.deferred none)):=by
   refine⟨rfl,rfl,rfl,by simp [World.putObj],fun b hb=> ?_⟩;by_cases e:b=D
   ·subst e;exact .inr ⟨h1,h2,_,_,h3,World.putObj_heap_same hlt,rfl,rfl⟩
   ·exact .inl (World.putObj_heap_other e)
  have hd:yR w0.heap.size (w.putObj D (.deferred none)) ds:=by
   refine⟨(List.nodup_cons.1 hnd).2,fun d' hd'=> ?_⟩;obtain⟨D',rfl,k1,k2,k3⟩:=hall d' (aRt _ hd');refine⟨D',rfl,k1,k2,?_⟩;rw[World.putObj_heap_other (fun e:D'=D=>(List.nodup_cons.1 hnd).1 (by subst e;exact hd'))];exact k3
  exact⟨by simp,.inl ⟨D,_,rfl,run_takeDeferred h3,aAJ ds _ (hr.turn t hd) (hg.turn hr.heap.sl t) h⟩⟩
def Ev (R:Bool) (P:Program) (c:Code) (s:St) (Q:Ex->St->Prop):Prop:=
 ∀(ro:Option Nat),ro.isSome=R->
 ∀(A:Nat->Nat->Prop) (L:List pQ) (g0:Gh) (w0:World) (g:Gh) (a:Act) (w:World) (B:Nat),B<=w0.heap.size->uO B g w s a->sR A L g0 w0 g w s.H->s.np=L.length->c.wpIn (DX ro) 0 P (aAC B A L g0 w0 Q) a w
variable {R:Bool}
theorem aAK {P:Program}{T:sG}{Γ:tW}(hT:wY P T) (hΓ:CX P Γ) (hm:P.follows .mixedOrders=true) {c:Code}{s:St}{Q:Ex->St->Prop}(h:vW T Γ c s Q):Ev R P c s Q:=
 fun ro hro A L g0 w0 g a w B hB hr hg hn=>FG hT hΓ hm c s Q g a w h hr hg hn
structure qZ (P:Program) (T:sG) (Γ:tW):Prop where
 T:wY P T
 Γ:CX P Γ
 m:P.follows .mixedOrders=true
theorem aJo {P:Program}{c:Code}{s:St}{Q Q':Ex->St->Prop}(h:Ev R P c s Q') (hq: ∀e s,Q' e s->Q e s):Ev R P c s Q:=by
 intro ro hro A L g0 w0 g a w B hB hr hg hn;refine aS8 (h ro hro A L g0 w0 g a w B hB hr hg hn) fun x a' w' hp=> ?_;obtain⟨e,g',s',h1,h2,h3,h4,h5⟩:=hp;exact⟨e,g',s',h1,hq e s' h2,h3,h4,h5⟩
theorem aAL {P:Program}{c:Code}{s:St}{Q:Ex->St->Prop}(k:vK) (h:Ev R P c (s.keep k) Q):Ev R P c s Q:=by
 intro ro hro A L g0 w0 g a w B hB hr hg hn;obtain⟨g1,k1,k2,k3,_⟩:=FE hr hg hn k;exact h ro hro A L g0 w0 g1 a w B hB k1 k2 k3
section
variable {P:Program}{s:St}{Q:Ex->St->Prop}
theorem qJ (h:Q .normal s):Ev R P .skip s Q:=fun _ _ _ _ _ _ g _ _ _ _ hr hg hn=>wpIn_skip ⟨.normal,g,s,rfl,h,hr,hg,hn⟩
theorem uG {id:Nat}(h:Q (.exit id) s):Ev R P (.exit id) s Q:=fun _ _ _ _ _ _ g _ _ _ _ hr hg hn=>wpIn_exit ⟨.exit id,g,s,rfl,h,hr,hg,hn⟩
theorem pW (h:Q .ret s):Ev R P .ret s Q:=fun _ _ _ _ _ _ g _ _ _ _ hr hg hn=>wpIn_ret ⟨.ret,g,s,rfl,h,hr,hg,hn⟩
theorem q9 {x y:Code}(h:Ev R P x s (OD (fun s'=>Ev R P y s' Q) Q)):Ev R P (.seq x y) s Q:=by
 intro ro hro A L g0 w0 g a w B hB hr hg hn;refine wpIn_seq (aS8 (h ro hro A L g0 w0 g a w B hB hr hg hn) fun e a' w' hp=> ?_);obtain⟨e',g',s',h1,h2,h3,h4,h5⟩:=hp;cases e<;>simp only[DY,aRg] at h1
 case normal=>subst h1;exact h2 ro hro A L g0 w0 g' a' w' B hB h3 h4 h5
 case exit id=>subst h1;exact⟨.exit id,g',s',rfl,h2,h3,h4,h5⟩
 case ret=>subst h1;exact⟨.ret,g',s',rfl,h2,h3,h4,h5⟩
 all_goals cases h1
theorem aJp {c:Operand}{x y:Code}{b:Bool}{k:Option Nat}(h:tH s.env c=(.val .bool b,k)) (ht:b=true->Ev R P x s Q) (hf:b=false->Ev R P y s Q):Ev R P (.cond c x y) s Q:=by
 intro ro hro A L g0 w0 g a w B hB hr hg hn;have hc:=zG hr.env c;rw[h] at hc;exact wpIn_cond_split (wZ hc.1) (fun e=>ht e ro hro A L g0 w0 g a w B hB hr hg hn) (fun e=>hf e ro hro A L g0 w0 g a w B hB hr hg hn)
theorem aJq {c:Operand}{x y:Code}{p q:Prop}{k:Option Nat}(h:tH s.env c=(.flag p q,k)) (ht:p->Ev R P x s Q) (hf:q->Ev R P y s Q):Ev R P (.cond c x y) s Q:=by
 intro ro hro A L g0 w0 g a w B hB hr hg hn;have hc:=zG hr.env c;rw[h] at hc;obtain⟨b,hb,hp,hq⟩:=hc.1;exact wpIn_cond_split hb (fun e=>ht (hp e) ro hro A L g0 w0 g a w B hB hr hg hn) (fun e=>hf (hq e) ro hro A L g0 w0 g a w B hB hr hg hn)
theorem rQ {id:Nat}{c:Code}(h:Ev R P c s (J4 id Q)):Ev R P (.block id c) s Q:=by
 intro ro hro A L g0 w0 g a w B hB hr hg hn;refine wpIn_block (aS8 (h ro hro A L g0 w0 g a w B hB hr hg hn) fun e a' w' hp=> ?_);obtain⟨e',g',s',h1,h2,h3,h4,h5⟩:=hp;cases e<;>simp only[DY,aRg] at h1
 case normal=>subst h1;exact⟨.normal,g',s',rfl,h2,h3,h4,h5⟩
 case exit j=>
  subst h1;simp only[J4] at h2;simp only[Exit.inBlock];split
  ·rename_i hj;rw[if_pos hj] at h2;exact⟨.normal,g',s',rfl,h2,h3,h4,h5⟩
  ·rename_i hj;rw[if_neg hj] at h2;exact⟨.exit j,g',s',rfl,h2,h3,h4,h5⟩
 case ret=>subst h1;exact⟨.ret,g',s',rfl,h2,h3,h4,h5⟩
 all_goals cases h1
end
@[go_sem] def TW (k:Nat) (t:Ty) (l:List t.den):pR->pR
 |(.own j m,x)=>if j=k then(.val (.list t) l,some k) else(.own j m,x)
 |s=>s
@[go_sem] def HB (k:Nat) (t:Ty) (l:List t.den):List (Nat×pR)->List (Nat×pR)
 |[]=>[]
 |(i,s)::r=>(i,TW k t l s)::HB k t l r
@[go_sem] def aAM (k n:Nat):pR->Prop
 |(.own j m,_)=>j=k->m=n
 |_=>True
@[go_sem] def P5 (k n:Nat):List (Nat×pR)->Prop
 |[]=>True
 |(_,s)::r=>aAM k n s/\P5 k n r
theorem ZX {k:Nat}{t:Ty}{l:List t.den}: ∀{env:List (Nat×pR)}{i:Nat},lk (HB k t l env) i=TW k t l (lk env i)
 |[],i=>rfl
 |(j,s)::r,i=>by
  simp only[HB,lk];split
  ·rfl
  ·exact ZX
theorem ZY {k n:Nat}: ∀{env:List (Nat×pR)}{i:Nat},P5 k n env->aAM k n (lk env i)
 |[],i,_=>trivial
 |(j,s)::r,i,⟨h1,h2⟩=>by
  simp only[lk];split
  ·exact h1
  ·exact ZY h2
theorem ZZ {P:Program}{c:Code}{s:St}{Q:Ex->St->Prop}(k:Nat) {e:TypeId}{t:Ty}{l:List t.den}{n:Nat}(hk:pT s.H k=some (.row e t l n)) (hok:P5 k n s.env)
  (h:Ev R P c ⟨HB k t l s.env,(k,.grow e t.cells (List.length l))::s.H,s.nb,s.N,s.np⟩ Q):Ev R P c s Q:=by
 intro ro hro A L g0 w0 g a w B hB hr hg hn;obtain⟨hl,v,xs,hv,hown,hF,hnone,hseal⟩:=hr.heap.blk k _ hk
 let g':Gh:={g with S:=fun b o=>g.S b o\/(v.ownBlock=some b/\o<n*t.cells)}
 have le:Le g w g' w:=⟨fun _ _ h=> .inl h,fun _ _ _=>rfl,fun _ _ h=>h,fun _ _ _ h=>h⟩;have hown2: ∀b,v.ownBlock=some b->∀o,rP g k (.row e t l n) b o:=fun b hb o=>⟨v,hv,hb⟩;have hlist: ∀u,g.cur k n=some u->((u= .slice none 0 0/\n=0)\/∃b cap,u= .slice (some ⟨b,0,none⟩) n cap/\n<=cap)->sO g' w (.list t) l u:=by
  intro u hu hshape;rw[hv] at hu;obtain rfl:=aRl hu;rcases hshape with⟨rfl,h0⟩ |⟨b,cap,rfl,hcap⟩
  ·have:l=[]:=aRJ (by rw[hl,h0]);subst this;exact .inr ⟨rfl,none,0,rfl,Nat.le_refl _,.inl rfl⟩
  ·refine .inr ⟨rfl,some ⟨b,0,none⟩,cap,by rw[hl],by rw[hl];exact hcap,.inr ⟨b,0,rfl,J8 (BD (fun _ _ h=>vZ le h) hF) (fun j u hu=> ?_) (fun j hj=> ?_)⟩⟩
   ·have:=hown.cells (g:=b) rfl j u hu;rwa [aSD] at this
   ·right;exact⟨rfl,by rw[hl] at hj;omega⟩
 have hget: ∀i b,pT ((k,pQ.grow e t.cells (List.length l))::s.H) i=some b->(i=k/\b= .grow e t.cells (List.length l))\/(i≠k/\pT s.H i=some b):=by
  intro i b hb;simp only[pT] at hb;split at hb
  ·rename_i e1;exact .inl ⟨e1.symm,(aRl hb).symm⟩
  ·rename_i e1;exact .inr ⟨Ne.symm e1,hb⟩
 have howns: ∀i b bb o,pT ((k,pQ.grow e t.cells (List.length l))::s.H) i=some b->rP g' i b bb o->∃b0,pT s.H i=some b0/\rP g i b0 bb o:=by
  intro i b bb o hb ho;rcases hget i b hb with⟨rfl,rfl⟩ |⟨_,h1⟩
  ·obtain⟨u,hu,hub⟩:=ho;have hu':g.cur i (List.length l)=some u:=hu;rw[hl] at hu';exact⟨_,hk,u,hu',hub⟩
  ·exact⟨b,h1,(y8 (g':=g') (g:=g) rfl rfl).1 ho⟩
 have hrel:uO B g' w ⟨HB k t l s.env,(k,.grow e t.cells (List.length l))::s.H,s.nb,s.N,s.np⟩ a:=by
  refine⟨fun i=> ?_,⟨fun i b hb=> ?_,fun i j bi bj b o hij h1 h2 o1 o2=> ?_,fun b o hS=> ?_,hr.heap.tab.1,fun i b bb oo hb ho=>by
   obtain⟨c1,k1,k2⟩:=howns i b bb oo hb ho;exact hr.heap.tab.2 i c1 bb oo k1 k2⟩,hr.size,hr.nb,hr.def_,hr.np⟩
  ·rw[ZX];have h1:=hr.env i;have h2:=ZY (i:=i) hok;generalize lk s.env i=sl at h1 h2;obtain⟨d,x⟩:=sl;cases d with
   |own j m=>
    simp only[TW];split
    ·rename_i hj;subst hj;have hm:m=n:=h2 rfl;subst hm;refine⟨hlist _ h1.1.1 h1.1.2,?_⟩;show g'.cur j (List.length l)=_;rw[hl];exact h1.1.1
    ·exact AC le h1
   |_=>exact AC le h1
  ·rcases hget i b hb with⟨rfl,rfl⟩ |⟨hne,h1⟩
   ·refine⟨v,xs,by rw[hl];exact hv,by rw[hl];exact hown,fun m hm=>hnone m (by rw[hl] at hm;exact hm),fun b hb o hS=> ?_⟩;rw[hl];rcases hS with hS|hS
    ·exact absurd hS (hseal b hb o)
    ·exact hS.2
   ·exact J5 (hr.heap.blk i b h1) le rfl rfl (fun _ _ _=>⟨rfl,rfl⟩) (fun _ _=>rfl) (fun bb o ho hS=>by
     rcases hS with hS|hS
     ·exact hS
     ·exact absurd (hown2 bb hS.1 o) (fun h5=>hr.heap.dis i k b _ bb o hne h1 hk ho h5)) (fun _ _ _ _ h=>h)
  ·obtain⟨c1,k1,k2⟩:=howns i bi b o h1 o1;obtain⟨c2,k3,k4⟩:=howns j bj b o h2 o2;exact hr.heap.dis i j c1 c2 b o hij k1 k3 k2 k4
  ·rcases hS with hS|hS
   ·exact hr.heap.sl b o hS
   ·exact LG hown hS.1
 have hgood:sR A L g0 w0 g' w ((k,.grow e t.cells (List.length l))::s.H):=by
  refine⟨fun b o h0=>⟨.inl (hg.shut b o h0).1,(hg.shut b o h0).2⟩,⟨hg.fr.os,hg.fr.tape,hg.fr.output,hg.fr.size,hg.fr.blk,hg.fr.cell,fun b o hS=> ?_,hg.fr.shape⟩,fun i b bb o hb ho=> ?_,hg.J,hg.live,fun i u y us hi hb=> ?_,hg.cur⟩
  ·rcases hS with hS|hS
   ·exact hg.fr.new b o hS
   ·exact .inr (hg.perm k _ b o hk (hown2 b hS.1 o))
  ·obtain⟨c1,k1,k2⟩:=howns i b bb o hb ho;exact hg.perm i c1 bb o k1 k2
  ·rcases hget i _ hb with⟨_,h1⟩ |⟨_,h1⟩
   ·cases h1
   ·exact hg.ty i u y us hi h1
 exact h ro hro A L g0 w0 g' a w B hB hrel hgood hn
theorem aJr {P:Program}{c:Code}{s:St}{Q:Ex->St->Prop}(k i:Nat) {e:TypeId}{t:Ty}{l:List t.den}{n:Nat}(hk:pT s.H k=some (.row e t l n)) {u:Ty}{x:u.den}{toks:List (Nat×Nat)}(hi:pT s.H i=some (.cells u x toks)) (hnp:s.np<=i)
  (hok:P5 k n s.env) (hxo:O6 k n u x)
  (h:Ev R P c ⟨HB k t l s.env,(i,.cells (zT k t l u x).1 (zT k t l u x).2 [])::(k,.grow e t.cells (List.length l))::s.H,s.nb,s.N,s.np⟩ Q):Ev R P c s Q:=by
 intro ro hro A L g0 w0 g a w B hB hr hg hn;obtain⟨hl,v,xs,hv,hown,hF,hnone,hseal⟩:=hr.heap.blk k _ hk
 let g':Gh:={g with S:=fun b o=>g.S b o\/(v.ownBlock=some b/\o<n*t.cells)}
 have le:Le g w g' w:=⟨fun _ _ h=> .inl h,fun _ _ _=>rfl,fun _ _ h=>h,fun _ _ _ h=>h⟩;have hown2: ∀b,v.ownBlock=some b->∀o,rP g k (.row e t l n) b o:=fun b hb o=>⟨v,hv,hb⟩;have hlist: ∀u,g.cur k n=some u->((u= .slice none 0 0/\n=0)\/∃b cap,u= .slice (some ⟨b,0,none⟩) n cap/\n<=cap)->sO g' w (.list t) l u:=by
  intro u hu hshape;rw[hv] at hu;obtain rfl:=aRl hu;rcases hshape with⟨rfl,h0⟩ |⟨b,cap,rfl,hcap⟩
  ·have:l=[]:=aRJ (by rw[hl,h0]);subst this;exact .inr ⟨rfl,none,0,rfl,Nat.le_refl _,.inl rfl⟩
  ·refine .inr ⟨rfl,some ⟨b,0,none⟩,cap,by rw[hl],by rw[hl];exact hcap,.inr ⟨b,0,rfl,J8 (BD (fun _ _ h=>vZ le h) hF) (fun j u hu=> ?_) (fun j hj=> ?_)⟩⟩
   ·have:=hown.cells (g:=b) rfl j u hu;rwa [aSD] at this
   ·right;exact⟨rfl,by rw[hl] at hj;omega⟩
 have hik:i≠k:=fun e1=>by rw[e1,hk] at hi;cases hi
 obtain⟨p0,cs0,hp0,hR0,hra0,hth0,hns0,_⟩:=hr.heap.blk i _ hi
 let b':pQ:= .cells (zT k t l u x).1 (zT k t l u x).2 []
 let H':rO:=(i,b')::(k,pQ.grow e t.cells (List.length l))::s.H
 have hget: ∀i' b,pT H' i'=some b->(i'=i/\b=b')\/(i'=k/\b= .grow e t.cells (List.length l))\/(i'≠k/\i'≠i/\pT s.H i'=some b):=by
  intro i' b hb;simp only[H',pT] at hb;split at hb
  ·rename_i e1;exact .inl ⟨e1.symm,(aRl hb).symm⟩
  ·rename_i e1;split at hb
   ·rename_i e2;exact .inr (.inl ⟨e2.symm,(aRl hb).symm⟩)
   ·rename_i e2;exact .inr (.inr ⟨Ne.symm e2,Ne.symm e1,hb⟩)
 have howns: ∀i' b bb o,pT H' i'=some b->rP g' i' b bb o->∃b0,pT s.H i'=some b0/\rP g i' b0 bb o:=by
  intro i' b bb o hb ho;rcases hget i' b hb with⟨rfl,rfl⟩ |⟨rfl,rfl⟩ |⟨_,_,h1⟩
  ·obtain⟨p,hp,e1,e2,e3⟩:=ho;rw[OO] at e3;exact⟨_,hi,p,hp,e1,e2,e3⟩
  ·obtain⟨u,hu,hub⟩:=ho;have hu':g.cur i' (List.length l)=some u:=hu;rw[hl] at hu';exact⟨_,hk,u,hu',hub⟩
  ·exact⟨b,h1,(y8 (g':=g') (g:=g) rfl rfl).1 ho⟩
 have hrel:uO B g' w ⟨HB k t l s.env,H',s.nb,s.N,s.np⟩ a:=by
  refine⟨fun j=> ?_,⟨fun i' b hb=> ?_,fun i' j bi bj b o hij h1 h2 o1 o2=> ?_,fun b o hS=> ?_,hr.heap.tab.1,fun i' b bb oo hb ho=>by
   obtain⟨c1,k1,k2⟩:=howns i' b bb oo hb ho;exact hr.heap.tab.2 i' c1 bb oo k1 k2⟩,hr.size,hr.nb,hr.def_,hr.np⟩
  ·rw[ZX];have h1:=hr.env j;have h2:=ZY (i:=j) hok;generalize lk s.env j=sl at h1 h2;obtain⟨d,x⟩:=sl;cases d with
   |own j m=>
    simp only[TW];split
    ·rename_i hj;subst hj;have hm:m=n:=h2 rfl;subst hm;refine⟨hlist _ h1.1.1 h1.1.2,?_⟩;show g'.cur j (List.length l)=_;rw[hl];exact h1.1.1
    ·exact AC le h1
   |_=>exact AC le h1
  ·rcases hget i' b hb with⟨rfl,rfl⟩ |⟨rfl,rfl⟩ |⟨hne,_,h1⟩
   ·have hk2: ∀cs,BY g' (some (k,n)) cs->Rd g' w (.list t) l cs:=by
     rintro cs ⟨v1,q1,q2,q3⟩;rw[q2];exact AD rfl (hlist v1 q1 q3)
    refine⟨p0,cs0,hp0,YL (n:=n) hk2 hxo (vZ le hR0),hra0,?_,?_,fun _ _ hm=>by cases hm⟩
    ·rw[OO];exact⟨hth0.1,hth0.2⟩
    ·rw[OO];intro j hj hS;rcases hS with hS|hS
     ·exact hns0 j hj hS
     ·exact hr.heap.dis i' k _ _ p0.1 (p0.2+j) hik hi hk ⟨p0,hp0,rfl,by omega,by omega⟩ (hown2 _ hS.1 _)
   ·refine⟨v,xs,by rw[hl];exact hv,by rw[hl];exact hown,fun m hm=>hnone m (by rw[hl] at hm;exact hm),fun b hb o hS=> ?_⟩;rw[hl];rcases hS with hS|hS
    ·exact absurd hS (hseal b hb o)
    ·exact hS.2
   ·exact J5 (hr.heap.blk i' b h1) le rfl rfl (fun _ _ _=>⟨rfl,rfl⟩) (fun _ _=>rfl) (fun bb o ho hS=>by
     rcases hS with hS|hS
     ·exact hS
     ·exact absurd (hown2 bb hS.1 o) (fun h5=>hr.heap.dis i' k b _ bb o hne h1 hk ho h5)) (fun _ _ _ _ h=>h)
  ·obtain⟨c1,k1,k2⟩:=howns i' bi b o h1 o1;obtain⟨c2,k3,k4⟩:=howns j bj b o h2 o2;exact hr.heap.dis i' j c1 c2 b o hij k1 k3 k2 k4
  ·rcases hS with hS|hS
   ·exact hr.heap.sl b o hS
   ·exact LG hown hS.1
 have hgood:sR A L g0 w0 g' w H':=by
  refine⟨fun b o h0=>⟨.inl (hg.shut b o h0).1,(hg.shut b o h0).2⟩,⟨hg.fr.os,hg.fr.tape,hg.fr.output,hg.fr.size,hg.fr.blk,hg.fr.cell,fun b o hS=> ?_,hg.fr.shape⟩,fun i' b bb o hb ho=> ?_,hg.J,hg.live,fun i' u' y us hi' hb=> ?_,hg.cur⟩
  ·rcases hS with hS|hS
   ·exact hg.fr.new b o hS
   ·exact .inr (hg.perm k _ b o hk (hown2 b hS.1 o))
  ·obtain⟨c1,k1,k2⟩:=howns i' b bb o hb ho;exact hg.perm i' c1 bb o k1 k2
  ·rcases hget i' _ hb with⟨rfl,_⟩ |⟨_,h1⟩ |⟨_,_,h1⟩
   ·omega
   ·cases h1
   ·exact hg.ty i' u' y us hi' h1
 exact h ro hro A L g0 w0 g' a w B hB hrel hgood hn
theorem aJs {P:Program}{c:Code}{s:St}{Q:Ex->St->Prop}(k i:Nat) {e:TypeId}{t:Ty}{l:List t.den}{n:Nat}(hk:pT s.H k=some (.row e t l n)) {u:Ty}{x:u.den}{toks:List (Nat×Nat)}(hi:pT s.H i=some (.cells u x toks)) (hnp:s.np<=i)
  (hok:P5 k n s.env) (hxo:O6 k n u x) {u':Ty}{y':u'.den}(hz:zT k t l u x=⟨u',y'⟩)
  (h:Ev R P c ⟨HB k t l s.env,(i,.cells u' y' [])::(k,.grow e t.cells (List.length l))::s.H,s.nb,s.N,s.np⟩ Q):Ev R P c s Q:=
 aJr k i hk hi hnp hok hxo (by rw[hz];exact h)
def iter {σ ρ:Type}(f:σ->Option (σ⊕ρ)):Nat->σ->Option ρ
 |0,_=>none
 |n+1,x=>match f x with
  |none=>none
  |some (.inl y)=>iter f n y
  |some (.inr r)=>some r
theorem aAN {σ ρ:Type}{f:σ->Option (σ⊕ρ)}{r:ρ}: ∀{n:Nat}{x:σ},iter f n x=some r->iter f (n+1) x=some r
 |0,_,h=>by cases h
 |n+1,x,h=>by
  unfold iter at h⊢;split
  ·rename_i e;rw[e] at h;cases h
  ·rename_i y e;rw[e] at h;exact aAN h
  ·rename_i r' e;rw[e] at h;exact h
theorem a0a {σ ρ:Type}{f:σ->Option (σ⊕ρ)}{r:ρ}{n:Nat}{x:σ}(h:iter f n x=some r): ∀m,iter f (n+m) x=some r
 |0=>h
 |m+1=>aAN (a0a h m)
theorem aAO {σ ρ:Type}{f:σ->Option (σ⊕ρ)}{r r':ρ}{n m:Nat}{x:σ}(h:iter f n x=some r) (h':iter f m x=some r'):r=r':=by
 have h1:=a0a h m;have h2:=a0a h' n;rw[Nat.add_comm] at h2;exact aRl (h1.symm.trans h2)
noncomputable def P6 {σ ρ:Type}(f:σ->Option (σ⊕ρ)) (x:σ):Option ρ:=open Classical in if h: ∃n r,iter f n x=some r then some (Classical.choose (aSX h)) else none
def aJt {ρ:Type}:Option ρ->Option ρ->Option ρ
 |some r,_=>some r
 |none,r=>r
noncomputable def qM {σ ρ:Type}(f:σ->Option (σ⊕ρ)) (x:σ):Option ρ:=aJt (iter f 2000 x) (P6 f x)
theorem aJu {σ ρ:Type}{f:σ->Option (σ⊕ρ)}{x:σ}{r:ρ}{n:Nat}(h:iter f n x=some r):P6 f x=some r:=by
 have hx: ∃n r,iter f n x=some r:=⟨n,r,h⟩;unfold P6;rw[aTt hx,aAO h (aSX (aSX hx))]
theorem a0b {σ ρ:Type}{f:σ->Option (σ⊕ρ)}{x:σ}{r:ρ}{n:Nat}(h:iter f n x=some r):qM f x=some r:=by
 unfold qM;cases hi:iter f 2000 x with
 |some r'=>rw[aAO h hi];rfl
 |none=>exact aJu h
theorem TX {σ ρ:Type}{f:σ->Option (σ⊕ρ)}{x:σ}{r:ρ}(h:qM f x=some r): ∃n,iter f n x=some r:=by
 unfold qM at h;cases hi:iter f 2000 x with
 |some r'=>
  rw[hi] at h;cases h;exact⟨_,hi⟩
 |none=>
  rw[hi] at h;have h:P6 f x=some r:=h;unfold P6 at h;split at h
  ·rename_i hx;have:=aSX (aSX hx);rw[aRl h] at this;exact⟨_,this⟩
  ·cases h
attribute [irreducible] qM
theorem BF {σ ρ:Type}{f:σ->Option (σ⊕ρ)}{x y:σ}(h:f x=some (.inl y)):qM f x=qM f y:=by
 cases hy:qM f y with
 |some r=>
  obtain⟨n,hn⟩:=TX hy;exact a0b (n:=n+1) (by unfold iter;rw[h];exact hn)
 |none=>
  cases hx:qM f x with
  |none=>rfl
  |some r=>
   obtain⟨n,hn⟩:=TX hx;cases n with
   |zero=>cases hn
   |succ n=>
    unfold iter at hn;rw[h] at hn;rw[a0b hn] at hy;cases hy
theorem uV {σ ρ:Type}{f:σ->Option (σ⊕ρ)}{x:σ}{r:ρ}(h:f x=some (.inr r)):qM f x=some r:=a0b (n:=1) (by unfold iter;rw[h])
def Nxt {σ ρ:Type}(f:σ->Option (σ⊕ρ)) (y:ρ) (n:Nat):σ⊕ρ->Prop
 | .inl x=>iter f n x=some y
 | .inr r=>r=y
def qL {σ ρ:Type}(enc:σ->St) (f:σ->Option (σ⊕ρ)) (y:ρ) (n:Nat) (Q:Ex->St->Prop):Ex->St->Prop
 | .normal,s=> ∃(k:vK) (x:σ),s.keep k=enc x/\iter f n x=some y
 | .exit j,s=>Q (.exit j) s
 | .ret,s=>Q .ret s
theorem aJw {P:Program}{c:Code}{s:St}{Q:Ex->St->Prop}(I:Nat->St->Prop) (h0: ∃(k:vK) (n:Nat),I n (s.keep k))
  (h: ∀n s,I n s->Ev R P c s (fun e s'=>match e with| .normal=> ∃(k:vK) (m:Nat),m<n/\I m (s'.keep k) |e=>Q e s')):Ev R P (.loop c) s Q:=by
 intro ro hro A L g0 w0 g a w B hB hr hg hn;obtain⟨k,n0,h0⟩:=h0;obtain⟨g1,k1,k2,k3,_⟩:=FE hr hg hn k
 let R:Act->World->Nat->Prop:=fun a w n=> ∃g s,I n s/\uO B g w s a/\sR A L g0 w0 g w s.H/\s.np=L.length
 refine wpIn_loop (fun a w=> ∃n,R a w n) (fun a w=>P2 (R a w)) ⟨_,g1,s.keep k,h0,k1,k2,k3⟩ (fun a w hI=> ?_);obtain⟨⟨g2,s2,i1,i3,i4,i5⟩,_⟩:=TS hI;refine aS8 (h _ s2 i1 ro hro A L g0 w0 g2 a w B hB i3 i4 i5) fun e a' w' hp=> ?_;obtain⟨e',g',s',h1,h2,h3,h4,h5⟩:=hp;cases e<;>simp only[DY,aRg] at h1
 case normal=>
  subst h1;obtain⟨k',m,j1,j2⟩:=h2;obtain⟨g3,l1,l2,l3,_⟩:=FE h3 h4 h5 k';have hR:R a' w' m:=⟨g3,s'.keep k',j2,l1,l2,l3⟩;exact⟨⟨_,hR⟩,Nat.lt_of_le_of_lt ((TS ⟨_,hR⟩).2 _ hR) j1⟩
 case exit id=>subst h1;exact⟨.exit id,g',s',rfl,h2,h3,h4,h5⟩
 case ret=>subst h1;exact⟨.ret,g',s',rfl,h2,h3,h4,h5⟩
 all_goals cases h1
theorem uH {P:Program}{c:Code}{s:St}{Q:Ex->St->Prop}{σ ρ:Type}{f:σ->Option (σ⊕ρ)}{x0:σ}{y:ρ}(hy:qM f x0=some y) (enc:σ->St) (k:vK) (h0:s.keep k=enc x0)
  (round: ∀x w n,f x=some w->Nxt f y n w->Ev R P c (enc x) (qL enc f y n Q)):Ev R P (.loop c) s Q:=by
 obtain⟨n,hn⟩:=TX hy;refine aJw (fun n s=> ∃x,s=enc x/\iter f n x=some y) ⟨k,n,x0,h0,hn⟩ fun n s ⟨x,e,hx⟩=> ?_;subst e;cases n with
 |zero=>cases hx
 |succ n=>
  unfold iter at hx;refine aJo (Q':=qL enc f y n Q) ?_ (fun e s' hq=> ?_)
  ·split at hx
   ·cases hx
   ·rename_i x' e;exact round x _ n e hx
   ·rename_i r e;exact round x _ n e (aRl hx)
  ·cases e with
   |normal=>obtain⟨k,x',h1,h2⟩:=hq;exact⟨k,n,by omega,x',h1,h2⟩
   |exit j=>exact hq
   |ret=>exact hq
def qX (j:Nat) (X:St->Prop) (Q:Ex->St->Prop):Ex->St->Prop
 | .normal,s=>Q .normal s
 | .exit i,s=>if i=j then∃k:vK,X (s.keep k) else Q (.exit i) s
 | .ret,s=>Q .ret s
theorem uI {P:Program}{c:Code}{s:St}{Q:Ex->St->Prop}(j:Nat) (X:St->Prop) (h:Ev R P c s (qX j X Q)) (J: ∀s',X s'->Q (.exit j) s'):Ev R P c s Q:=by
 intro ro hro A L g0 w0 g a w B hB hr hg hn;refine aS8 (h ro hro A L g0 w0 g a w B hB hr hg hn) fun x a' w' hp=> ?_;obtain⟨e,g',s',h1,h2,h3,h4,h5⟩:=hp;cases e with
 |normal=>exact⟨.normal,g',s',h1,h2,h3,h4,h5⟩
 |ret=>exact⟨.ret,g',s',h1,h2,h3,h4,h5⟩
 |exit i=>
  have h2:(if i=j then∃k:vK,X (s'.keep k) else Q (.exit i) s'):=h2;by_cases hij:i=j
  ·rw[if_pos hij] at h2;obtain⟨k,hk⟩:=h2;obtain⟨g1,k1,k2,k3,_⟩:=FE h3 h4 h5 k;exact⟨.exit i,g1,s'.keep k,h1,by rw[hij];exact J _ hk,k1,k2,k3⟩
  ·rw[if_neg hij] at h2;exact⟨.exit i,g',s',h1,h2,h3,h4,h5⟩
section
variable {Q:Ex->St->Prop}{s:St}{j i:Nat}{X:St->Prop}{σ ρ:Type}{enc:σ->St}{f:σ->Option (σ⊕ρ)}{y:ρ}{n:Nat}
theorem wA (h:Q .ret s):qX j X Q .ret s:=h
theorem uJ (h: ∃k:vK,X (s.keep k)):qX j X Q (.exit j) s:=by show (if j=j then _ else _);rw[if_pos rfl];exact h
theorem tE (h: ∃(k:vK) (x:σ),s.keep k=enc x/\iter f n x=some y):qL enc f y n Q .normal s:=h
theorem uK (h:Q (.exit j) s):qL enc f y n Q (.exit j) s:=h
theorem wB (h:Q .ret s):qL enc f y n Q .ret s:=h
end
def qN (X:St->Prop) (Q:Ex->St->Prop):Ex->St->Prop
 | .normal,s=> ∃k:vK,X (s.keep k)
 | .exit j,s=>Q (.exit j) s
 | .ret,s=>Q .ret s
theorem zX {P:Program}{c:Code}{s:St}{Q:Ex->St->Prop}(X:St->Prop) (h:Ev R P c s (qN X Q)) (J: ∀s',X s'->Q .normal s'):Ev R P c s Q:=by
 intro ro hro A L g0 w0 g a w B hB hr hg hn;refine aS8 (h ro hro A L g0 w0 g a w B hB hr hg hn) fun x a' w' hp=> ?_;obtain⟨e,g',s',h1,h2,h3,h4,h5⟩:=hp;cases e with
 |exit j=>exact⟨.exit j,g',s',h1,h2,h3,h4,h5⟩
 |ret=>exact⟨.ret,g',s',h1,h2,h3,h4,h5⟩
 |normal=>
  obtain⟨k,hk⟩:=h2;obtain⟨g1,k1,k2,k3,_⟩:=FE h3 h4 h5 k;exact⟨.normal,g1,s'.keep k,h1,J _ hk,k1,k2,k3⟩
section
variable {Q:Ex->St->Prop}{s:St}{j:Nat}{X:St->Prop}
theorem tK (h: ∃k:vK,X (s.keep k)):qN X Q .normal s:=h
theorem aAP (h:Q .ret s):qN X Q .ret s:=h
end
def val {ρ:Type}[Inhabited ρ] (x:Option ρ):ρ:=x.getD default
theorem C2 {ρ:Type}[Inhabited ρ] (x:ρ):val (some x)=x:=rfl
theorem rU {ρ:Type}[Inhabited ρ] {x:Option ρ}{y:ρ}(h:x=some y):val x=y:=by rw[h];rfl
theorem qT {ρ:Type}{x:Option ρ}{y:ρ}(h:x=some y):x.isSome=true:=by rw[h];rfl
theorem pV {ρ:Type}{c:Prop}[Decidable c] {x:Option ρ}{r:ρ}(h:(if c then x else none)=some r):c/\x=some r:=by
 by_cases hc:c
 ·rw[if_pos hc] at h;exact⟨hc,h⟩
 ·rw[if_neg hc] at h;cases h
theorem pS {σ ρ:Type}{x:Option σ}{k:σ->Option ρ}{r:ρ}(h:x.bind k=some r): ∃y,x=some y/\k y=some r:=by
 cases x with
 |none=>cases h
 |some y=>exact⟨y,rfl,h⟩
theorem aJx {ρ:Type}{b:Bool}{x y:ρ}{r:ρ}(h:(if b=true then x else y)=r) (hb:b=true):x=r:=by rw[if_pos hb] at h;exact h
theorem aJy {ρ:Type}{b:Bool}{x y:ρ}{r:ρ}(h:(if b=true then x else y)=r) (hb:b=false):y=r:=by rw[hb,if_neg (by decide)] at h;exact h
def sN {σ ρ:Type}(x:Option (σ⊕ρ)) (k:σ->Option ρ):Option ρ:=x.bind fun y=>match y with
 | .inl v=>k v
 | .inr r=>some r
theorem vC {σ ρ:Type}{x:Option (σ⊕ρ)}{k:σ->Option ρ}{r:ρ}(h:sN x k=some r): ∃y,x=some y/\(match y with| .inl v=>k v| .inr r=>some r)=some r:=pS h
def rL {σ ρ:Type}(x:Option σ) (k:σ->Option ρ):Option ρ:=x.bind k
def y3 {σ ρ:Type}(x:σ) (k:σ->ρ):ρ:=k x
theorem aJz {σ ρ:Type}{x:σ}{k:σ->ρ}{r:ρ}(h:y3 x k=r): ∃y,x=y/\k y=r:=⟨x,rfl,h⟩
theorem s3 {x:Bool}(h:x=true):(x==true)=true:=by rw[h];rfl
theorem LU {G x:Bool}(hG:G=true) (h:x=true):(G&&(x==true))=true:=by rw[hG,h];rfl
theorem HC {G x:Bool}(hG:G=true) (h:x=false):(G&&(x==false))=true:=by rw[hG,h];rfl
theorem uB {x:Bool}(h:x=false):(x==false)=true:=by rw[h];rfl
section
variable {P:Program}{T:sG}{Γ:tW}(E:qZ P T Γ) {s:St}{Q:Ex->St->Prop}
include E
theorem aAQ {id:Nat}{ops:Array Oper}{a:vU}(h:vV T Γ ops.toList ops.toList (some ⟨s,[],[]⟩)=some a) (hp:rC a.side) (hq:Q .normal a.s):Ev R P (.region id ops false) s Q:=
 aAK E.T E.Γ E.m (aHq h hp hq)
theorem aAR {id:Nat}{ops:Array Oper}{a:vU}(h:vV T Γ ops.toList ops.toList (some ⟨s,[],[]⟩)=some a) (hf:DR ops s.nb a.es.reverse=true) (hp:rC a.side) (hq:Q .normal a.s):Ev R P (.region id ops true) s Q:=
 aAK E.T E.Γ E.m (aHr h hf hp hq)
end
end Go.Proofs.YtbbpilohihldiaaGreatDoor.Vc
namespace Go.Proofs.YtbbpilohihldiaaGreatDoor.Vc
open Go.RowKit
variable {R:Bool}
attribute [go_sem] Option.map_some Option.map_none
@[go_sem] theorem aPI {H:List (Nat×pQ)}{ps:List PK}{b:List pR}{a:Option sM}:xB H ps ([]++b) a=xB H ps b a:=rfl
@[go_sem] theorem aPJ {H:List (Nat×pQ)}{ps:List PK}{x:pR}{l b:List pR}{a:Option sM}:xB H ps ((x::l)++b) a=xB H ps (x::(l++b)) a:=rfl
@[go_sem] def aAS:Option pR->Option (List pR)->Option (List pR)
 |some s,some l=>some (s::l)
 |_,_=>none
@[go_sem] def aAT:Option pY->Option pR
 |some e=>some e.slot
 |none=>none
@[go_sem] def TY (H:List (Nat×pQ)):Option TI->pR->Option pY
 |some ti,(.val .ref (some (i,off)),_)=>O4 ti.ty i off (pT H i)
 |_,_=>none
@[go_sem] def P7 (T:sG) (s:St) (m:List (Nat×Nat)):Nat×Option TypeId->Option pR
 |(t,none)=>some (z7 m (lk s.env t))
 |(t,some ty)=>(aAT (TY s.H (rF T ty) (lk s.env t))).map (z7 m)
@[go_sem] def HD (T:sG) (s:St) (m:List (Nat×Nat)):List (Nat×Option TypeId)->Option (List pR)
 |[]=>some []
 |q::r=>aAS (P7 T s m q) (HD T s m r)
def C3:Nat×Option TypeId->ResultVar
 |(t,none)=> .tmp t
 |(t,some ty)=> .cell t ty
@[go_sem] def CY:Nat->Nat->List (Nat×pQ)->List (Nat×pQ)
 |0,_,H=>H
 |n+1,i,[]=>(i,.dead)::CY n (i+1) []
 |n+1,i,(j,b)::H=>if j=i then(j,b)::CY n (i+1) H else(i,.dead)::CY n (i+1) ((j,b)::H)
theorem JF: ∀{n i:Nat}{H:List (Nat×pQ)}{k:Nat}{b:pQ},pT (CY n i H) k=some b->pT H k=some b\/b= .dead
 |0,_,_,_,_,h=> .inl h
 |n+1,i,[],k,b,h=>by
  simp only[CY,pT] at h;split at h
  ·exact .inr (aRl h).symm
  ·exact JF h
 |n+1,i,(j,c)::H,k,b,h=>by
  unfold CY at h;split at h
  ·simp only[pT] at h⊢;split at h
   ·rename_i e;rw[if_pos e];exact .inl h
   ·rename_i e;rw[if_neg e];exact JF h
  ·simp only[pT] at h;split at h
   ·exact .inr (aRl h).symm
   ·exact JF h
theorem rZ.pad {g:Gh}{w:World}{H:rO}(h:rZ g w H) (n i:Nat):rZ g w (CY n i H):=by
 have own: ∀{k blk b o},pT (CY n i H) k=some blk->rP g k blk b o->pT H k=some blk:=fun hg ho=>by
  rcases JF hg with h1|h1
  ·exact h1
  ·subst h1;exact ho.elim
 refine⟨fun k b hb=> ?_,fun i j bi bj b o hij h1 h2 o1 o2=>h.dis i j bi bj b o hij (own h1 o1) (own h2 o2) o1 o2,h.sl,h.tab.1,fun k blk b o h1 h2=>h.tab.2 k blk b o (own h1 h2) h2⟩;rcases JF hb with h1|h1
 ·exact h.blk k b h1
 ·subst h1;trivial
theorem sR.pad {A:Nat->Nat->Prop}{L:List pQ}{g0 g:Gh}{w0 w:World}{H:rO}(h:sR A L g0 w0 g w H) (n i:Nat):sR A L g0 w0 g w (CY n i H):=by
 refine⟨h.shut,h.fr,fun k blk b o hg ho=> ?_,h.J,h.live,fun k u y us hk hg=> ?_,h.cur⟩
 ·rcases JF hg with h1|h1
  ·exact h.perm k blk b o h1 ho
  ·subst h1;exact ho.elim
 ·rcases JF hg with h1|h1
  ·exact h.ty k u y us hk h1
  ·cases h1
def aAU (T:sG) (ts:List (Nat×Option TypeId)) (r:pX):Ex->St->Prop
 | .exit _,_=>False
 |_,s=> ∃m:List (Nat×Nat),xE s.np m=true/\CY (qK r.H) 0 (s.keep ⟨[],m⟩).H=qE 0 r.H/\HD T s m ts=some r.ret
section
variable {P:Program}{o:Oper}{a:Act}{g:Gh}{w:World}{H:rO}{T:sG}(hT:wY P T) (hH:rZ g w H)
include hT hH
theorem aJA {t:TypeId}{vx:Value}{sx:pR}(hx:qV g w sx vx) {e:pY}(hr:TY H (rF T t) sx=some e): ∃ad v,vx= .pointer (some ad)/\(loadVar t ad).run P w= .ok v w/\qV g w e.slot v:=by
 generalize hs:rF T t=ot at hr;replace hx:=hx.1;unfold TY at hr;split at hr
 ·rename_i ti i off k;have hty:=sP hT hs;generalize hb:pT H i=ob at hr;unfold O4 at hr;split at hr
  ·rename_i u z toks;generalize hga:qO ti.ty u z off=oy at hr;cases oy with
   |none=>cases hr
   |some y=>
    cases hr;obtain⟨p,hp,hv⟩:=yP hx;obtain⟨p',cs,hp',hR,hra,_,_,htk⟩:=hH.blk i _ hb;rw[hp] at hp';obtain rfl:=aRl hp';obtain⟨c1,c2,c3,rfl,rfl,hR2⟩:=CR hR hga;obtain⟨v,h1,h2,h3⟩:=OP hT hH hty (LI hT hH hra) hR2;refine⟨_,v,hv,by simpa[Instr.loadAt,Instr.sureAddr] using h1,h2,?_⟩;obtain⟨ty,el,by',ar,ls⟩:=ti;cases ty with
    |list u'=>
     simp only[F1];generalize htt:wV toks c1.length=ok;cases ok with
     |none=>trivial
     |some k=>
      obtain⟨u2,l,v',g1,g2,g3⟩:=htk _ _ (YN hT hH htt);obtain⟨heq,hl⟩:=a8W hT hH g1 hga rfl;injection heq with heq'
      subst heq';have hlen:=sH hR2;obtain⟨v2,rfl⟩:=aSH.1 hlen;have e2:v'=v2:=by
       have e:(c1++[v2]++c3)[c1.length]? =some v2:=by simp
       rw[e] at g2;exact(aRl g2).symm
      have e3:v=v2:=by
       have h4:=AD rfl h2;have hone:=zV h4 v (by simp);have:v.cells= #[v]:=by cases v<;>first|rfl|(simp [Value.oneCell'] at hone)
       rw[this] at h3;simpa using h3
      subst e2;subst e3;have e4:(y:List u'.den)=l:=hl;subst e4;exact g3
    |_=>trivial
  ·cases hr
 ·cases hr
end
def JG (tmps:Array Value) (q:Nat×Option TypeId):Sem Value:=match C3 q with
 | .tmp t=>pure (tmps.getD t undef)
 | .cell a t=>do loadVar t (<-asAddr (tmps.getD a undef))
theorem aAV {P:Program}{T:sG}(hT:wY P T) {B:Nat}{g:Gh}{w:World}{s:St}{a:Act}{m:List (Nat×Nat)}(hk:xE s.np m=true) (hr:uO B g w s a): ∀{ts:List (Nat×Option TypeId)}{l:List pR},HD T s m ts=some l->
  ∃vs:List Value,(ts.mapM (JG a.tmps)).run P w= .ok vs w/\v8 (u6 g s.np m) w l vs
 |[],l,h=>by
  simp only[HD,aRg] at h;subst h;exact⟨[],by simp,rfl⟩
 |q::ts,l,h=>by
  simp only[HD] at h;obtain⟨s1,l1,e1,e2,rfl⟩: ∃s1 l1,P7 T s m q=some s1/\HD T s m ts=some l1/\l=s1::l1:=by
   cases h1:P7 T s m q<;>cases h2:HD T s m ts<;>rw[h1,h2] at h<;>simp [aAS] at h
   exact⟨_,_,rfl,rfl,h.symm⟩
  obtain⟨vs,v1,v2⟩:=aAV hT hk hr e2;obtain⟨v,w1,w2⟩: ∃v,(JG a.tmps q).run P w= .ok v w/\qV (u6 g s.np m) w s1 v:=by
   obtain⟨t,oty⟩:=q;cases oty with
   |none=>
    simp only[P7,aRg] at e1;subst e1;exact⟨_,by simp [JG,C3],TO hk (hr.env t)⟩
   |some ty=>
    simp only[P7] at e1;cases he:TY s.H (rF T ty) (lk s.env t) with
    |none=>rw[he] at e1;cases e1
    |some e=>
     rw[he] at e1;simp only[aAT,Option.map_some,aRg] at e1;subst e1;obtain⟨ad,v,hv,hl,hs⟩:=aJA hT hr.heap (hr.env t) he;exact⟨v,by simp only[JG,C3,hv,asAddr,aRw,aRG,aRp,hl],TO hk hs⟩
  exact⟨v::vs,by simp only[List.mapM_cons,aRw,w1,aRp,v1,aRG],v,vs,rfl,w2,v2⟩
def LV (tmps:Array Value):ResultVar->Sem Value
 | .tmp t=>pure (tmps.getD t undef)
 | .cell a t=>do loadVar t (<-asAddr (tmps.getD a undef))
theorem aJB {P:Program}{fn:Func}{w:World}{tmps:Array Value}{ts:List (Nat×Option TypeId)}(h:fn.results.toList=ts.map C3) {vs:List Value}(hv:(ts.mapM (JG tmps)).run P w= .ok vs w):(results fn tmps).run P w= .ok (ZW vs) w:=by
 obtain⟨rs,hrs⟩: ∃rs,fn.results=⟨rs⟩:=⟨fn.results.toList,rfl⟩;have hm:rs=ts.map C3:=by rw[hrs] at h;exact h
 have key:Sem.run P (((ts.map C3).toArray).mapM (LV tmps)) w=Result.ok vs.toArray w:=by
  rw[List.mapM_toArray,List.mapM_map];have e:LV tmps∘C3=JG tmps:=by
   funext q;obtain⟨t,o⟩:=q;cases o<;>rfl
  have e2:(fun q=>LV tmps (C3 q))=JG tmps:=e;show Sem.run P (List.mapM (fun q=>LV tmps (C3 q)) ts>>=fun l=>pure l.toArray) w=_;rw[e2,aRw,hv];rfl
 have hu:results fn tmps=(fn.results.mapM (LV tmps) >>=fun vs=>pure (if h:vs.size=1 then vs[0] else .tuple vs)):=by
  unfold results;congr 2
 rw[hu,hrs,hm,aRw];have key2:Sem.run P (Array.mapM (LV tmps) (⟨ts.map C3⟩:Array ResultVar)) w=Result.ok vs.toArray w:=key;rw[key2];simp only[aRp,aRG]
 match vs with
 |[]=>rfl
 |[v]=>rfl
 |v::u::l=>simp [ZW]
theorem aJC {P:Program}{T:sG}(hT:wY P T) {f:FuncId}{fn:Func}{c:Code}{C:List pR->List pQ->Option pX}{ts:List (Nat×Option TypeId)}(hf:P.funcs[f]? =some fn) (hb:fn.body=some c) {N:Nat}(hN:fn.ntmps=N)
  (hcall: ∀args w,(callFunc f args).run P w= .ok (.enter f args) w) (hres:fn.results.toList=ts.map C3)
  (h: ∀args L r,C args L=some r->(∀p∈r.side,p)->rI L->args.length<=N/\P3 (vB 0 L) args/\P4 (vB 0 L) L/\Ev false P c ⟨rG 0 args,qE 0 L,qK L,N,qK L⟩ (aAU T ts r)):zE P f C:=by
 subst hN;refine⟨hcall,fun g w args vals L r hH ha hC hs=> ?_⟩;obtain⟨h1,h2,h3,h4⟩:=h args L r hC hs (aAD fun i b hb=>⟨i,hH.blk i b (by rw[xM];exact hb)⟩);obtain⟨hr,hent⟩:=aJm hH ha h2 h3 h1;have hsub: ∀b o,yQ (u6 g 0 (vB 0 L)) (qE 0 L) b o->yQ g (qE 0 L) b o:=fun b o ⟨i,blk,hg,ho⟩=>⟨i,blk,hg,(hent i blk (by rw[<-xM];exact hg)).2.2 b o ho⟩;have hgood:sR (yQ (u6 g 0 (vB 0 L)) (qE 0 L)) L (u6 g 0 (vB 0 L)) w (u6 g 0 (vB 0 L)) w (qE 0 L):=by
  refine⟨fun b o h=>⟨h,rfl⟩,Fr.refl _ _ _,fun i blk b o hg ho=> .inr ⟨i,blk,hg,ho⟩,fun _ _ _ h=>h,fun i hi=> ?_,fun i u y us _ hg=>⟨y,us,by rw[<-xM];exact hg⟩,fun _ _ _ _ h=>h⟩;have hL:L[i]? =some L[i]:=by simp
  obtain⟨_,hbk,_⟩:=hent i L[i] hL;have hnd:=(JE h3 L[i] (aSa hi)).2;generalize L[i]=blk at hbk hnd;cases blk with
  |cells t x ts=>obtain⟨p,cs,hp,_⟩:=hbk;exact .inl ⟨p,hp⟩
  |grow e c n=>obtain⟨v,xs,hv,_⟩:=hbk;exact .inr ⟨n,v,hv⟩
  |row e t l n=>obtain⟨_,v,xs,hv,_⟩:=hbk;exact .inr ⟨n,v,hv⟩
  |map k v l=>obtain⟨p,es,cl,hp,_⟩:=hbk;exact .inl ⟨p,hp⟩
  |iter s n=>obtain⟨p,hp,_⟩:=hbk;exact .inl ⟨p,hp⟩
  |dead=>exact absurd rfl hnd
 refine callsIn_wide.1 (callsIn_of_wp_marks (F:=Fence.wide) (n:=0) hf hb trivial (aS8 (h4 none rfl _ _ _ _ _ _ _ _ (Nat.le_refl _) hr hgood (TV L)) fun x a' w' hp=> ?_) rfl);obtain⟨e,g',s',e1,e2,e3,e4,e5⟩:=hp;have wQ: ∀m:List (Nat×Nat),xE s'.np m=true->CY (qK r.H) 0 (s'.keep ⟨[],m⟩).H=qE 0 r.H->HD T s' m ts=some r.ret->LeavesInM Fence.wide 0 P fn a'.tmps (fun e w'=> ∃v' g',e= .returned v'/\J9 g w L r g' w' v') a'.defers .returning w':=by
  intro m hk k1 k2;refine aAJ a'.defers w' e3 e4 (fun w1 e3 e4=> ?_);obtain⟨l1,l2,l3,_⟩:=ZI e3 e4 e5 ⟨[],m⟩ hk;replace l2:=l2.pad (qK r.H) 0;rw[k1] at l2;obtain⟨vs,q1,q2⟩:=aAV hT hk e3 k2;have q3:=aJB (P:=P) (w:=w1) (tmps:=a'.tmps) hres q1;refine⟨_,q3,_,_,rfl,⟨fun b o hb=>l2.shut b o hb,by rw[<-k1];exact l1.heap.pad _ _,?_,?_,fun i blk b o hi ho=> ?_,fun i t x us hi=> ?_,fun i t x us u y vs hi hr=> ?_,fun i p hi hp=>l2.J i p hi ((zW TT (LT.2 ⟨rfl,aSg _,by omega⟩)).1.trans hp),fun i n u hi hu=>l2.cur i n u hi ((congrFun (zW TT (LT.2 ⟨rfl,aSg _,by omega⟩)).2 n).trans hu)⟩⟩
  ·unfold OU;split
   ·rename_i s hs;rw[hs] at q2;obtain⟨v,vs',hv,h5,h6⟩:=q2;rw[hv,show vs'=[] from h6];exact h5
   ·rename_i hne;refine⟨_,?_,q2⟩;unfold ZW;split
    ·rename_i v hv;exfalso;have:=(TU q2).1;cases hq:r.ret with
     |nil=>rw[hq] at this;simp at this
     |cons s l=>cases l with
      |nil=>exact hne s hq
      |cons _ _=>rw[hq] at this;simp at this
    ·rfl
  ·exact⟨l2.fr.os,l2.fr.tape,l2.fr.output,l2.fr.size,fun b hb hA=>l2.fr.blk b hb (fun o ho=>hA o (hsub b o ho)),fun b o hb hA=>l2.fr.cell b o hb (fun ho=>hA (hsub b o ho)),fun b o hS=>(l2.fr.new b o hS).imp id (Or.imp id (hsub b o)),fun b s hs=>(l2.fr.shape b s hs).imp id fun h o=>hsub b o (h o)⟩
  ·exact(l2.perm i blk b o (by rw[xM];exact hi) ho).imp id (hsub b o)
  ·obtain⟨j1,⟨p,cs,j2,_⟩,_⟩:=hent i _ hi;have hil:i<L.length:=(aRu.1 hi).1;rw[l2.J i p hil j2,<-j1,j2]
  ·have hil:i<L.length:=(aRu.1 hi).1;obtain⟨x',ts',h5⟩:=l2.ty i u y vs hil (by rw[xM];exact hr);rw[hi] at h5;simp only[aRg,pQ.cells.injEq] at h5;exact h5.1.symm
 cases x<;>simp only[DY,aRg] at e1
 case normal=>subst e1;obtain⟨k,k0,k1,k2⟩:=e2;exact wQ k k0 k1 k2
 case ret=>subst e1;obtain⟨k,k0,k1,k2⟩:=e2;exact wQ k k0 k1 k2
 case exit id=>subst e1;exact e2.elim
 all_goals cases e1
open Classical in
noncomputable def rJ {V:Type}(p:V->List pR) (q:V->List pQ) (R:V->pX) (a:List pR) (L:List pQ):Option pX:=
 if h: ∃v,p v=a/\q v=L then some (R h.choose) else none
theorem aJD {V:Type}{p:V->List pR}{q:V->List pQ}{R:V->pX}{a:List pR}{L:List pQ}{r:pX}(h:rJ p q R a L=some r): ∃v,p v=a/\q v=L/\R v=r:=by
 unfold rJ at h;split at h
 ·rename_i e;exact⟨e.choose,e.choose_spec.1,e.choose_spec.2,aRl h⟩
 ·cases h
theorem rM {V:Type}{p:V->List pR}{q:V->List pQ}{R:V->pX}(inj: ∀v v',p v=p v'->q v=q v'->v=v') (v:V):rJ p q R (p v) (q v)=some (R v):=by
 have h: ∃u,p u=p v/\q u=q v:=⟨v,rfl,rfl⟩;unfold rJ;rw[aTt h,inj _ v h.choose_spec.1 h.choose_spec.2]
theorem aAW: ∀{l:List Prop},(∀p∈l,p)->rC l
 |[],_=>trivial
 |[p],h=>h p (by simp)
 |p::q::r,h=>⟨h p (by simp),aAW (l:=q::r) fun x hx=>h x (aRt _ hx)⟩
def rD (P:Program) (x:Nat×qS):Prop:=zE P x.1 x.2.C/\∀F,x.2.row=some F->T7 P x.1 F
theorem rN {P:Program}{T:sG}{Γ:tW}(hE:qZ P T Γ) {f:FuncId}{fn:Func}{c:Code}{V:Type}{p:V->List pR}{q:V->List pQ}{R:V->pX}{ps:List PK}{gs:List (Nat×Nat×PK)}{same:List Nat}{ts:List (Nat×Option TypeId)}(hf:P.funcs[f]? =some fn) (hb:fn.body=some c) {N:Nat}(hN:fn.ntmps=N)
  (hres:fn.results.toList=ts.map C3) (hcall: ∀args w,(callFunc f args).run P w= .ok (.enter f args) w)
  (h: ∀v,rC (R v).side->rI (q v)->Ev false P c ⟨rG 0 (p v),qE 0 (q v),qK (q v),N,qK (q v)⟩ (aAU T ts (R v)))
  (h1: ∀v,Nat.ble (p v).length N=true:=by intro _;rfl)
  (h2: ∀v,P3 (vB 0 (q v)) (p v):=by intro _;repeat (first|exact trivial|refine ⟨rfl,?_⟩))
  (h3: ∀v,P4 (vB 0 (q v)) (q v):=by intro _;repeat (first|exact trivial|refine ⟨rfl,?_⟩)):rD P (f,⟨ps,rJ p q R,gs,same,none⟩):=
 ⟨aJC hE.T hf hb hN hcall hres fun args L r hC hs hr=>by
  obtain⟨v,rfl,rfl,rfl⟩:=aJD hC;exact⟨aSx (h1 v),h2 v,h3 v,h v (aAW hs) hr⟩,fun _ h=>by cases h⟩
abbrev pP (n:Int):Prop:= -9223372036854775808<=n/\n<=9223372036854775807
@[go_sem] def qY:List (Nat×qS)->tW
 |[],_=>none
 |(k,s)::r,f=>if k=f then some s else qY r f
theorem rK {P:Program}:CX P (qY []):=fun _ _ h=>by cases h
theorem qH {P:Program}{x:Nat×qS}{r:List (Nat×qS)}(h:rD P x) (hr:CX P (qY r)):CX P (qY (x::r)):=fun f s hs=>by
 obtain⟨k,y⟩:=x;simp only[qY] at hs;split at hs
 ·rename_i e;subst e;cases hs;exact h
 ·exact hr f s hs
section
variable {P:Program}{T:sG}{Γ:tW}(E:qZ P T Γ) {s:St}{Q:Ex->St->Prop}
include E
theorem pO {id:Nat}{ops:Array Oper}{a:vU}{y:Code}(hq:Ev R P y a.s Q) (h:vV T Γ ops.toList ops.toList (some ⟨s,[],[]⟩)=some a:=by simp only[go_sem];rfl) (hp:rC a.side:=by exact trivial):Ev R P (.seq (.region id ops false) y) s Q:=
 q9 (aAQ E h hp hq)
theorem uW {id:Nat}{ops:Array Oper}{a:vU}{y:Code}(hq:Ev R P y a.s Q) (h:vV T Γ ops.toList ops.toList (some ⟨s,[],[]⟩)=some a:=by simp only[go_sem];rfl) (hp:rC a.side:=by exact trivial) (hf:DR ops s.nb a.es.reverse=true:=by kernel_rfl):Ev R P (.seq (.region id ops true) y) s Q:=
 q9 (aAR E h hf hp hq)
theorem rR {id:Nat}{ops:Array Oper}{a:vU}(hq:Q .normal a.s) (h:vV T Γ ops.toList ops.toList (some ⟨s,[],[]⟩)=some a:=by simp only[go_sem];rfl) (hp:rC a.side:=by exact trivial):Ev R P (.region id ops false) s Q:=
 aAQ E h hp hq
theorem C5 {id:Nat}{ops:Array Oper}{a:vU}(hq:Q .normal a.s) (h:vV T Γ ops.toList ops.toList (some ⟨s,[],[]⟩)=some a:=by simp only[go_sem];rfl) (hp:rC a.side:=by exact trivial) (hf:DR ops s.nb a.es.reverse=true:=by kernel_rfl):Ev R P (.region id ops true) s Q:=
 aAR E h hf hp hq
end
theorem q6 {P:Program}{s:St}{Q:Ex->St->Prop}{c:Operand}{x y:Code}{b b':Bool}{k:Option Nat}{ρ:Type}{X Y r:ρ}(hC:(if b'=true then X else Y)=r) (ht:X=r->b=true->Ev R P x s Q) (hf:Y=r->b=false->Ev R P y s Q)
  (h:tH s.env c=(.val .bool b,k):=by simp only[go_sem];rfl) (hb:b=b':=by first|rfl|simp):Ev R P (.cond c x y) s Q:=
 aJp h (fun e=>ht (aJx hC (hb▸e)) e) (fun e=>hf (aJy hC (hb▸e)) e)
theorem qU {σ ρ:Type}[Inhabited σ] {x:Option σ}{k:σ->Option ρ}{r:ρ}(h:x.bind k=some r): ∃y,x=some y/\val x=y/\k y=some r:=by
 obtain⟨y,h1,h2⟩:=pS h;exact⟨y,h1,rU h1,h2⟩
attribute [go_sem] true_and and_true false_and and_false Nat.reduceMul List.nil_append List.cons_append List.append_nil List.toList_toArray Nat.reduceEqDiff reduceIte reduceDIte reduceCtorEq Nat.reduceAdd Nat.reduceSub Int.reduceToNat Nat.reduceLT Nat.reduceLeDiff decide_true decide_false Bool.and_self Bool.or_self Bool.or_false Bool.false_or Bool.and_true Bool.true_and Bool.not_true Bool.not_false
end Go.Proofs.YtbbpilohihldiaaGreatDoor.Vc
