/- Packed by a program of mine (wip/tools/pack.py): the same texts with short names and few blanks. -/
import Derived.ChangeKeysEq
import Derived.KernelRfl
import Derived.Laws.BytesArg
import Derived.Laws.StructEq
import Derived.Lib.AppendStr
import Derived.OrdersIn
import Derived.RangeFuncLeaves
import Derived.RangeFuncNested
import Derived.Scope
import Derived.WalkSpells
import Derived.Test.YtbbpilohihldiaaGreatDoorW00
set_option linter.defProp false
set_option linter.unusedVariables false
set_option linter.unusedSimpArgs false
set_option linter.unusedSectionVars false
set_option maxRecDepth 100000
set_option maxHeartbeats 4000000
namespace Go.Proofs.YtbbpilohihldiaaGreatDoor.Vc
open Go.RowKit
theorem aBu {P:Program}{w:pU}{r:Nat}{s:ByteArray}{n:Nat}(hb:w.heap[r]? =some (.stringIter s n)):(getObj r).run P w= .ok (.stringIter s n) w:=by
 simp [getObj,Sem.run,hb]
theorem aLg {P:Program}{w:pU}{r:Nat}{s:ByteArray}{n:Nat}(o:Obj) (hb:w.heap[r]? =some (.stringIter s n)):(setObj r o).run P w= .ok () {w with heap:=w.heap.setIfInBounds r o}:=by
 simp [setObj,Sem.run,hb]
section
variable {P:Program}{o:Oper}{a:Act}{g:Gh}{w:pU}{H:sD}{T:sX}(hT:xQ P T) (hH:sK g w H)
include hT hH
theorem sG.newIter {side:List Prop}{rds:pT}{base:Nat}{s:pG}(hf:g.J base=none) (hc:g.cur base=fun _=>none):
  sG g w H ⟨side,(.val .ref (some (base,0)),none),[(base,.iter s 0)],rds⟩ (g.var base w.heap.size none) (w.alloc (.stringIter ⟨s.toArray⟩ 0)) (.pointer (some ⟨w.heap.size,0,none⟩)):=by
 have hJ:(g.var base w.heap.size none).J base=some ⟨w.heap.size,0,none⟩:=by simp [Gh.var]
 have le:Le g w (g.var base w.heap.size none) (w.alloc (.stringIter ⟨s.toArray⟩ 0)):=⟨fun _ _ h=>h,fun b o h=>aVB (a:=⟨b,o,none⟩) (aVH _ _ _ (hH.sl b o h)),fun i p h=>by
  show (if i=base then _ else _)=_;rw[aVa (fun e1=>by rw[e1,hf] at h;cases h)];exact h,fun _ _ _ h=>h⟩
 have fr:Fr (t8 g H (qO [(base,qH.iter s 0)])) w (w.alloc (.stringIter ⟨s.toArray⟩ 0)) g.S (g.var base w.heap.size none).S:=
  ⟨rfl,rfl,rfl,by simp,fun b hb _=>aVH _ _ _ hb,fun b o hb _=>⟨aVB (a:=⟨b,o,none⟩) (aVH _ _ _ hb),aWb (a:=⟨b,o,none⟩) (aVH _ _ _ hb)⟩,fun b o h=> .inl h,fun b s h=> .inl ((F2 (aVH _ _ _ (F1 h))).trans h)⟩
 have gho: ∀i,i∉qO [(base,qH.iter s 0)]->(g.var base w.heap.size none).J i=g.J i/\(g.var base w.heap.size none).cur i=g.cur i:=fun i hi=>⟨by
  show (if i=base then _ else _)=_;rw[aVa (fun e1=>hi (by simp [qO,e1]))],rfl⟩
 have get: ∀i blk,i∈qO [(base,qH.iter s 0)]->qM (rD [(base,qH.iter s 0)] H) i=some blk->i=base/\blk= .iter s 0:=by
  intro i blk hi hg;simp only[qO,aVm] at hi;subst hi;simp only[rD,qM,aWQ,aU9] at hg;exact⟨rfl,hg.symm⟩
 have perm: ∀i blk b o,i∈qO [(base,qH.iter s 0)]->qM (rD [(base,qH.iter s 0)] H) i=some blk->sE (g.var base w.heap.size none) i blk b o->w.heap.size<=b\/t8 g H (qO [(base,qH.iter s 0)]) b o:=by
  intro i blk b o hi hg ho;obtain⟨rfl,rfl⟩:=get i blk hi hg;obtain⟨p,hp,h1⟩:=ho;rw[hJ] at hp;obtain rfl:=aVe hp;exact .inl (aWO h1.symm)
 refine⟨le,⟨.inr ⟨rfl,_,hJ,rfl⟩,trivial⟩,hH.upd le fr perm gho (fun i blk hi hg=> ?_) (fun i j bi bj b o hi hj hij hgi hgj _ _=>hij ((get i bi hi hgi).1.trans (get j bj hj hgj).1.symm)) (fun b o h=>aVP (hH.sl b o h) pL),fr,perm,gho,fun i u' y us h=>by
  simp only[rD,qM] at h;split at h
  .cases h
  .exact .inl ⟨y,us,h⟩⟩
 obtain⟨rfl,rfl⟩:=get i blk hi hg;refine⟨⟨w.heap.size,0,none⟩,hJ,rfl,?_,fun o hs=>aW3 _ (hH.sl _ _ hs)⟩;show (w.heap.push (.stringIter ⟨s.toArray⟩ 0))[w.heap.size]? =_;rw[aXf]
theorem sG.updIter {side:List Prop}{rds:pT}{i:Nat}{s:pG}{n n':Nat}{d:qI}{val:pV}{p:Pl}(hi:qM H i=some (.iter s n)) (hp:g.J i=some p) (hp0:p.2=0) (hb:w.heap[p.1]? =some (.stringIter ⟨s.toArray⟩ n)) (hS: ∀o,¬g.S p.1 o) (hd:s3 g {w with heap:=w.heap.setIfInBounds p.1 (.stringIter ⟨s.toArray⟩ n')} d val):
  sG g w H ⟨side,d,[(i,.iter s n')],rds⟩ g {w with heap:=w.heap.setIfInBounds p.1 (.stringIter ⟨s.toArray⟩ n')} val:=by
 have hlt:p.1<w.heap.size:=(aVz.1 hb).1;have hoth: ∀b,b≠p.1->(w.heap.setIfInBounds p.1 (.stringIter ⟨s.toArray⟩ n'))[b]? =w.heap[b]? :=fun b hne=>by rw[aWD (Ne.symm hne)]
 have hown: ∀o,t8 g H (qO [(i,qH.iter s n')]) p.1 o:=fun o=>⟨i,_,by simp [qO],hi,p,hp,rfl⟩;have le:Le g w g {w with heap:=w.heap.setIfInBounds p.1 (.stringIter ⟨s.toArray⟩ n')}:=⟨fun _ _ h=>h,fun b o h=>aVB (a:=⟨b,o,none⟩) (hoth b (fun e=>hS o (e▸h))),fun _ _ h=>h,fun _ _ _ h=>h⟩
 have fr:Fr (t8 g H (qO [(i,qH.iter s n')])) w {w with heap:=w.heap.setIfInBounds p.1 (.stringIter ⟨s.toArray⟩ n')} g.S g.S:=
  ⟨rfl,rfl,rfl,by simp,fun b _ hn=>hoth b (fun e=>hn 0 (e▸hown 0)),fun b o _ hn=>⟨aVB (a:=⟨b,o,none⟩) (hoth b (fun e=>hn (e▸hown o))),aWb (a:=⟨b,o,none⟩) (hoth b (fun e=>hn (e▸hown o)))⟩,fun b o h=> .inl h,fun b s h=>(by
   by_cases e:b=p.1
   .exact .inr fun o=>e▸hown o
   .exact .inl ((F2 (hoth b e)).trans h))⟩
 have get: ∀j blk,j∈qO [(i,qH.iter s n')]->qM (rD [(i,qH.iter s n')] H) j=some blk->j=i/\blk= .iter s n':=by
  intro j blk hj hg;simp only[qO,aVm] at hj;subst hj;simp only[rD,qM,aWQ,aU9] at hg;exact⟨rfl,hg.symm⟩
 have perm: ∀j blk b o,j∈qO [(i,qH.iter s n')]->qM (rD [(i,qH.iter s n')] H) j=some blk->sE g j blk b o->w.heap.size<=b\/t8 g H (qO [(i,qH.iter s n')]) b o:=by
  intro j blk b o hj hg ho;obtain⟨rfl,rfl⟩:=get j blk hj hg;obtain⟨q,hq,rfl⟩:=ho;rw[hp] at hq;obtain rfl:=aVe hq;exact .inr (hown o)
 refine⟨le,hd,hH.upd le fr perm (fun _ _=>⟨rfl,rfl⟩) (fun j blk hj hg=> ?_) (fun j j' bi bj b o hj hj' hij hgi hgj _ _=>hij ((get j bi hj hgi).1.trans (get j' bj hj' hgj).1.symm)) (fun b o h=>by simpa using hH.sl b o h),fr,perm,fun _ _=>⟨rfl,rfl⟩,fun j u' y us h=>by
  simp only[rD,qM] at h;split at h
  .cases h
  .exact .inl ⟨y,us,h⟩⟩
 obtain⟨rfl,rfl⟩:=get j blk hj hg;exact⟨p,hp,hp0,by simp [aW0,hlt],hS⟩
theorem aLh {t:TypeId}{x:Operand}(ho:o.op= .range t x) {sx:qI}(hx:s3 g w sx (a.eval x)) {base:Nat}{e:qT}(hr:a0h base (s8 T t) sx=some e) (hf:AV g base e):rR P o a g w H e:=by
 generalize hst:s8 T t=ot at hr;unfold a0h at hr;split at hr
 .rename_i el b ar ls s k;cases hr;have hfr:=hf base (by simp [qO]) (aVp _);have hv:=zK hx.1;have hu:=(tK hT hst).2;simp only[yW] at hu;refine rR.value (v:= .pointer (some ⟨w.heap.size,0,none⟩)) (w':=w.alloc (.stringIter ⟨s.toArray⟩ 0)) ?_ (sG.newIter hT hH hfr.1 (funext hfr.2));unfold execOp;rw[ho];simp only[Instr.range,hv,aVn,aVu hu,run_newObj,aVk,aVC];rfl
 .cases hr
theorem aLi {x:Operand}{b:Bool}(ho:o.op= .next x b) {sx:qI}(hx:s3 g w sx (a.eval x)) {e:qT}(hr:UT H b sx=some e):rR P o a g w H e:=by
 unfold UT at hr;split at hr
 .rename_i i k;unfold a0i at hr;split at hr
  .rename_i s n hb;cases hr;obtain⟨p,hp,hp0,hh,hS⟩:=hH.blk i _ hb;obtain⟨q,hq,hv⟩:=A0 hx.1;rw[hp] at hq;obtain rfl:=aVe hq;rw[hp0] at hv;by_cases hl:n<s.length
   .have hsz:n<(⟨s.toArray⟩:ByteArray).size:=by simpa[ByteArray.size] using hl
    refine rR.value (v:= .tuple #[.bool true,.int .i64 (n:Int),.int .i32 (vE s n)]) (w':={w with heap:=w.heap.setIfInBounds p.1 (.stringIter ⟨s.toArray⟩ (AQ s n))}) ?_ (sG.updIter hT hH hb hp hp0 hh hS ⟨⟨fun _=>rfl,fun h=>absurd hl (of_decide_eq_false h)⟩,trivial⟩)
    unfold execOp;rw[ho];have hrn:AQ s n=n+(Utf8.decode ⟨s.toArray⟩ n).2:=by unfold AQ a0g;rw[aU8 hl]
    simp only[Instr.next,hv,aVn,aBu hh,aVk,hsz,aWQ,aLg _ hh,aVC,hrn];rfl
   .have hsz: ¬n<(⟨s.toArray⟩:ByteArray).size:=by simpa[ByteArray.size] using hl
    have hrn:AQ s n=n:=by unfold AQ;rw[aVa hl]
    have hw:({w with heap:=w.heap.setIfInBounds p.1 (.stringIter ⟨s.toArray⟩ (AQ s n))}:pU)=w:=by
     rw[hrn];have:w.heap.setIfInBounds p.1 (.stringIter ⟨s.toArray⟩ n)=w.heap:=by
      obtain⟨h1,h2⟩:=aVz.1 hh;apply Array.ext_getElem?;intro j;rw[aW0];split
      .rename_i hj;subst hj;first|rw[hh] |rw[aU8 h1,hh]
      .rfl
     rw[this]
    refine rR.value (v:= .tuple #[.bool false]) (w':={w with heap:=w.heap.setIfInBounds p.1 (.stringIter ⟨s.toArray⟩ (AQ s n))}) ?_ (sG.updIter hT hH hb hp hp0 hh hS ⟨⟨fun h=>absurd (aVU h) hl,fun _=>rfl⟩,trivial⟩)
    rw[hw];unfold execOp;rw[ho];simp only[Instr.next,hv,aVn,aBu hh,aVk,hsz,aXn,aVC]
  .cases hr
 .cases hr
end
def qW:Nat->List qH->sD
 |_,[]=>[]
 |c,b::L=>(c,b)::qW (c+1) L
theorem VD: ∀(L:List qH) (c i:Nat),qM (qW c L) i=if c<=i then L[i-c]? else none
 |[],c,i=>by simp [qW,qM]
 |b::L,c,i=>by
  simp only[qW,qM];by_cases h:c=i
  .subst h;simp
  .rw[aVa h,VD L (c+1) i];by_cases h2:c<=i
   .rw[aU8 h2,aU8 pJ];obtain⟨d,hd⟩: ∃d,i-c=d+1:=⟨i-c-1,pJ⟩;rw[hd,aVV];congr 1;omega
   .rw[aVa h2,aVa pJ]
theorem yH (L:List qH) (i:Nat):qM (qW 0 L) i=L[i]? :=by rw[VD];simp
def A9 (g:Gh) (H:sD) (b o:Nat):Prop:= ∃i blk,qM H i=some blk/\sE g i blk b o
def vV (g:Gh) (w:pU):List qI->pQ->Prop
 |[],vs=>vs=[]
 |s::ss,vs=> ∃v vs',vs=v::vs'/\s3 g w s v/\vV g w ss vs'
def QZ (g:Gh) (w:pU):List qI->pV->Prop
 |[s],v=>s3 g w s v
 |l,v=> ∃vs:pQ,v= .tuple vs.toArray/\vV g w l vs
structure LC (g:Gh) (w:pU) (L:List qH) (r:qQ) (g':Gh) (w':pU) (v:pV):Prop where
 shut: ∀b o,g.S b o->g'.S b o/\w'.cell? ⟨b,o,none⟩=w.cell? ⟨b,o,none⟩
 heap:sK g' w' (qW 0 r.H)
 ret:QZ g' w' r.ret v
 fr:Fr (A9 g (qW 0 L)) w w' g.S g'.S
 perm: ∀i blk b o,r.H[i]? =some blk->sE g' i blk b o->w.heap.size<=b\/A9 g (qW 0 L) b o
 J: ∀(i:Nat) t x ts,L[i]? =some (.cells t x ts)->g'.J i=g.J i
 ty: ∀(i:Nat) t x ts u y us,L[i]? =some (.cells t x ts)->r.H[i]? =some (.cells u y us)->u=t
 Jt: ∀i p,i<L.length->g.J i=some p->g'.J i=some p
 cur: ∀i n u,i<L.length->g.cur i n=some u->g'.cur i n=some u
def AX (P:Program) (f:FuncId) (C:List qI->List qH->Option qQ):Prop:=
 (∀args w,(callFunc f args).run P w= .ok (.enter f args) w)/\
 ∀(g:Gh) (w:pU) (args:List qI) (vals:pQ) (L:List qH) (r:qQ),sK g w (qW 0 L)->vV g w args vals->C args L=some r->(∀p∈r.side,p)->
  Calls P f vals.toArray w (fun e w'=> ∃v g',e= .returned v/\LC g w L r g' w' v)
def VE (P:Program) (f:FuncId) (F:(t:Ty)->List t.den->Option (List t.den)):Prop:=
 ∀(g:Gh) (w:pU) (e:TypeId) (t:Ty) (l l':List t.den) (v:pV) (n:Nat) (xs:pQ),KO w->w.ownsRow 0 e t.cells v n xs->tT (Rd g w t) t.cells l xs->l.length=n->n<4611686018427387904->F t l=some l'->
  Calls P f #[v] w (fun en w'=>en= .returned (.tuple #[])/\l'.length=n/\∃xs',w'.ownsRow 0 e t.cells v n xs'/\tT (Rd g w t) t.cells l' xs'/\w.grownBy w' v.ownBlock)
def F6 (P:Program) (Γ:uW):Prop:= ∀f s,Γ f=some s->AX P f s.C/\∀F,s.row=some F->VE P f F
theorem aBv {g:Gh}{w:pU}{t:Ty}{x:t.den}{v:pV}{k:pS}(h:s3 g w (.val t x,k) v):s3 g w (.val t x,H8 t k) v:=by
 refine⟨h.1,?_⟩;cases t with
 |list u=>exact h.2
 |_=>trivial
theorem VF {g g':Gh}{w:pU}(hS:g'.S=g.S) {t:Ty}(hp:t.pure=true) {x:t.den}{v:pV}{k k':pS}(h:s3 g w (.val t x,k) v) (hk: ∀c,k=some c->∃c',k'=some c'/\∀n u,g.cur c n=some u->g'.cur c' n=some u) (hk0:k=none->k'=none):s3 g' w (.val t x,k') v:=by
 have hv:tJ g' w t x v:=h.1.imp (fun⟨a,cs,e,q⟩=>⟨a,cs,e,w7 hS hp q⟩) (fun⟨a,q⟩=>⟨a,w7 hS hp q⟩);refine⟨hv,?_⟩;cases k with
 |none=>rw[hk0 rfl];trivial
 |some c=>
  obtain⟨c',rfl,h2⟩:=hk c rfl;have h1:=h.2;cases t with
  |list u=>exact h2 _ _ h1
  |pair a b=>exact h1
  |_=>exact h1.elim
section
variable {P:Program}{o:Oper}{a:Act}{g:Gh}{w:pU}{H:sD}{T:sX}{Γ:uW}(hT:xQ P T) (hΓ:F6 P Γ) (hH:sK g w H)
include hT hΓ hH
theorem a0P {ti:Option TI}{s:qI}{v:pV}(h:s3 g w s v):s3 g w (PZ ti s) v:=by
 unfold PZ;split
 .have:v= .slice none 0 0:=h.1;subst this;exact⟨.inr ⟨rfl,none,0,rfl,aVp _,.inl rfl⟩,trivial⟩
 .exact h
theorem aBw {ρ:Operand->qI}: ∀{xs:List Operand}{ts:List TypeId},xs.length=ts.length->(∀x∈xs,s3 g w (ρ x) (a.eval x))->vV g w (HD T ρ xs ts) (xs.map a.eval)
 |[],[],_,_=>rfl
 |x::xs,t::ts,h,hx=>⟨_,_,rfl,a0P hT hΓ hH (hx x pL),aBw (by simpa using h) (fun y hy=>hx y (by simp [hy]))⟩
theorem aLj {l m:List qI}{vs us:pQ}(h:vV g w l vs) (k:vV g w m us):vV g w (l++m) (vs++us):=by
 induction l generalizing vs with
 |nil=>rw[show vs=[] from h];exact k
 |cons s l ih=>
  obtain⟨v,vs',rfl,h1,h2⟩:=h;exact⟨v,_,rfl,h1,ih h2⟩
theorem aBx: ∀{caps:pO}{vs:pQ},yG g caps vs->vV g w (a0b caps) vs
 |[],_,h=>h
 |(i,o)::caps,_,⟨p,vs',h1,h2,h3⟩=>⟨_,_,h2,⟨.inr ⟨rfl,p,h1,rfl⟩,trivial⟩,aBx h3⟩
end
theorem aBy {P:Program}{o:Oper}{a:Act}{f:FuncId}{fop:Operand}{args:Array Operand}{tys:Array TypeId}(ho:o.op= .call ⟨.value fop,args,tys⟩) {caps:pQ}(hf:a.eval fop= .func (.func f) #[] caps.toArray)
  (hen: ∀args w,(callFunc f args).run P w= .ok (.enter f args) w) {w:pU}{K:Act->pU->Prop}{Q:Exit->Act->pU->Prop}
  (h:Calls P f ((args.toList.map a.eval)++caps).toArray w (fun e w'=> ∃v,e= .returned v/\K (a.put o.dst v) w')):o.wp P a w K Q:=by
 unfold Oper.wp;have:(execOp a.eval o).run P w= .ok (.enter f ((args.toList.map a.eval)++caps).toArray) w:=by
  unfold execOp;rw[ho];simp only[resolve,hf,Deferred.ofValue,aVn,aVC,aVk,invoke];rw[hen];congr 2;apply aWp.1;simp
 rw[this];unfold Oper.upon;refine h.mono fun e w' ⟨v,he,hk⟩=> ?_;subst he;exact hk
def wD (g:Gh):Option rU->Option Pl
 |some (.box i _ _ _ o)=>(g.J i).map fun p=>⟨p.1,p.2+o,p.3⟩
 |some (.tok k)=>g.J k
 |none=>none
def CE (g:Gh):Option rU->Nat->Option pV
 |some (.tok k),n=>g.cur k n
 |_,_=>none
def vM (g:Gh) (ws:List rU):Gh:=⟨g.S,fun c=>wD g ws[c]?,fun c n=>CE g ws[c]? n⟩
def VG (H:sD) (ws:List rU):rU->qH->Prop
 | .box i u x toks o,.cells t y ts=>qM H i=some (.cells u x toks)/\rN t u x o=some y/\∀q n,(q,n)∈ts->∃k,ws[n]? =some (.tok k)/\xO toks (o+q)=some k/\q<t.cells
 | .tok k,.grow e c m=>qM H k=some (.grow e c m)
 | .tok k,.map s t l=>qM H k=some (.map s t l)/\s.pure=true/\t.pure=true
 | .tok k,.row e t l n=>qM H k=some (.row e t l n)/\t.pure=true
 |_,_=>False
structure HK (H:sD) (ws:List rU) (L:List qH):Prop where
 len:ws.length=L.length
 ok: ∀(c:Nat) wh b,ws[c]? =some wh->L[c]? =some b->VG H ws wh b
 nodup:(sI ws).Nodup
def a0Q (ws:List rU) (t:Ty) (x y:t.den):Prop:=(t.pure=true/\y=x)\/DZ ws t x=some y
def VH (H:sD) (ws:List rU):rU->qH->Prop
 | .box i u x toks o,.cells t y ts=>qM H i=some (.cells u x toks)/\(∃y0,rN t u x o=some y0/\a0Q ws t y0 y)/\∀q n,(q,n)∈ts->∃k,ws[n]? =some (.tok k)/\xO toks (o+q)=some k/\q<t.cells
 | .tok k,.grow e c m=>qM H k=some (.grow e c m)
 | .tok k,.map s t l=>qM H k=some (.map s t l)/\s.pure=true/\t.pure=true
 | .tok k,.row e t l n=>qM H k=some (.row e t l n)/\t.pure=true
 |_,_=>False
theorem VI {i o:Nat}: ∀{ws:List rU}{c0:Nat}{c q:Nat},HA i o ws c0=some (c,q)->∃d u x toks oc,c=c0+d/\ws[d]? =some (.box i u x toks oc)/\o=oc+q
 |[],_,_,_,h=>by simp [HA] at h
 | .box j u x toks oc::r,c0,c,q,h=>by
  simp only[HA] at h;split at h
  .rename_i hc;simp only[aU9,aVD] at h;obtain⟨rfl,rfl⟩:=h;obtain⟨rfl,h2⟩:=hc;exact⟨0,u,x,toks,oc,rfl,rfl,pJ⟩
  .obtain⟨d,u',x',toks',oc',h1,h2,h3⟩:=VI h;exact⟨d+1,u',x',toks',oc',pJ,by simpa using h2,h3⟩
 | .tok k::r,c0,c,q,h=>by
  simp only[HA] at h;obtain⟨d,u',x',toks',oc',h1,h2,h3⟩:=VI h;exact⟨d+1,u',x',toks',oc',pJ,by simpa using h2,h3⟩
theorem NM {i:Nat}: ∀{ws:List rU}{c0 c:Nat},wJ i ws c0=some c->∃d,c=c0+d/\ws[d]? =some (.tok i)
 |[],_,_,h=>by simp [wJ] at h
 | .tok j::r,c0,c,h=>by
  simp only[wJ] at h;split at h
  .rename_i hc;simp only[aU9] at h;subst h;subst hc;exact⟨0,rfl,rfl⟩
  .obtain⟨d,h1,h2⟩:=NM h;exact⟨d+1,pJ,by simpa using h2⟩
 | .box _ _ _ _ _::r,c0,c,h=>by
  simp only[wJ] at h;obtain⟨d,h1,h2⟩:=NM h;exact⟨d+1,pJ,by simpa using h2⟩
theorem a0R {α β:Type}{a:Option α}{b:Option β}{p:α×β}(h:KT a b=some p):a=some p.1/\b=some p.2:=by
 cases a<;>cases b<;>simp [KT] at h
 subst h;exact⟨rfl,rfl⟩
theorem aLk {x y:Option (Nat×pO)}(h:Q0 x=some y):y=x/\∀f l,x=some (f,l)->l=[]:=by
 unfold Q0 at h;split at h
 .cases h;exact⟨rfl,fun _ _ h=>by cases h⟩
 .cases h;exact⟨rfl,fun _ _ h=>by cases h;rfl⟩
 .cases h
theorem aLl {g g':Gh}{x:Option (Nat×pO)}{cs:pQ}(hx: ∀f l,x=some (f,l)->l=[]) (h:QK g x cs):QK g' x cs:=by
 cases x with
 |none=>exact h
 |some q=>
  obtain⟨f,l⟩:=q;obtain rfl:=hx f l rfl;exact h
theorem VJ {g g':Gh}{w:pU}(hS:g'.S=g.S) (f:(t:Ty)->t.den->Option t.den)
  (hp: ∀a b x,f (.pair a b) x=KT (if a.pure=true then some x.1 else f a x.1) (if b.pure=true then some x.2 else f b x.2))
  (hl: ∀t x,f (.list t) x=if t.pure=true then some x else none) (hb: ∀x,f .bool x=some x) (hi: ∀k x,f (.int k) x=some x) (hs: ∀x,f .str x=some x) (hu: ∀x,f .unit x=some x) (hfn: ∀x,f .fn x=some x) (hrl: ∀e t x y cs,f (.rl e t) x=some y->E3 g x cs->E3 g' y cs) (hmr: ∀x y cs,f .mref x=some y->QL g x cs->QL g' y cs)
  (hr: ∀x y cs,f .ref x=some y->QJ g x cs->QJ g' y cs) (hm: ∀x y cs,f .mp x=some y->NE g x cs->NE g' y cs) (hc: ∀x,f .clo x=Q0 x):
  ∀{t:Ty}{x y:t.den}{cs:pQ},Rd g w t x cs->f t x=some y->Rd g' w t y cs
 | .bool,_,_,_,r,h=>by rw[hb] at h;cases h;exact r
 | .int _,_,_,_,r,h=>by rw[hi] at h;cases h;exact r
 | .str,_,_,_,r,h=>by rw[hs] at h;cases h;exact r
 | .unit,_,_,_,r,h=>by rw[hu] at h;cases h;exact r
 | .rl e t,x,y,_,r,h=>hrl e t x y _ h r
 | .fn,_,_,_,r,h=>by rw[hfn] at h;cases h;exact r
 | .mref,x,y,_,r,h=>hmr x y _ h r
 | .list t,x,y,_,r,h=>by
  rw[hl] at h;split at h
  .rename_i hpu;cases h;exact w7 hS (t:= .list t) (by simpa[Ty.pure] using hpu) r
  .cases h
 | .ref,x,y,_,r,h=>hr x y _ h r
 | .clo,x,y,_,r,h=>by
  rw[hc] at h;obtain⟨rfl,h2⟩:=aLk h;exact aLl h2 r
 | .mp,x,y,_,r,h=>hm x y _ h r
 | .pair a b,x,y,_,⟨c1,c2,e,r1,r2⟩,h=>by
  rw[hp] at h;obtain⟨h1,h2⟩:=a0R h;refine⟨c1,c2,e,?_,?_⟩
  .split at h1
   .rename_i hpu;exact(aVe h1)▸w7 hS hpu r1
   .exact VJ hS f hp hl hb hi hs hu hfn hrl hmr hr hm hc r1 h1
  .split at h2
   .rename_i hpu;exact(aVe h2)▸w7 hS hpu r2
   .exact VJ hS f hp hl hb hi hs hu hfn hrl hmr hr hm hc r2 h2
theorem a0S (f:(t:Ty)->t.den->Option t.den)
  (hp: ∀a b x,f (.pair a b) x=KT (if a.pure=true then some x.1 else f a x.1) (if b.pure=true then some x.2 else f b x.2))
  (hl: ∀t x,f (.list t) x=if t.pure=true then some x else none) {u:Ty}: ∀{t:Ty}{x y:t.den}{o:Nat}{l:List u.den},f t x=some y->rN (.list u) t x o=some l->rN (.list u) t y o=some l:=by
 intro t
 induction t with
 |pair a b iha ihb=>
  intro x y o l h hg;rw[hp] at h;obtain⟨h1,h2⟩:=a0R h;have key: ∀z:(Ty.pair a b).den,∀q,rN (.list u) (.pair a b) z q=if q<a.cells then rN (.list u) a z.1 q else rN (.list u) b z.2 (q-a.cells):=by
   intro z q;cases q with
   |zero=>
    conv=>lhs;unfold rN
    rw[aWW (by intro e;cases e),Nat.zero_sub]
   |succ q=>simp [rN]
  rw[key] at hg|-;split
  .rename_i ho;rw[aU8 ho] at hg;split at h1
   .rw[<-aVe h1];exact hg
   .exact iha h1 hg
  .rename_i ho;rw[aVa ho] at hg;split at h2
   .rw[<-aVe h2];exact hg
   .exact ihb h2 hg
 |list v=>
  intro x y o l h hg;rw[hl] at h;split at h
  .cases h;exact hg
  .cases h
 |_=>
  intro x y o l h hg;cases o with
  |zero=>
   unfold rN at hg;split at hg
   .rename_i e;cases e
   .cases hg
  |succ o=>simp [rN] at hg
theorem aLm {g:Gh}{w:pU}{ws:List rU}{t:Ty}{x y:t.den}{cs:pQ}(r:Rd g w t x cs) (h:DZ ws t x=some y):Rd (vM g ws) w t y cs:=by
 refine VJ (g:=g) (g':=vM g ws) rfl (DZ ws) (fun a b x=>rfl) (fun t x=>rfl) (fun _=>rfl) (fun _ _=>rfl) (fun _=>rfl) (fun _=>rfl) (fun _=>rfl) (fun _ _ x y cs h r=> ?_) (fun x y cs h r=> ?_) (fun x y cs h r=> ?_) (fun x y cs h r=> ?_) (fun _=>rfl) r h
 .cases x with
  |none=>cases h;exact r
  |some q=>
   obtain⟨k,n⟩:=q;simp only[DZ,aAf] at h;cases hc:wJ k ws 0 with
   |none=>rw[hc] at h;cases h
   |some c=>
    rw[hc] at h;cases h;obtain⟨d,rfl,h2⟩:=NM hc;obtain⟨v,hv,hs⟩:=r;refine⟨v,?_,hs⟩;show CE g ws[0+d]? n=_;rw[aVF,h2];exact hv
 .cases x with
  |none=>cases h;exact r
  |some q=>
   obtain⟨i,o⟩:=q;simp only[DZ,TT] at h;cases hc:HA i o ws 0 with
   |none=>rw[hc] at h;cases h
   |some q=>
    obtain⟨c,q⟩:=q;rw[hc] at h;cases h;obtain⟨d,u,x,toks,oc,rfl,h2,rfl⟩:=VI hc;obtain⟨p,hp,hv⟩:=r;refine⟨⟨p.1,p.2+oc,p.3⟩,?_,by have:=hv.1;rwa [<-aVS] at this,hv.2.imp id fun hv=>by rw[hv];simp [aVS]⟩;show wD g ws[0+d]? =_;rw[aVF,h2];simp [wD,hp]
 .cases x with
  |none=>cases h;exact r
  |some q=>
   obtain⟨i,o⟩:=q;simp only[DZ,TT] at h;cases hc:HA i o ws 0 with
   |none=>rw[hc] at h;cases h
   |some q=>
    obtain⟨c,q⟩:=q;rw[hc] at h;cases h;obtain⟨d,u,x,toks,oc,rfl,h2,rfl⟩:=VI hc;obtain⟨p,hp,hv⟩:=r;refine⟨⟨p.1,p.2+oc,p.3⟩,?_,by rw[hv];simp [aVS]⟩;show wD g ws[0+d]? =_;rw[aVF,h2];simp [wD,hp]
 .cases x with
  |none=>cases h;exact r
  |some i=>
   simp only[DZ,aAe] at h;cases hc:wJ i ws 0 with
   |none=>rw[hc] at h;cases h
   |some c=>
    rw[hc] at h;cases h;obtain⟨d,rfl,h2⟩:=NM hc;obtain⟨p,hp,hv⟩:=r;refine⟨p,?_,hv⟩;show wD g ws[0+d]? =_;rw[aVF,h2];exact hp
theorem aLn {g:Gh}{w:pU}{ws:List rU}{t:Ty}{x y:t.den}{cs:pQ}(h:a0Q ws t x y) (r:Rd g w t x cs):Rd (vM g ws) w t y cs:=by
 rcases h with⟨hp,rfl⟩ |h
 .exact w7 (g:=g) (g':=vM g ws) rfl hp r
 .exact aLm r h
theorem aLo {ws:List rU}{t u:Ty}{x y:t.den}{o:Nat}{l:List u.den}(h:a0Q ws t x y) (hg:rN (.list u) t x o=some l):rN (.list u) t y o=some l:=by
 rcases h with⟨_,rfl⟩ |h
 .exact hg
 .exact a0S (DZ ws) (fun _ _ _=>rfl) (fun _ _=>rfl) h hg
structure R0 (H:sD) (ws:List rU) (L:List qH):Prop where
 len:ws.length=L.length
 ok: ∀(c:Nat) wh b,ws[c]? =some wh->L[c]? =some b->VH H ws wh b
 nodup:(sI ws).Nodup
theorem a0T: ∀(ws:List rU) (c:Nat),(sI ws)[c]? =(ws[c]?).map rU.id
 |[],c=>by simp [sI]
 |w::ws,0=>rfl
 |w::ws,c+1=>by simpa[sI] using a0T ws c
theorem J6: ∀ws ws':List rU,sI (ws++ws')=sI ws++sI ws'
 |[],_=>rfl
 |w::ws,ws'=>by simp [sI,J6 ws ws']
theorem LD: ∀{i:Nat}{l:pT},DY i l=true↔i∈l
 |i,[]=>by simp [DY]
 |i,j::r=>by
  simp only[DY,aVs];by_cases h:i=j
  .simp [h]
  .rw[aVa h,LD];simp [h]
theorem VK {ws:List rU}(h:(sI ws).Nodup) {c c':Nat}{x y:rU}(hx:ws[c]? =some x) (hy:ws[c']? =some y) (he:x.id=y.id):c=c':=by
 have h1:(sI ws)[c]? =some x.id:=by rw[a0T,hx];rfl
 have h2:(sI ws)[c']? =some x.id:=by rw[a0T,hy,he];rfl
 obtain⟨l1,e1⟩:=aVq.1 h1;obtain⟨l2,e2⟩:=aVq.1 h2;have hp:=aWe.1 h;rcases Nat.lt_trichotomy c c' with h3|h3|h3
 .exact absurd (e1.trans e2.symm) (hp c c' l1 l2 h3)
 .exact h3
 .exact absurd (e2.trans e1.symm) (hp c' c l2 l1 h3)
theorem aBz: ∀{toks:pO}{q k:Nat},xO toks q=some k->(q,k)∈toks
 |[],_,_,h=>by simp [xO] at h
 |(q',k')::r,q,k,h=>by
  simp only[xO] at h;split at h
  .rename_i e;subst e;simp only[aU9] at h;subst h;simp
  .exact aVr _ (aBz h)
theorem aLp {v t:Ty}: ∀{u:Ty}{x:u.den}{o q:Nat}{y:t.den}{l:(Ty.list v).den},rN t u x o=some y->rN (.list v) u x (o+q)=some l->q<t.cells->rN (.list v) t y q=some l:=by
 intro u
 induction u with
 |pair a b iha ihb=>
  intro x o q y l h g hq;by_cases hu:o=0/\t= .pair a b
  .obtain⟨rfl,rfl⟩:=hu;unfold rN at h;rw[aXm rfl] at h;simp only[uV,aU9] at h;subst h;simpa using g
  .have keyh:(if o<a.cells then rN t a x.1 o else rN t b x.2 (o-a.cells))=some y:=by
    cases o with
    |zero=>
     unfold rN at h;rw[aWW (fun e=>hu ⟨rfl,e.symm⟩)] at h;simpa using h
    |succ o=>simpa[rN] using h
   have keyg: ∀z,rN (.list v) (.pair a b) x z=(if z<a.cells then rN (.list v) a x.1 z else rN (.list v) b x.2 (z-a.cells)):=by
    intro z;cases z with
    |zero=>
     conv=>lhs;unfold rN
     rw[aWW (by intro e;cases e),Nat.zero_sub]
    |succ z=>simp [rN]
   rw[keyg] at g;by_cases ho:o<a.cells
   .rw[aU8 ho] at keyh;have hfit:o+t.cells<=a.cells:=by
     have: ∀{u:Ty}{x:u.den}{o:Nat}{y:t.den},rN t u x o=some y->o+t.cells<=u.cells:=by
      intro u
      induction u with
      |pair a b iha ihb=>
       intro x o y h;have key: ∀o,(if o<a.cells then rN t a x.1 o else rN t b x.2 (o-a.cells))=some y->o+t.cells<=a.cells+b.cells:=by
        intro o h;by_cases ho:o<a.cells
        .rw[aU8 ho] at h;have:=iha h;omega
        .rw[aVa ho] at h;have:=ihb h;omega
       cases o with
       |zero=>
        unfold rN at h;split at h
        .rename_i e;subst e;simp
        .exact key 0 (by simpa using h)
       |succ o=>exact key (o+1) (by simpa[rN] using h)
      |_=>
       intro x o y h;cases o with
       |zero=>
        unfold rN at h;split at h
        .rename_i e;subst e;simp
        .simp at h
       |succ o=>simp [rN] at h
     exact this keyh
    rw[aU8 pJ] at g;exact iha keyh g hq
   .rw[aVa ho] at keyh;rw[aVa pJ,show o+q-a.cells=o-a.cells+q from by omega] at g;exact ihb keyh g hq
 |_=>
  intro x o q y l h g hq;cases o with
  |zero=>
   unfold rN at h;split at h
   .rename_i e;subst e;simp only[uV,aU9] at h
    try subst h
    simpa using g
   .simp at h
  |succ o=>simp [rN] at h
theorem aLq {g:Gh}{w:pU}{H:sD}{ws:List rU}{L:List qH}(hH:sK g w H) (hm:R0 H ws L):sK (vM g ws) w (qW 0 L):=by
 have wsL: ∀c b,qM (qW 0 L) c=some b->∃wh,ws[c]? =some wh/\VH H ws wh b:=by
  intro c b h;rw[yH] at h;have hlt:c<ws.length:=hm.len▸(aVq.1 h).1;exact⟨ws[c],aVj hlt,hm.ok c _ b (aVj hlt) h⟩
 have own: ∀c b wh,ws[c]? =some wh->VH H ws wh b->∀bb oo,sE (vM g ws) c b bb oo->∃blk,qM H wh.id=some blk/\sE g wh.id blk bb oo:=by
  intro c b wh hwh hw bb oo ho;cases wh with
  |box i u x toks off=>
   cases b with
   |cells t y ts=>
    obtain⟨h1,⟨y0,h2,h3⟩,h4⟩:=hw;obtain⟨p,hp,e1,e2,e3⟩:=ho;have hp':wD g ws[c]? =some p:=hp;rw[hwh] at hp';obtain⟨p0,hp0,rfl⟩:=aVo.1 hp';obtain⟨p1,cs,hp1,hR,_⟩:=hH.blk i _ h1;obtain⟨c1,c2,c3,hcs,hl,hR2⟩:=F0 hR h2;have l1:=sY hR;have l2:=sY hR2;rw[hcs] at l1;simp only[aVc] at l1;exact⟨_,h1,p0,hp0,e1,by simp at e2;omega,by simp at e3;omega⟩
   |_=>exact hw.elim
  |tok k=>
   cases b with
   |grow e cc m=>
    obtain⟨v,hv,hb⟩:=ho;have hv':CE g ws[c]? m=some v:=hv;rw[hwh] at hv';exact⟨_,hw,v,hv',hb⟩
   |map s t l=>
    obtain⟨p,hp,hb⟩:=ho;have hp':wD g ws[c]? =some p:=hp;rw[hwh] at hp';exact⟨_,hw.1,p,hp',hb⟩
   |row e t l m=>
    obtain⟨v,hv,hb⟩:=ho;have hv':CE g ws[c]? m=some v:=hv;rw[hwh] at hv';exact⟨_,hw.1,v,hv',hb⟩
   |_=>exact hw.elim
 refine⟨fun c b h=> ?_,fun c c' b b' bb oo hne h1 h2 o1 o2=> ?_,hH.sl,hH.tab.1,fun c b bb oo h ho=> ?_⟩
 rotate_right
 .obtain⟨wh,hwh,hw⟩:=wsL c b h;obtain⟨k1,g1,p1⟩:=own c b wh hwh hw bb oo ho;exact hH.tab.2 _ _ bb oo g1 p1
 .obtain⟨wh,hwh,hw⟩:=wsL c b h;cases wh with
  |box i u x toks off=>
   cases b with
   |cells t y ts=>
    obtain⟨h1,⟨y0,h2,h3⟩,h4⟩:=hw;obtain⟨p,cs,hp,hR,hra,hth,hns,htk⟩:=hH.blk i _ h1;obtain⟨c1,c2,c3,rfl,rfl,hR2⟩:=F0 hR h2;have l1:=sY hR;have l2:=sY hR2;simp only[aVc] at l1;refine⟨⟨p.1,p.2+c1.length,p.3⟩,c2,?_,aLn h3 hR2,fun j v hv=> ?_,⟨fun j hj=> ?_,fun h0 s hs=>hth.2 pJ s hs⟩,fun j hj hs=> ?_,fun q n hm'=> ?_⟩
    .show wD g ws[c]? =_;rw[hwh];simp [wD,hp]
    .have:=hra (c1.length+j) v (by
      have hj':=(aVq.1 hv).1;rw[aVi,aVl pJ,aVY,aVt hj'];exact hv)
     rw[aVS];exact this
    .have:=hth.1 (c1.length+j) pJ;rw[aVS];exact this
    .exact hns (c1.length+j) pJ (by rw[<-aVS];exact hs)
    .obtain⟨k,k1,k2,k3⟩:=h4 q n hm';have hmem:(c1.length+q,k)∈toks:=aBz k2;obtain⟨u',l,v,g1,g2,g3⟩:=htk _ _ hmem;refine⟨u',l,v,aLo h3 (aLp h2 g1 k3),?_,?_⟩
     .rw[aVi,aVl pJ,aVY,aVt pJ] at g2;exact g2
     .show CE g ws[n]? _=_;rw[k1];exact g3
   |_=>exact hw.elim
  |tok k=>
   cases b with
   |grow e cc m=>
    have e1:(vM g ws).cur c=g.cur k:=by
     funext n;show CE g ws[c]? n=_;rw[hwh];rfl
    obtain⟨v,xs,hv,hr,hn,hs⟩:=hH.blk k _ hw;exact⟨v,xs,by rw[e1];exact hv,hr,fun m hm'=>by rw[e1];exact hn m hm',hs⟩
   |map s t l=>
    obtain⟨p,es,cl,hp,hp0,hh,hM,hS⟩:=hH.blk k _ hw.1;refine⟨p,es,cl,?_,hp0,hh,QM (g:=g) (g':=vM g ws) rfl hw.2.1 hw.2.2 hM,hS⟩;show wD g ws[c]? =_;rw[hwh];exact hp
   |row e t l m=>
    have e1:(vM g ws).cur c=g.cur k:=by
     funext n;show CE g ws[c]? n=_;rw[hwh];rfl
    obtain⟨hl,v,xs,hv,hr,hF,hn,hs⟩:=hH.blk k _ hw.1;exact⟨hl,v,xs,by rw[e1];exact hv,hr,D8 (fun _ _ h=>w7 (g:=g) (g':=vM g ws) rfl hw.2 h) hF,fun m hm'=>by rw[e1];exact hn m hm',hs⟩
   |_=>exact hw.elim
 .obtain⟨wh,hwh,hw⟩:=wsL c b h1;obtain⟨wh',hwh',hw'⟩:=wsL c' b' h2;obtain⟨k1,g1,p1⟩:=own c b wh hwh hw bb oo o1;obtain⟨k2,g2,p2⟩:=own c' b' wh' hwh' hw' bb oo o2;exact hH.dis wh.id wh'.id k1 k2 bb oo (fun e=>hne (VK hm.nodup hwh hwh' e)) g1 g2 p1 p2
theorem aBA {H:sD}{ws more:List rU}: ∀{wh:rU}{b:qH},VG H ws wh b->VG H (ws++more) wh b
 | .box _ _ _ _ _,.cells _ _ _,⟨h1,h2,h4⟩=>⟨h1,h2,fun q n h=>let ⟨k,k1,k2⟩:=h4 q n h;⟨k,by rw[aVt (aVq.1 k1).1];exact k1,k2⟩⟩
 | .box _ _ _ _ _,.grow _ _ _,h=>h.elim
 | .box _ _ _ _ _,.dead,h=>h.elim
 | .box _ _ _ _ _,.row _ _ _ _,h=>h.elim
 | .box _ _ _ _ _,.map _ _ _,h=>h.elim
 | .box _ _ _ _ _,.iter _ _,h=>h.elim
 | .tok _,.iter _ _,h=>h.elim
 | .tok _,.row _ _ _ _,h=>h
 | .tok _,.grow _ _ _,h=>h
 | .tok _,.map _ _ _,h=>h
 | .tok _,.cells _ _ _,h=>h.elim
 | .tok _,.dead,h=>h.elim
theorem NN (g:Gh) (w:pU) (ws more:List rU):Le (vM g ws) w (vM g (ws++more)) w:=by
 refine⟨fun _ _ h=>h,fun _ _ _=>rfl,fun c p h=> ?_,fun c n v h=> ?_⟩
 .have h':wD g ws[c]? =some p:=h;show wD g (ws++more)[c]? =some p;cases hc:ws[c]? with
  |none=>rw[hc] at h';cases h'
  |some wh=>rw[aVt (aVq.1 hc).1];exact h'
 .have h':CE g ws[c]? n=some v:=h;show CE g (ws++more)[c]? n=some v;cases hc:ws[c]? with
  |none=>rw[hc] at h';cases h'
  |some wh=>rw[aVt (aVq.1 hc).1];exact h'
theorem NO {g g':Gh}{w w':pU}(h:Le g w g' w'): ∀{ss:List qI}{vs:pQ},vV g w ss vs->vV g' w' ss vs
 |[],_,r=>r
 |_::_,_,⟨v,vs',e,r1,r2⟩=>⟨v,vs',e,CC h r1,NO h r2⟩
theorem J7 {g:Gh}{w:pU}: ∀{ss:List qI}{vs:pQ}{s:qI}{v:pV},vV g w ss vs->s3 g w s v->vV g w (ss++[s]) (vs++[v])
 |[],_,_,_,h,k=>by rw[show _=[] from h];exact⟨_,_,rfl,k,rfl⟩
 |_::_,_,_,_,⟨v,vs',e,r1,r2⟩,k=>⟨v,vs'++_,by rw[e];rfl,r1,J7 r2 k⟩
theorem HK.tok {H:sD}{ws:List rU}{L:List qH}(h:HK H ws L) {k:Nat}{b0:qH}(hk:VG H (ws++[.tok k]) (.tok k) b0) (hn:k∉sI ws):HK H (ws++[.tok k]) (L++[b0]):=by
 refine⟨by simp [h.len],fun i wh b h1 h2=> ?_,?_⟩
 .by_cases hi:i<ws.length
  .rw[aVt hi] at h1;rw[aVt (h.len▸hi)] at h2;exact aBA (h.ok i wh b h1 h2)
  .rw[aVl pJ] at h1;rw[aVl (by rw[<-h.len];omega),<-h.len] at h2;obtain⟨d,hd⟩: ∃d,i-ws.length=d:=⟨_,rfl⟩;rw[hd] at h1 h2;cases d with
   |zero=>
    simp only[aVI,aU9] at h1 h2;subst h1;subst h2;exact hk
   |succ d=>simp at h1
 .rw[J6];exact List.nodup_append.2 ⟨h.nodup,by simp [sI],fun a ha b hb=>by
   simp only[sI,rU.id,aVm] at hb;subst hb;intro e;exact hn (e▸ha)⟩
theorem aBB: ∀{os:pT}{n q m:Nat},(q,m)∈KR os n->∃j:Nat,os[j]? =some q/\m=n+j
 |[],_,_,_,h=>by simp [KR] at h
 |q'::os,n,q,m,h=>by
  simp only[KR,aVs,aVD] at h;rcases h with⟨rfl,rfl⟩ |h
  .exact⟨0,rfl,rfl⟩
  .obtain⟨j,h1,h2⟩:=aBB h;exact⟨j+1,by simpa using h1,pJ⟩
theorem aBC {n:Nat}: ∀{os:pT}{j q:Nat},MX n os=true->os[j]? =some q->q<n
 |[],_,_,_,h=>by simp at h
 |q'::os,0,q,h,h2=>by
  simp only[MX,aVg,aVf] at h;simp only[aVI,aU9] at h2;exact h2▸h.1
 |q'::os,j+1,q,h,h2=>by
  simp only[MX,aVg] at h;exact aBC h.2 (by simpa using h2)
theorem VL {H:sD}{toks:pO}{o:Nat}: ∀{os:pT}{a a':tH},yT H toks o os (some a)=some a'->
  ∃(ks:pT) (bs:List qH),ks.length=os.length/\bs.length=os.length/\a'.args=a.args/\a'.H.reverse=a.H.reverse++bs/\a'.ws.reverse=a.ws.reverse++ks.map rU.tok/\a'.n=a.n+os.length/\
   (∀(j:Nat) q k,os[j]? =some q->ks[j]? =some k->xO toks (o+q)=some k)/\(∀(j:Nat) k b,ks[j]? =some k->bs[j]? =some b->qM H k=some b/\∃e c m,b= .grow e c m)/\(∀k∈ks,k∉sI a.ws.reverse)/\ks.Nodup
 |[],a,a',h=>by
  simp only[yT,aU9] at h;subst h;exact⟨[],[],rfl,rfl,rfl,by simp,by simp,rfl,by simp,by simp,by simp,by simp⟩
 |q::os,a,a',h=>by
  simp only[yT] at h;have none_no: ∀os,yT H toks o os none=none:=by
   intro os
   induction os with
   |nil=>rfl
   |cons q os ih=>
    have:zW H (xO toks (o+q)) none=none:=by
     cases xO toks (o+q) with
     |none=>rfl
     |some k=>simp only[zW];cases qM H k with
      |none=>rfl
      |some b=>cases b<;>rfl
    simp only[yT,this,ih]
  cases hk:xO toks (o+q) with
  |none=>rw[hk] at h;simp only[zW,none_no] at h;cases h
  |some k=>
   rw[hk] at h;simp only[zW] at h;cases hb:qM H k with
   |none=>rw[hb] at h;simp only[D0,none_no] at h;cases h
   |some b=>
    rw[hb] at h;cases b with
    |grow e c m=>
     simp only[D0] at h;by_cases hm:DY k (sI a.ws)=true
     .rw[aU8 hm,none_no] at h;cases h
     .rw[aVa hm] at h;obtain⟨ks,bs,h1,h2,h3,h4,h5,h6,h7,h8,h9,h10⟩:=VL h;simp only[aV0] at h4 h5 h9;have hrev: ∀ws:List rU,∀i,i∈sI ws.reverse↔i∈sI ws:=by
       intro ws i
       induction ws with
       |nil=>simp
       |cons x r ih=>rw[aV0,J6];simp [sI,ih,or_comm]
      refine⟨k::ks,.grow e c m::bs,by simp [h1],by simp [h2],h3,by rw[h4];simp,by rw[h5];simp,by rw[h6];simp;omega,fun j q' k'=> ?_,fun j k' b'=> ?_,fun k' hk'=> ?_,?_⟩
      .cases j with
       |zero=>intro e1 e2;simp only[aVI,aU9] at e1 e2;subst e1;subst e2;exact hk
       |succ j=>intro e1 e2;exact h7 j q' k' (by simpa using e1) (by simpa using e2)
      .cases j with
       |zero=>intro e1 e2;simp only[aVI,aU9] at e1 e2;subst e1;subst e2;exact⟨hb,_,_,_,rfl⟩
       |succ j=>intro e1 e2;exact h8 j k' b' (by simpa using e1) (by simpa using e2)
      .rcases aVs.1 hk' with rfl|hk'
       .rw[hrev];exact fun hmem=>hm (LD.2 hmem)
       .intro hmem;exact h9 k' hk' (by rw[J6];exact List.mem_append_left _ hmem)
      .refine List.nodup_cons.2 ⟨fun hmem=>h9 k hmem (by rw[J6];simp [sI,rU.id]),h10⟩
    |cells t y ts=>simp only[D0,none_no] at h;cases h
    |row=>simp only[D0,none_no] at h;cases h
    |map=>simp only[D0,none_no] at h;cases h
    |iter=>simp only[D0,none_no] at h;cases h
    |dead=>simp only[D0,none_no] at h;cases h
theorem aBD: ∀ks:pT,sI (ks.map rU.tok)=ks
 |[]=>rfl
 |k::ks=>by simp [sI,rU.id,aBD ks]
theorem HK.box {H:sD}{ws:List rU}{L:List qH}(h:HK H ws L) {t u:Ty}{x:u.den}{y:t.den}{toks:pO}{i o:Nat}{os ks:pT}{bs:List qH}(hi:qM H i=some (.cells u x toks)) (hy:rN t u x o=some y) (hlt:MX t.cells os=true) (hn:i∉sI ws)
  (h1:ks.length=os.length) (h2:bs.length=os.length) (h7: ∀(j:Nat) q k,os[j]? =some q->ks[j]? =some k->xO toks (o+q)=some k) (h8: ∀(j:Nat) k b,ks[j]? =some k->bs[j]? =some b->qM H k=some b/\∃e c m,b= .grow e c m) (h9: ∀k∈ks,k∉sI (ws++[.box i u x toks o])) (h10:ks.Nodup):
  HK H ((ws++[.box i u x toks o])++ks.map rU.tok) ((L++[.cells t y (KR os (ws.length+1))])++bs):=by
 have hlen1:(ws++[rU.box i u x toks o]).length=ws.length+1:=by simp
 have hlen2:(L++[qH.cells t y (KR os (ws.length+1))]).length=ws.length+1:=by simp [h.len]
 refine⟨by simp [h.len,h1,h2],fun c wh b e1 e2=> ?_,?_⟩
 .by_cases hc:c<ws.length
  .rw[aVt pJ,aVt hc] at e1;rw[aVt pJ,aVt (h.len▸hc)] at e2;rw[aVi];exact aBA (h.ok c wh b e1 e2)
  .by_cases hc2:c=ws.length
   .subst hc2;rw[aVt pJ,aVl (aVp _),aXd] at e1;rw[aVt pJ,aVl (by rw[h.len];exact aVp _),h.len,aXd] at e2;simp only[aVI,aU9] at e1 e2;subst e1;subst e2;refine⟨hi,hy,fun q n hm=> ?_⟩;rw[<-h.len] at hm;obtain⟨j,hj,rfl⟩:=aBB hm;have hjl:j<ks.length:=by rw[h1];exact(aVq.1 hj).1
    refine⟨ks[j],?_,h7 j q _ hj (aVj hjl),aBC hlt hj⟩;rw[aVl pJ,hlen1,show ws.length+1+j- (ws.length+1)=j from by omega];simp [hjl]
   .rw[aVl pJ,hlen1] at e1;rw[aVl pJ,hlen2] at e2;rw[List.getElem?_map] at e1;obtain⟨k,hk,rfl⟩:=aVo.1 e1;obtain⟨hg,e,cc,m,rfl⟩:=h8 _ k b hk e2;exact hg
 .rw[J6,aBD];refine List.nodup_append.2 ⟨?_,h10,fun a ha b hb e=>h9 b hb (e▸ha)⟩;rw[J6];exact List.nodup_append.2 ⟨h.nodup,by simp [sI],fun a ha b hb=>by
   simp only[sI,rU.id,aVm] at hb;subst hb;intro e;exact hn (e▸ha)⟩
theorem VM (ws:List rU) (i:Nat):i∈sI ws.reverse↔i∈sI ws:=by
 induction ws with
 |nil=>simp
 |cons x r ih=>rw[aV0,J6];simp [sI,ih,or_comm]
structure CF (g:Gh) (w:pU) (H:sD) (vals:pQ) (a:tH):Prop where
 n:a.n=a.ws.reverse.length
 m:HK H a.ws.reverse a.H.reverse
 args:vV (vM g a.ws.reverse) w a.args.reverse vals
theorem aLr {g:Gh}{w:pU}{ws:List rU}{t:Ty}(hp:t.pure=true) {x:t.den}{v:pV}{k:pS}(h:s3 g w (.val t x,k) v):s3 (vM g ws) w (.val t x,none) v:=
 ⟨h.1.imp (fun⟨a,cs,e,q⟩=>⟨a,cs,e,w7 (g:=g) (g':=vM g ws) rfl hp q⟩) (fun⟨a,q⟩=>⟨a,w7 (g:=g) (g':=vM g ws) rfl hp q⟩),trivial⟩
theorem aLs {H:sD}{k:pS}{a b:tH}{l m:List qI}(h:zW H k (some ⟨l,a.H,a.ws,a.n⟩)=some b):b.args=l/\zW H k (some ⟨m,a.H,a.ws,a.n⟩)=some ⟨m,b.H,b.ws,b.n⟩:=by
 cases k with
 |none=>cases h
 |some k=>
  simp only[zW] at h|-;cases hb:qM H k with
  |none=>rw[hb] at h;simp [D0] at h
  |some bl=>
   rw[hb] at h;cases bl with
   |grow e c n=>
    simp only[D0] at h|-;split at h
    .cases h
    .rename_i hc;rw[aVa hc];cases h;exact⟨rfl,rfl⟩
   |_=>simp [D0] at h
theorem aBE {H:sD}{toks:pO}{o:Nat}{m:List qI}: ∀{os:pT}{a b:tH},yT H toks o os (some a)=some b->b.args=a.args/\yT H toks o os (some ⟨m,a.H,a.ws,a.n⟩)=some ⟨m,b.H,b.ws,b.n⟩
 |[],a,b,h=>by simp only[yT,aU9] at h;subst h;exact⟨rfl,rfl⟩
 |q::os,a,b,h=>by
  simp only[yT] at h|-;have none_no: ∀os,yT H toks o os none=none:=by
   intro os
   induction os with
   |nil=>rfl
   |cons q os ih=>
    have:zW H (xO toks (o+q)) none=none:=by
     cases xO toks (o+q) with
     |none=>rfl
     |some k=>simp only[zW];cases qM H k with
      |none=>rfl
      |some b=>cases b<;>rfl
    simp only[yT,this,ih]
  cases hm:zW H (xO toks (o+q)) (some a) with
  |none=>rw[hm,none_no] at h;cases h
  |some c=>
   rw[hm] at h;obtain⟨h1,h2⟩:=aLs (a:=a) (l:=a.args) (m:=m) hm;obtain⟨h3,h4⟩:=aBE (m:=m) h;rw[h2];exact⟨h3.trans h1,h4⟩
theorem aLt {H:sD}{t:Ty}{os:pT}{i o:Nat}{a b:tH}{m:List qI}(h:w6 H t os i o a (qM H i)=some b):w6 H t os i o ⟨m,a.H,a.ws,a.n⟩ (qM H i)=some ⟨(.val .ref (some (a.n,0)),none)::m,b.H,b.ws,b.n⟩:=by
 cases hb:qM H i with
 |none=>rw[hb] at h;simp [w6] at h
 |some bl=>
  rw[hb] at h;cases bl with
  |cells u x toks=>
   simp only[w6] at h|-;cases hy:rN t u x o with
   |none=>rw[hy] at h;simp [FZ] at h
   |some y=>
    rw[hy] at h;simp only[FZ] at h|-;split at h
    .rename_i hc;rw[aU8 hc];exact(aBE (m:=(.val .ref (some (a.n,0)),none)::m) h).2
    .cases h
  |_=>simp [w6] at h
theorem aBF {g:Gh}{i o:Nat}{p:Pl}{v:pV}: ∀{l:pO}{vs:pQ},yG g l vs->g.J i=some p->v= .pointer (some ⟨p.1,p.2+o,none⟩)->yG g (l++[(i,o)]) (vs++[v])
 |[],vs,h,hp,hv=>by rw[show vs=[] from h];exact⟨p,[],hp,by rw[hv];rfl,rfl⟩
 |(_,_)::l,vs,⟨q,vs',h1,h2,h3⟩,hp,hv=>⟨q,vs'++[v],h1,by rw[h2];rfl,aBF h3 hp hv⟩
theorem aBG {α:Type}: ∀(l acc:List α),zV l acc=l.reverse++acc
 |[],_=>rfl
 |x::l,acc=>by simp [zV,aBG l]
theorem aBH {g:Gh}{w:pU}{H:sD}(hH:sK g w H) {t:Ty}{os:pT}{i o:Nat}{vals:pQ}{a a':tH}(ha:CF g w H vals a) {p:Pl}(hp:g.J i=some p) (h:w6 H t os i o a (qM H i)=some a'):
  CF g w H vals ⟨a.args,a'.H,a'.ws,a'.n⟩/\∃more,a'.ws.reverse=a.ws.reverse++more/\a'.args=(.val .ref (some (a.n,0)),none)::a.args/\(vM g a'.ws.reverse).J a.n=some ⟨p.1,p.2+o,p.3⟩:=by
 cases hb:qM H i with
 |none=>rw[hb] at h;simp [w6] at h
 |some b=>
  rw[hb] at h;cases b with
  |cells u x toks=>
   simp only[w6] at h;cases hy:rN t u x o with
   |none=>rw[hy] at h;simp [FZ] at h
   |some y=>
    rw[hy] at h;simp only[FZ] at h;split at h
    .rename_i hc;simp only[aVg,aVG] at hc;obtain⟨ks,bs,h1,h2,h3,h4,h5,h6,h7,h8,h9,h10⟩:=VL h;simp only[aV0] at h3 h4 h5 h6 h9;have hnm:i∉sI a.ws.reverse:=fun hmem=>by
      have:=LD.2 ((VM _ _).1 hmem);rw[hc.2] at this;cases this
     have e5:a'.ws.reverse=a.ws.reverse++([rU.box i u x toks o]++ks.map rU.tok):=by rw[h5];simp only[aVi]
     refine⟨⟨by rw[h6];simp only;rw[h5,ha.n];simp [h1];omega,?_,?_⟩,_,e5,h3,?_⟩
     .simp only;rw[h4,h5,ha.n];exact ha.m.box hb hy hc.1 hnm h1 h2 h7 h8 h9 h10
     .simp only;rw[e5];exact NO (NN g w _ _) ha.args
     .show wD g a'.ws.reverse[a.n]? =_;rw[e5,ha.n,aVl (aVp _),aXd];show (g.J i).map _=_;rw[hp];rfl
    .cases h
  |grow=>simp [w6] at h
  |row=>simp [w6] at h
  |map=>simp [w6] at h
  |iter=>simp [w6] at h
  |dead=>simp [w6] at h
theorem aBI {H:sD}{f:FuncId}{args0:List qI}: ∀{ks:List (Ty×pT)}{cs ids:pO}{a a':tH},xY H f args0 ks cs ids (some a)=some a'->∃s more,a'.args=s::args0/\a'.ws.reverse=a.ws.reverse++more
 |[],[],ids,a,a',h=>by
  simp only[xY,aU9] at h;subst h;exact⟨_,[],rfl,by simp⟩
 |[],_::_,_,_,_,h=>by simp [xY] at h
 |_::_,[],_,_,_,h=>by simp [xY] at h
 |(t,os)::ks,(i,o)::cs,ids,a,a',h=>by
  simp only[xY] at h;cases hb:w6 H t os i o a (qM H i) with
  |none=>rw[hb] at h;cases ks<;>cases cs<;>simp [xY] at h
  |some b=>
   rw[hb] at h;obtain⟨s,more,h1,h2⟩:=aBI h;obtain⟨more0,h3⟩: ∃more0,b.ws.reverse=a.ws.reverse++more0:=by
    unfold w6 at hb;split at hb
    .unfold FZ at hb;split at hb
     .split at hb
      .obtain⟨ks,bs,_,_,_,_,h5,_⟩:=VL hb;exact⟨_,by rw[h5];simp only[aV0];exact aVi ..⟩
      .cases hb
     .cases hb
    .cases hb
   exact⟨s,more0++more,h1,by rw[h2,h3,aVi]⟩
theorem aBJ {g:Gh}{w:pU}{H:sD}(hH:sK g w H) {f:FuncId}{args0:List qI}{vals:pQ}: ∀{ks:List (Ty×pT)}{cs:pO}{ids:pO}{vs us:pQ}{a a':tH},CF g w H vals ⟨args0,a.H,a.ws,a.n⟩->
  yG g cs vs->yG (vM g a.ws.reverse) ids.reverse us->xY H f args0 ks cs ids (some a)=some a'->
  CF g w H vals ⟨args0,a'.H,a'.ws,a'.n⟩/\∃ids',a'.args=(.val .clo (some (f,ids')),none)::args0/\(∃more,a'.ws.reverse=a.ws.reverse++more)/\yG (vM g a'.ws.reverse) ids' (us++vs)
 |[],[],ids,vs,us,a,a',ha,hv,hu,h=>by
  simp only[xY,aBG,List.append_nil,aU9] at h;subst h;rw[show vs=[] from hv,List.append_nil];exact⟨ha,_,rfl,⟨[],by simp⟩,hu⟩
 |[],_::_,_,_,_,_,_,_,_,_,h=>by simp [xY] at h
 |_::_,[],_,_,_,_,_,_,_,_,h=>by simp [xY] at h
 |(t,os)::ks,(i,o)::cs,ids,vs,us,a,a',ha,⟨p,vs',hp,hv1,hv2⟩,hu,h=>by
  simp only[xY] at h;cases hb:w6 H t os i o a (qM H i) with
  |none=>rw[hb] at h;cases ks<;>cases cs<;>simp [xY] at h
  |some b=>
   rw[hb] at h;have hb':w6 H t os i o ⟨args0,a.H,a.ws,a.n⟩ (qM H i)=some ⟨(.val .ref (some (a.n,0)),none)::args0,b.H,b.ws,b.n⟩:=aLt hb;obtain⟨q1,more,q2,q3,q4⟩:=aBH hH ha hp hb';simp only at q1 q2 q3 q4;have hmono:=NN g w a.ws.reverse more;rw[<-q2] at hmono;have hu2:yG (vM g b.ws.reverse) ((a.n,0)::ids).reverse (us++[.pointer (some ⟨p.1,p.2+o,none⟩)]):=by
    simp only[aV0];exact aBF (a0n hmono.J hu) q4 pL
   obtain⟨z1,ids',z2,⟨more',z3⟩,z4⟩:=aBJ hH (a:=b) q1 hv2 hu2 h;refine⟨z1,ids',z2,⟨more++more',by rw[z3,q2,aVi]⟩,?_⟩;rw[hv1];rw[aVi] at z4;exact z4
theorem aBK {g:Gh}{w:pU}{H:sD}(hH:sK g w H) {p:PK}{s:qI}{v:pV}{vals:pQ}{a a':tH}(ha:CF g w H vals a) (hs:s3 g w s v) (h:yD H a p s=some a'):CF g w H (vals++[v]) a':=by
 unfold yD at h;split at h
 .rename_i f k;simp only[TS,aU9] at h;subst h;refine⟨ha.n,ha.m,?_⟩;simp only[aV0];refine J7 ha.args ⟨?_,trivial⟩;rcases hs.1 with⟨h1,_⟩ |⟨h1,vs,h2,h3⟩
  .cases h1
  .rw[show vs=[] from h2] at h3;exact .inr ⟨rfl,[],rfl,h3⟩
 .rename_i t x k _;simp only[TR] at h;split at h
  .rename_i hp;simp only[aU9] at h;subst h;refine⟨ha.n,ha.m,?_⟩;simp only[aV0];exact J7 ha.args (aLr hp hs)
  .cases h
 .rename_i t x k;cases hb:qM H k with
  |none=>rw[hb] at h;simp [D1] at h
  |some b=>
   rw[hb] at h;cases b with
   |grow e c m=>
    simp only[D1] at h;split at h
    .rename_i hc;simp only[aVg,aVG] at hc;simp only[aU9] at h;subst h;have hnm:k∉sI a.ws.reverse:=fun hmem=>by
      have:=LD.2 ((VM _ _).1 hmem);rw[hc.2] at this;cases this
     refine⟨by simp [ha.n],by simpa using ha.m.tok (b0:= .grow e c m) hb hnm,?_⟩;simp only[aV0];refine J7 (NO (NN g w _ _) ha.args) (VF (g:=g) (g':=vM g (a.ws.reverse++[.tok k])) (k':=some a.n) rfl hc.1 hs (fun c' e1=> ?_) (fun e1=>by cases e1));cases e1;refine⟨_,rfl,fun n u hu=> ?_⟩;show CE g (a.ws.reverse++[rU.tok k])[a.n]? n=some u;rw[ha.n,aVl (aVp _),aXd];exact hu
    .cases h
   |cells=>simp [D1] at h
   |row=>simp [D1] at h
   |map=>simp [D1] at h
   |iter=>simp [D1] at h
   |dead=>simp [D1] at h
 .rename_i t os i o k;obtain⟨p,hp,hv⟩:=A0 hs.1;obtain⟨h1,more,h2,h3,h4⟩:=aBH hH ha hp h;refine⟨h1.n,h1.m,?_⟩;rw[h3];simp only[aV0];exact J7 h1.args ⟨.inr ⟨rfl,_,h4,by rw[hv];rfl⟩,trivial⟩
 .rename_i i k;cases hb:qM H i with
  |none=>rw[hb] at h;simp [D2] at h
  |some b=>
   rw[hb] at h;cases b with
   |map s t l=>
    simp only[D2] at h;split at h
    .rename_i hc;simp only[aVg,aVG] at hc;simp only[aU9] at h;subst h;have hnm:i∉sI a.ws.reverse:=fun hmem=>by
      have:=LD.2 ((VM _ _).1 hmem);rw[hc.2] at this;cases this
     refine⟨by simp [ha.n],by simpa using ha.m.tok (b0:= .map s t l) ⟨hb,hc.1.1,hc.1.2⟩ hnm,?_⟩;simp only[aV0];obtain⟨p,hp,hv⟩: ∃p,g.J i=some p/\v= .map (some p.1):=by
      obtain⟨p,h1,e⟩:=CD rfl hs.1;simp only[aV8,and_true] at e;exact⟨p,h1,e⟩
     refine J7 (NO (NN g w _ _) ha.args) ⟨.inr ⟨rfl,p,?_,by rw[hv]⟩,trivial⟩;show wD g (a.ws.reverse++[rU.tok i])[a.n]? =_;rw[ha.n,aVl (aVp _),aXd];exact hp
    .cases h
   |cells=>simp [D2] at h
   |row=>simp [D2] at h
   |grow=>simp [D2] at h
   |iter=>simp [D2] at h
   |dead=>simp [D2] at h
 .rename_i k n k';cases hb:qM H k with
  |none=>rw[hb] at h;simp [D3] at h
  |some b=>
   rw[hb] at h;cases b with
   |row e t l m=>
    simp only[D3] at h;split at h
    .rename_i hc;simp only[aVg,aVG] at hc;simp only[aU9] at h;subst h;have hnm:k∉sI a.ws.reverse:=fun hmem=>by
      have:=LD.2 ((VM _ _).1 hmem);rw[hc.2] at this;cases this
     refine⟨by simp [ha.n],by simpa using ha.m.tok (b0:= .row e t l m) ⟨hb,hc.1⟩ hnm,?_⟩;simp only[aV0];obtain⟨h1,h2⟩:=hs.1;refine J7 (NO (NN g w _ _) ha.args) ⟨⟨?_,h2⟩,trivial⟩;show CE g (a.ws.reverse++[rU.tok k])[a.n]? n=_;rw[ha.n,aVl (aVp _),aXd];exact h1
    .cases h
   |cells=>simp [D3] at h
   |grow=>simp [D3] at h
   |map=>simp [D3] at h
   |iter=>simp [D3] at h
   |dead=>simp [D3] at h
 .rename_i ks f cs k';obtain⟨vs,hv1,hv2⟩: ∃vs,yG g cs vs/\v= .func (.func f) #[] vs.toArray:=by
   rcases hs.1 with⟨h1,_⟩ |⟨_,vs,h2,h3⟩
   .cases h1
   .simp only[aV8,and_true] at h3;exact⟨vs,h2,h3⟩
  obtain⟨z1,ids',z2,_,z4⟩:=aBJ hH (ids:=[]) (a:=a) (us:=[]) ha hv1 rfl h;refine⟨z1.n,z1.m,?_⟩;rw[z2];simp only[aV0];exact J7 z1.args ⟨.inr ⟨rfl,vs,by simpa using z4,by rw[hv2]⟩,trivial⟩
 .cases h
theorem aBL {g:Gh}{w:pU}{H:sD}(hH:sK g w H): ∀{ps:List PK}{ss:List qI}{vs vals:pQ}{a a':tH},CF g w H vals a->vV g w ss vs->xZ H ps ss (some a)=some a'->CF g w H (vals++vs) a'
 |[],[],vs,vals,a,a',ha,hs,h=>by
  simp only[xZ,aU9] at h;subst h;rw[show vs=[] from hs,List.append_nil];exact ha
 |p::ps,s::ss,vs,vals,a,a',ha,⟨v,vs',e,h1,h2⟩,h=>by
  simp only[xZ] at h;cases ho:yD H a p s with
  |none=>rw[ho] at h;cases ps<;>cases ss<;>simp [xZ] at h
  |some a1=>
   rw[ho] at h;have:=aBL hH (aBK hH ha h1 ho) h2 h;rw[e];simpa using this
 |[],_::_,_,_,_,_,_,_,h=>by simp [xZ] at h
 |_::_,[],_,_,_,_,_,_,h=>by simp [xZ] at h
theorem CF.nil (g:Gh) (w:pU) (H:sD):CF g w H [] ⟨[],[],[],0⟩:=
 ⟨rfl,⟨rfl,fun c wh b h _=>by simp at h,by simp [sI]⟩,rfl⟩
theorem aBM: ∀(l:List qH) (n:Nat),IU l n=l[n]?
 |[],_=>by simp [IU]
 |_::_,0=>rfl
 |_::r,n+1=>by simpa[IU] using aBM r n
theorem aLu {g:Gh}{w:pU}: ∀{t:Ty}{x:t.den}{cs:pQ}{o:Nat}{y:pR},Rd g w t x cs->H9 t x o=some y->∃cs',E3 g y cs':=by
 intro t
 induction t with
 |pair a b iha ihb=>
  intro x cs o y r h;obtain⟨c1,c2,_,r1,r2⟩:=r;simp only[H9] at h;split at h
  .exact iha r1 h
  .exact ihb r2 h
 |rl e u=>
  intro x cs o y r h;cases o with
  |zero=>simp only[H9,aU9] at h;subst h;exact⟨cs,r⟩
  |succ o=>simp [H9] at h
 |_=>intro x cs o y r h;cases o<;>simp [H9] at h
theorem aLv {g:Gh}{w:pU}{H:sD}(hH:sK g w H) {vals:pQ}{a:tH}(ha:CF g w H vals a) (c q:Nat) (pk:PK): ∃v,s3 g w (KS q pk (IU a.H c)) v:=by
 rw[aBM];have any: ∃v,s3 g w (.any,none) v:=⟨undef,trivial,trivial⟩;cases hb:a.H[c]? with
 |none=>cases pk<;>exact any
 |some b=>
  cases b with
  |cells t y ts=>
   have hlt:c<a.H.length:=(aVq.1 hb).1;have hb':a.H.reverse[a.H.length-1-c]? =some (.cells t y ts):=by
    rw[List.getElem?_reverse pJ,show a.H.length-1- (a.H.length-1-c)=c by omega];exact hb
   obtain⟨wh,hwh⟩: ∃wh,a.ws.reverse[a.H.length-1-c]? =some wh:=by
    have hl:=ha.m.len;simp only[List.length_reverse] at hl;exact⟨_,aVj (by rw[List.length_reverse];omega)⟩
   have hw:=ha.m.ok _ wh _ hwh hb';cases wh with
   |tok k=>exact hw.elim
   |box i u x toks off=>
    obtain⟨h1,h2,_⟩:=hw;obtain⟨p,cs,hp,hR,_⟩:=hH.blk i _ h1;obtain⟨c1,c2,c3,hcs,hl,hR2⟩:=F0 hR h2;cases pk with
    |p t' os=>
     simp only[KS];cases hg:rN .ref t y q with
     |none=>exact any
     |some z=>
      cases z with
      |none=>exact any
      |some z=>
       obtain⟨d1,d2,d3,_,_,hR3⟩:=F0 hR2 hg;obtain⟨p',hp',e⟩:=hR3;exact⟨_,.inr ⟨rfl,p',hp',rfl⟩,trivial⟩
    |m=>
     simp only[KS];cases hg:rN .mp t y q with
     |none=>exact any
     |some z=>
      cases z with
      |none=>exact any
      |some z=>
       obtain⟨d1,d2,d3,_,_,hR3⟩:=F0 hR2 hg;obtain⟨p',hp',e⟩:=hR3;exact⟨_,.inr ⟨rfl,p',hp',rfl⟩,trivial⟩
    |v=>exact any
    |own=>exact any
    |f ks=>exact any
    |r=>
     simp only[KS];cases hg:H9 t y q with
     |none=>exact any
     |some z=>
      cases z with
      |none=>exact any
      |some z=>
       obtain⟨cs',hR3⟩:=aLu hR2 hg;obtain⟨v,hv,_,hsh⟩:=hR3;exact⟨v,⟨hv,hsh⟩,trivial⟩
  |_=>cases pk<;>exact any
theorem aBN {g:Gh}{w:pU}{H:sD}(hH:sK g w H) {vals:pQ}: ∀{gs:List (Nat×Nat×PK)}{a a':tH},CF g w H vals a->C8 H gs (some a)=some a'->CF g w H vals a'
 |[],a,a',ha,h=>by
  simp only[C8,aU9] at h;subst h;exact ha
 |(c,q,pk)::gs,a,a',ha,h=>by
  simp only[C8] at h;obtain⟨v,hv⟩:=aLv hH ha (a.n-1-c) q pk;cases hp:yD H a pk (KS q pk (IU a.H (a.n-1-c))) with
  |none=>
   rw[hp] at h;simp only[MY] at h;cases gs<;>simp [C8] at h
  |some b=>
   rw[hp] at h;simp only[MY] at h;have hb:=aBK hH ha hv hp;refine aBN hH (a:=⟨a.args,b.H,b.ws,b.n⟩) ⟨hb.n,hb.m,?_⟩ h;obtain⟨s,more,e1,e2⟩: ∃s more,b.args=s::a.args/\b.ws.reverse=a.ws.reverse++more:=by
    have hp':=hp;unfold yD at hp';split at hp'
    .simp only[TS,aU9] at hp';subst hp';exact⟨_,[],rfl,by simp⟩
    .simp only[TR] at hp';split at hp'
     .simp only[aU9] at hp';subst hp';exact⟨_,[],rfl,by simp⟩
     .cases hp'
    .unfold D1 at hp';split at hp'
     .split at hp'
      .simp only[aU9] at hp';subst hp';exact⟨_,[_],rfl,aV0 ..⟩
      .cases hp'
     .cases hp'
    .unfold w6 at hp';split at hp'
     .unfold FZ at hp';split at hp'
      .split at hp'
       .obtain⟨ks,bs,_,_,h3,_,h5,_⟩:=VL hp';exact⟨_,_,h3,by rw[h5];simp only[aV0];exact aVi ..⟩
       .cases hp'
      .cases hp'
     .cases hp'
    .unfold D2 at hp';split at hp'
     .split at hp'
      .simp only[aU9] at hp';subst hp';exact⟨_,[_],rfl,aV0 ..⟩
      .cases hp'
     .cases hp'
    .unfold D3 at hp';split at hp'
     .split at hp'
      .simp only[aU9] at hp';subst hp';exact⟨_,[_],rfl,aV0 ..⟩
      .cases hp'
     .cases hp'
    .exact aBI hp'
    .cases hp'
   rw[e2];exact NO (NN g w _ _) ha.args
theorem aLw {b:Option qH}{l:Option (List qH)}{r:List qH}(h:Z6 b l=some r): ∃b' l',b=some b'/\l=some l'/\r=b'::l':=by
 cases b<;>cases l<;>simp [Z6] at h
 exact⟨_,_,rfl,rfl,h.symm⟩
theorem aBO {W:List rU}: ∀{L0 L:List qH},IV W L0=some L->L.length=L0.length/\∀(c:Nat) (b:qH),L[c]? =some b->∃b0,L0[c]? =some b0/\TU W b0=some b
 |[],L,h=>by
  simp only[IV,aU9] at h;subst h;exact⟨rfl,fun c b h=>by simp at h⟩
 |b0::L0,L,h=>by
  simp only[IV] at h;obtain⟨b',l',h1,h2,rfl⟩:=aLw h;obtain⟨k1,k2⟩:=aBO h2;refine⟨by simp [k1],fun c b hc=> ?_⟩;cases c with
  |zero=>simp only[aVI,aU9] at hc;subst hc;exact⟨b0,rfl,h1⟩
  |succ c=>obtain⟨b1,q1,q2⟩:=k2 c b (by simpa using hc);exact⟨b1,by simpa using q1,q2⟩
theorem HK.ren {H:sD}{ws:List rU}{L0 L:List qH}(h:HK H ws L0) (hc:IV ws L0=some L):R0 H ws L:=by
 obtain⟨k1,k2⟩:=aBO hc;refine⟨h.len.trans k1.symm,fun c wh b hw hb=> ?_,h.nodup⟩;obtain⟨b0,q1,q2⟩:=k2 c b hb;have hok:=h.ok c wh b0 hw q1;cases b0 with
 |cells t y ts=>
  cases wh with
  |tok k=>exact hok.elim
  |box i u x toks o=>
   obtain⟨h1,h2,h3⟩:=hok;simp only[TU] at q2;split at q2
   .rename_i hp;obtain rfl:=aVe q2;exact⟨h1,⟨y,h2,.inl ⟨hp,rfl⟩⟩,h3⟩
   .cases hy:DZ ws t y with
    |none=>rw[hy] at q2;cases q2
    |some z=>
     rw[hy] at q2;obtain rfl:=aVe q2;exact⟨h1,⟨y,h2,.inr hy⟩,h3⟩
 |_=>
  simp only[TU,aU9] at q2;subst q2;cases wh<;>exact hok
theorem AY: ∀(W:List rU) (c:Nat),BM W c=W[c]?
  |[],c=>by simp [BM]
  |_::_,0=>rfl
  |_::W,c+1=>by simpa[BM] using AY W c
theorem aBP: ∀L:List qH,rF L=L.length
  |[]=>rfl
  |_::L=>by simp [rF,aBP L]
theorem aBQ {α:Type}: ∀(l acc:List α),zV l acc=l.reverse++acc
  |[],_=>rfl
  |x::l,acc=>by simp [zV,aBQ l]
theorem a0U {a:Option (Nat×qH)}{b:Option (List (Nat×qH))}{l:List (Nat×qH)}(h:Q1 a b=some l): ∃q r,a=some q∧b=some r∧l=q::r:=by
  cases a<;>cases b<;>simp [Q1] at h
  exact⟨_,_,rfl,rfl,h.symm⟩
def J8 (base n:Nat) (W ws:List rU) (R:List qH) (c0:Nat) (id:Nat) (b:qH):Prop:=
  (∃(c:Nat) (i:Nat) (u:Ty) (x:u.den) (toks:pO) (o:Nat) (b0:qH),ws[c]? =some (.box i u x toks o)∧id=i∧R[c]? =some b0∧y3 base n i o W u x toks b0=some (i,b))∨
  (∃(c k:Nat) (b0:qH),ws[c]? =some (.tok k)∧id=k∧R[c]? =some b0∧AP k b0=some (k,b))∨
  (∃(c:Nat) (b0:qH),R[c]? =some b0∧id=base+(c0+c)∧ws[c]? =none∧EV base n (c0+c) W b0=some (id,b))
theorem J8.succ {base n:Nat}{W:List rU}{wh:rU}{ws:List rU}{b0:qH}{R:List qH}{c0 id:Nat}{b:qH}(h:J8 base n W ws R (c0+1) id b):J8 base n W (wh::ws) (b0::R) c0 id b:=by
  rcases h with⟨c,i,u,x,toks,o,b1,h1,h2,h3,h4⟩ |⟨c,k,b1,h1,h2,h3,h4⟩ |⟨c,b1,h1,h2,h3,h4⟩
  .exact .inl ⟨c+1,i,u,x,toks,o,b1,by simpa using h1,h2,by simpa using h3,h4⟩
  .exact .inr (.inl ⟨c+1,k,b1,by simpa using h1,h2,by simpa using h3,h4⟩)
  .exact .inr (.inr ⟨c+1,b1,by simpa using h1,by rw[h2];omega,by simpa using h3,by rw[show c0+(c+1)=c0+1+c from by omega];exact h4⟩)
theorem J8.succ0 {base n:Nat}{W:List rU}{b0:qH}{R:List qH}{c0 id:Nat}{b:qH}(h:J8 base n W [] R (c0+1) id b):J8 base n W [] (b0::R) c0 id b:=by
  rcases h with⟨c,i,u,x,toks,o,b1,h1,_⟩ |⟨c,k,b1,h1,_⟩ |⟨c,b1,h1,h2,h3,h4⟩
  .simp at h1
  .simp at h1
  .exact .inr (.inr ⟨c+1,b1,by simpa using h1,by rw[h2];omega,by simp,by rw[show c0+(c+1)=c0+1+c from by omega];exact h4⟩)
theorem aBR {i:Nat}{t:Ty}{ts:pO}{o:Option t.den}{q:Nat×qH}(h:aAj i t ts o=some q): ∃y,o=some y∧q=(i,.cells t y ts):=by
  cases o with
  |none=>cases h
  |some y=>exact⟨y,rfl,(aVe h).symm⟩
theorem aLx {base n c:Nat}{W:List rU}{b:qH}{q:Nat×qH}(h:EV base n c W b=some q):q.1=base+c:=by
  cases b<;>simp only[EV] at h
  · split at h
    .exact(aVe h)▸rfl
    .obtain⟨y,_,rfl⟩:=aBR h;rfl
  .exact(aVe h)▸rfl
  · split at h
    .exact(aVe h)▸rfl
    .cases h
  · split at h
    .exact(aVe h)▸rfl
    .cases h
  .cases h
  .exact(aVe h)▸rfl
def bY (base n:Nat) (W:List rU) (t:Ty) (x y:t.den):Prop:=(t.pure=true∧y=x)∨D4 base n W t x=some y
theorem a0V {base n i o:Nat}{W:List rU}{u t:Ty}{x:u.den}{y:t.den}{toks ts:pO}{q:Nat×qH}(h:y3 base n i o W u x toks (.cells t y ts)=some q):
    ∃y2 z,bY base n W t y y2∧sW t y2 u x o=some z∧q=(i,.cells u z (rD (EU base n W o ts) (vT toks o t.cells))):=by
  simp only[y3] at h;split at h
  · rename_i hp
    cases hs:sW t y u x o with
    |none=>rw[hs] at h;simp [TW] at h
    |some z=>rw[hs] at h;exact⟨y,z,.inl ⟨hp,rfl⟩,hs,(aVe h).symm⟩
  · cases hy:D4 base n W t y with
    |none=>rw[hy] at h;cases h
    | some y2=>
      rw[hy] at h;simp only[aAk] at h;cases hs:sW t y2 u x o with
      |none=>rw[hs] at h;simp [TW] at h
      |some z=>rw[hs] at h;exact⟨y2,z,.inr hy,hs,(aVe h).symm⟩
theorem aLy {k:Nat}{b:qH}{q:Nat×qH}(h:AP k b=some q):q.1=k:=by
  cases b<;>simp only[AP] at h
  .cases h
  .exact(aVe h)▸rfl
  · split at h
    .exact(aVe h)▸rfl
    .cases h
  · split at h
    .exact(aVe h)▸rfl
    .cases h
  .cases h
  .exact(aVe h)▸rfl
theorem aLz {base n i o:Nat}{W:List rU}{u:Ty}{x:u.den}{toks:pO}{b:qH}{q:Nat×qH}(h:y3 base n i o W u x toks b=some q):q.1=i:=by
  cases b with
  |cells t y ts=>obtain⟨y2,z,_,_,rfl⟩:=a0V h;rfl
  |grow=>simp [y3] at h
  |row=>simp [y3] at h
  |map=>simp [y3] at h
  |iter=>simp [y3] at h
  |dead=>simp only[y3,aU9] at h;exact h▸rfl
theorem NP {base n:Nat}{W:List rU}: ∀{ws:List rU}{R:List qH}{c0:Nat}{upd:List (Nat×qH)},C9 base n W c0 ws R=some upd→
    ws.length≤R.length∧(∀id b,qM upd id=some b→J8 base n W ws R c0 id b)∧(∀id,id∈qO upd→∃b,qM upd id=some b)∧
    (∀(c:Nat) wh,ws[c]? =some wh→wh.id∈qO upd)∧(∀(c:Nat) b,R[c]? =some b→ws[c]? =none→base+(c0+c)∈qO upd)
  | [],[],_,upd,h=>by
    simp only[C9,aU9] at h;subst h;exact⟨aVp _,fun _ _ h=>by simp [qM] at h,fun _ h=>by simp [qO] at h,fun _ _ h=>by simp at h,fun _ _ h=>by simp at h⟩
  | [],b::R,c0,upd,h=>by
    simp only[C9] at h;obtain⟨q,r,h1,h2,rfl⟩:=a0U h;obtain⟨k1,k2,k3,k4,k5⟩:=NP h2;have hq:=aLx h1;obtain⟨q1,q2⟩:=q;simp only at hq;subst hq;refine⟨by simp,fun id b' hg=> ?_,fun id hi=> ?_,fun c wh hw=>by simp at hw,fun c b' hb hn=> ?_⟩
    · simp only[qM] at hg
      split at hg
      · rename_i e
        obtain rfl:=aVe hg;subst e;exact .inr (.inr ⟨0,b,rfl,rfl,by simp,h1⟩)
      .exact(k2 id b' hg).succ0
    · simp only[qM]
      by_cases e:base+c0=id
      .rw[aU8 e];exact⟨_,rfl⟩
      · rw[aVa e]
        simp only[qO,aVs] at hi;exact k3 id (hi.resolve_left (Ne.symm e))
    · cases c with
      |zero=>simp [qO]
      | succ c=>
        have:=k5 c b' (by simpa using hb) pL;simp only[qO,aVs];right;rw[show base+(c0+(c+1))=base+(c0+1+c) from by omega];exact this
  | .box i u x toks o::ws,[],c0,upd,h=>by simp [C9] at h
  | .tok k::ws,[],c0,upd,h=>by simp [C9] at h
  | .box i u x toks o::ws,b::R,c0,upd,h=>by
    simp only[C9] at h;obtain⟨q,r,h1,h2,rfl⟩:=a0U h;obtain⟨k1,k2,k3,k4,k5⟩:=NP h2;have hq:=aLz h1;obtain⟨q1,q2⟩:=q;simp only at hq;subst hq;refine⟨by simp;omega,fun id b' hg=> ?_,fun id hi=> ?_,fun c wh hw=> ?_,fun c b' hb hn=> ?_⟩
    · simp only[qM] at hg
      split at hg
      · rename_i e
        obtain rfl:=aVe hg;subst e;exact .inl ⟨0,q1,u,x,toks,o,b,rfl,rfl,rfl,h1⟩
      .exact(k2 id b' hg).succ
    · simp only[qM]
      by_cases e:q1=id
      .rw[aU8 e];exact⟨_,rfl⟩
      · rw[aVa e]
        simp only[qO,aVs] at hi;exact k3 id (hi.resolve_left (Ne.symm e))
    · cases c with
      |zero=>simp only[aVI,aU9] at hw;subst hw;simp [qO,rU.id]
      |succ c=>simp only[qO,aVs];exact .inr (k4 c wh (by simpa using hw))
    · cases c with
      |zero=>simp at hn
      | succ c=>
        have:=k5 c b' (by simpa using hb) (by simpa using hn);simp only[qO,aVs];right;rw[show base+(c0+(c+1))=base+(c0+1+c) from by omega];exact this
  | .tok k::ws,b::R,c0,upd,h=>by
    simp only[C9] at h;obtain⟨q,r,h1,h2,rfl⟩:=a0U h;obtain⟨k1,k2,k3,k4,k5⟩:=NP h2;have hq:=aLy h1;obtain⟨q1,q2⟩:=q;simp only at hq;subst hq;refine⟨by simp;omega,fun id b' hg=> ?_,fun id hi=> ?_,fun c wh hw=> ?_,fun c b' hb hn=> ?_⟩
    · simp only[qM] at hg
      split at hg
      · rename_i e
        obtain rfl:=aVe hg;subst e;exact .inr (.inl ⟨0,q1,b,rfl,rfl,rfl,h1⟩)
      .exact(k2 id b' hg).succ
    · simp only[qM]
      by_cases e:q1=id
      .rw[aU8 e];exact⟨_,rfl⟩
      · rw[aVa e]
        simp only[qO,aVs] at hi;exact k3 id (hi.resolve_left (Ne.symm e))
    · cases c with
      |zero=>simp only[aVI,aU9] at hw;subst hw;simp [qO,rU.id]
      |succ c=>simp only[qO,aVs];exact .inr (k4 c wh (by simpa using hw))
    · cases c with
      |zero=>simp at hn
      | succ c=>
        have:=k5 c b' (by simpa using hb) (by simpa using hn);simp only[qO,aVs];right;rw[show base+(c0+(c+1))=base+(c0+1+c) from by omega];exact this
def tW (g g':Gh) (base:Nat) (W:List rU) (ids:pT):Gh:=
  ⟨g'.S,fun i=>if base≤i∧i∈ids then g'.J (i-base) else match wJ i W 0 with|some c=>g'.J c|none=>g.J i,
   fun i=>if base≤i∧i∈ids then g'.cur (i-base) else match wJ i W 0 with|some c=>g'.cur c|none=>g.cur i⟩
theorem VN {n c:Nat}{wh:Option rU}:MZ n c wh=true↔c<n∧wh=none:=by
  cases wh with
  |none=>simp [MZ]
  |some wh=>simp [MZ]
theorem aLA {base n c i:Nat}{wh:Option rU}(h:BN base n c wh=some i):wh=some (.tok i)∨(wh=none∧c<n∧i=base+c):=by
  cases wh with
  | none=>
    simp only[BN] at h;split at h
    .rename_i hc;exact .inr ⟨rfl,hc,(aVe h).symm⟩
    .cases h
  | some wh=>
    cases wh with
    |box=>cases h
    |tok k=>simp only[BN,aU9] at h;subst h;exact .inl rfl
theorem VO {i:Nat}: ∀{ws:List rU}{c0:Nat},(∀c:Nat,ws[c]? ≠some (.tok i))→wJ i ws c0=none
  |[],_,_=>rfl
  | .tok j::r,c0,h=>by
    simp only[wJ];split
    .rename_i e;subst e;exact absurd rfl (h 0)
    .exact VO (fun c=>by have:=h (c+1);simpa using this)
  | .box _ _ _ _ _::r,c0,h=>by
    simp only[wJ];exact VO (fun c=>by have:=h (c+1);simpa using this)
theorem aLB {i c:Nat}{ws:List rU}(hnd:(sI ws).Nodup) (h:ws[c]? =some (.tok i)):wJ i ws 0=some c:=by
  cases hc:wJ i ws 0 with
  | none=>
    exfalso
    have: ∀{ws:List rU}{c0 c:Nat},ws[c]? =some (.tok i)→wJ i ws c0≠none:=by
      intro ws
      induction ws with
      |nil=>intro c0 c h;simp at h
      | cons wh r ih=>
        intro c0 c h;cases c with
        | zero=>
          simp only[aVI,aU9] at h;subst h;simp [wJ]
        | succ c=>
          simp only[aVV] at h;cases wh with
          |box=>exact ih h
          | tok j=>
            simp only[wJ];split
            .simp
            .exact ih h
    exact this h hc
  | some d=>
    obtain⟨d',e1,h2⟩:=NM hc;rw[aVF] at e1;subst e1;rw[VK hnd h h2 rfl]
theorem Fr.mono {A B:Nat→Nat→Prop}{w w':pU}{S S':Nat→Nat→Prop}(h:Fr A w w' S S') (hAB: ∀b o,A b o→B b o):Fr B w w' S S':=
  ⟨h.os,h.tape,h.output,h.size,fun b hb hn=>h.blk b hb (fun o ho=>hn o (hAB b o ho)),fun b o hb hn=>h.cell b o hb (fun ho=>hn (hAB b o ho)),fun b o hs=>(h.new b o hs).imp id (Or.imp id (hAB b o)),fun b s hs=>(h.shape b s hs).imp id fun h o=>hAB b o (h o)⟩
theorem VP {base n:Nat}{W:List rU}{o:Nat}: ∀{ts:pO}{q k:Nat},(q,k)∈EU base n W o ts→∃q' c,(q',c)∈ts∧BN base n c (BM W c)=some k∧q=o+q'
  |[],_,_,h=>by simp [EU] at h
  | (q',c)::r,q,k,h=>by
    simp only[EU] at h;cases hn:BN base n c (BM W c) with
    | none=>
      rw[hn] at h;obtain⟨a,b,h1,h2⟩:=VP h;exact⟨a,b,aVr _ h1,h2⟩
    | some k'=>
      rw[hn] at h;rcases aVs.1 h with h|h
      · simp only[aVD] at h
        obtain⟨rfl,rfl⟩:=h;exact⟨q',c,by simp,hn,rfl⟩
      · obtain⟨a,b,h1,h2⟩:=VP h
        exact⟨a,b,aVr _ h1,h2⟩
theorem xC {α:Type}{x:α}: ∀{l m:List α},x∈rD l m↔x∈l∨x∈m
  |[],m=>by simp [rD]
  |y::l,m=>by simp [rD,xC (l:=l),or_assoc]
theorem a0W: ∀{toks:pO}{off n q k:Nat},(q,k)∈vT toks off n→(q,k)∈toks∧¬(off≤q∧q<off+n)
  |[],_,_,_,_,h=>by simp [vT] at h
  | (q',k')::r,off,n,q,k,h=>by
    simp only[vT] at h;split at h
    · obtain⟨h1,h2⟩:=a0W h
      exact⟨aVr _ h1,h2⟩
    · rename_i hn
      rcases aVs.1 h with h|h
      · cases h
        exact⟨by simp,hn⟩
      · obtain⟨h1,h2⟩:=a0W h
        exact⟨aVr _ h1,h2⟩
section
variable {g g':Gh}{w w':pU}{H:sD}{W:List rU}{L:List qH}{r:qQ}{v:pV}{base:Nat}{upd:List (Nat×qH)}
variable (hH:sK g w H) (hm:R0 H W L) (hr:LC (vM g W) w L r g' w' v) (hb:C9 base r.H.length W 0 W r.H=some upd) (hf: ∀i,i∈qO upd→base≤i→g.J i=none∧∀n,g.cur i n=none)
include hH hm hr hb hf
theorem G8 {c:Nat}{wh:rU}(hw:W[c]? =some wh):wh.id∈qO upd∧wh.id<base∧∃b,L[c]? =some b∧VH H W wh b:=by
  have hin:=(NP hb).2.2.2.1 c wh hw;have hlt:c<L.length:=hm.len▸(aVq.1 hw).1;have hok:=hm.ok c wh _ hw (aVj hlt);refine⟨hin,Nat.lt_of_not_le fun hle=> ?_,_,aVj hlt,hok⟩;have hfr:=hf _ hin hle;cases wh with
  | box i u x toks o=>
    cases hL:L[c] with
    | cells t y ts=>
      rw[hL] at hok;obtain⟨p,cs,hp,_⟩:=hH.blk i _ hok.1;rw[show (rU.box i u x toks o).id=i from rfl] at hfr;rw[hfr.1] at hp;cases hp
    |_=>rw[hL] at hok;exact hok.elim
  | tok k=>
    cases hL:L[c] with
    | grow e cc m=>
      rw[hL] at hok;obtain⟨v,xs,hv,_⟩:=hH.blk k _ hok;rw[show (rU.tok k).id=k from rfl] at hfr;rw[hfr.2] at hv;cases hv
    | map s t l=>
      rw[hL] at hok;obtain⟨p,es,cl,hp,_⟩:=hH.blk k _ hok.1;rw[show (rU.tok k).id=k from rfl] at hfr;rw[hfr.1] at hp;cases hp
    | row e t l m=>
      rw[hL] at hok;obtain⟨_,v,xs,hv,_⟩:=hH.blk k _ hok.1;rw[show (rU.tok k).id=k from rfl] at hfr;rw[hfr.2] at hv;cases hv
    |_=>rw[hL] at hok;exact hok.elim
theorem aLC {c:Nat}(hc:c<r.H.length) (hn:W[c]? =none):base+c∈qO upd:=by
  have:=(NP hb).2.2.2.2 c _ (aVj hc) hn;simpa using this
theorem NQ {c:Nat}(hc:c<r.H.length) (hn:W[c]? =none):(tW g g' base W (qO upd)).J (base+c)=g'.J c∧(tW g g' base W (qO upd)).cur (base+c)=g'.cur c:=by
  have hin:=aLC hH hm hr hb hf hc hn;refine⟨?_,?_⟩
  · show (if base≤base+c∧base+c∈qO upd then _ else _)=_
    rw[aU8 ⟨pJ,hin⟩,aVY]
  · show (if base≤base+c∧base+c∈qO upd then _ else _)=_
    rw[aU8 ⟨pJ,hin⟩,aVY]
theorem aBS {i:Nat}(hi: ¬(base≤i∧i∈qO upd)) (hn:wJ i W 0=none):(tW g g' base W (qO upd)).J i=g.J i∧(tW g g' base W (qO upd)).cur i=g.cur i:=by
  refine⟨?_,?_⟩
  · show (if base≤i∧i∈qO upd then _ else _)=_
    rw[aVa hi,hn]
  · show (if base≤i∧i∈qO upd then _ else _)=_
    rw[aVa hi,hn]
theorem aBT {c k:Nat}(hw:W[c]? =some (.tok k)):(tW g g' base W (qO upd)).J k=g'.J c∧(tW g g' base W (qO upd)).cur k=g'.cur c:=by
  have hlt:=(G8 hH hm hr hb hf hw).2.1;simp only[rU.id] at hlt;have hc:=aLB hm.nodup hw;refine⟨?_,?_⟩
  · show (if base≤k∧k∈qO upd then _ else _)=_
    rw[aVa pJ,hc]
  · show (if base≤k∧k∈qO upd then _ else _)=_
    rw[aVa pJ,hc]
theorem R1 {c i:Nat}{u:Ty}{x:u.den}{toks:pO}{o:Nat}(hw:W[c]? =some (.box i u x toks o)):(tW g g' base W (qO upd)).J i=g.J i∧(tW g g' base W (qO upd)).cur i=g.cur i:=by
  have hlt:=(G8 hH hm hr hb hf hw).2.1;simp only[rU.id] at hlt;refine aBS hH hm hr hb hf pJ (VO fun d hd=> ?_);have:=VK hm.nodup hw hd rfl;subst this;rw[hw] at hd;cases hd
theorem LE {c i:Nat}(hi:BN base r.H.length c W[c]? =some i):(tW g g' base W (qO upd)).J i=g'.J c∧(tW g g' base W (qO upd)).cur i=g'.cur c:=by
  rcases aLA hi with h|⟨h1,h2,rfl⟩
  .exact aBT hH hm hr hb hf h
  .exact NQ hH hm hr hb hf h2 h1
theorem aBU:Le g w (tW g g' base W (qO upd)) w':=by
  have len: ∀{i c:Nat},wJ i W 0=some c→W[c]? =some (.tok i)∧c<L.length:=by
    intro i c h;obtain⟨d,e1,h2⟩:=NM h;rw[aVF] at e1;subst e1;exact⟨h2,hm.len▸(aVq.1 h2).1⟩
  refine⟨fun b o h=>(hr.shut b o h).1,fun b o h=>(hr.shut b o h).2,fun i p h=> ?_,fun i n u h=> ?_⟩
  · show (if base≤i∧i∈qO upd then _ else _)=_
    rw[aVa (fun⟨h1,h2⟩=>by rw[(hf i h2 h1).1] at h;cases h)];cases hc:wJ i W 0 with
    |none=>exact h
    | some c=>
      obtain⟨h1,h2⟩:=len hc;refine hr.Jt c p h2 ?_;show wD g W[c]? =_;rw[h1];exact h
  · show (if base≤i∧i∈qO upd then g'.cur (i-base) else match wJ i W 0 with|some c=>g'.cur c|none=>g.cur i) n=_
    rw[aVa (fun⟨h1,h2⟩=>by rw[(hf i h2 h1).2] at h;cases h)];cases hc:wJ i W 0 with
    |none=>exact h
    | some c=>
      obtain⟨h1,h2⟩:=len hc;refine hr.cur c n u h2 ?_;show CE g W[c]? n=_;rw[h1];exact h
theorem aLD {t:Ty}{x y:t.den}{cs:pQ}(hx:Rd g' w' t x cs) (h:D4 base r.H.length W t x=some y):Rd (tW g g' base W (qO upd)) w' t y cs:=by
  refine VJ (g:=g') (g':=tW g g' base W (qO upd)) rfl (D4 base r.H.length W) (fun a b x=>rfl) (fun t x=>rfl) (fun _=>rfl) (fun _ _=>rfl) (fun _=>rfl) (fun _=>rfl) (fun _=>rfl) (fun _ _ x y cs h hx=> ?_) (fun x y cs h hx=> ?_) (fun x y cs h hx=> ?_) (fun x y cs h hx=> ?_) (fun _=>rfl) hx h
  · cases x with
    |none=>cases h;exact hx
    | some q=>
      obtain⟨c,n⟩:=q;simp only[D4,aAi,AY] at h;obtain⟨i,hi,rfl⟩:=aVo.1 h;obtain⟨v,hv,hs⟩:=hx;exact⟨v,by rw[(LE hH hm hr hb hf hi).2];exact hv,hs⟩
  · cases x with
    |none=>cases h;exact hx
    | some q=>
      obtain⟨c,o⟩:=q;simp only[D4,KV] at h;obtain⟨p,hp,hv⟩:=hx;unfold KV.back2 at h;split at h
      · rename_i i uu x toks o' hwh
        cases h;rw[AY] at hwh;obtain⟨_,hlt,b,hL,hok⟩:=G8 hH hm hr hb hf hwh;cases b with
        | cells t y ts=>
          have hJ:=hr.J c t y ts hL;rw[hp] at hJ;have hJ':wD g W[c]? =some p:=hJ.symm;rw[hwh] at hJ';obtain⟨p0,hp0,rfl⟩:=aVo.1 hJ';exact⟨p0,by rw[(R1 hH hm hr hb hf hwh).1];exact hp0,by have:=hv.1;rwa [aVS] at this,hv.2.imp id fun hv=>by rw[hv];simp [aVS]⟩
        |_=>exact hok.elim
      · split at h
        · rename_i hn
          cases h;obtain⟨h1,h2⟩:=VN.1 hn;rw[AY] at h2;exact⟨p,by rw[(NQ hH hm hr hb hf h1 h2).1];exact hp,hv⟩
        .cases h
  · cases x with
    |none=>cases h;exact hx
    | some q=>
      obtain⟨c,o⟩:=q;simp only[D4,KV] at h;obtain⟨p,hp,hv⟩:=hx;unfold KV.back2 at h;split at h
      · rename_i i uu x toks o' hwh
        cases h;rw[AY] at hwh;obtain⟨_,hlt,b,hL,hok⟩:=G8 hH hm hr hb hf hwh;cases b with
        | cells t y ts=>
          have hJ:=hr.J c t y ts hL;rw[hp] at hJ;have hJ':wD g W[c]? =some p:=hJ.symm;rw[hwh] at hJ';obtain⟨p0,hp0,rfl⟩:=aVo.1 hJ';exact⟨p0,by rw[(R1 hH hm hr hb hf hwh).1];exact hp0,by rw[hv];simp [aVS]⟩
        |_=>exact hok.elim
      · split at h
        · rename_i hn
          cases h;obtain⟨h1,h2⟩:=VN.1 hn;rw[AY] at h2;exact⟨p,by rw[(NQ hH hm hr hb hf h1 h2).1];exact hp,hv⟩
        .cases h
  · cases x with
    |none=>cases h;exact hx
    | some c=>
      simp only[D4,aAh,AY] at h;obtain⟨i,hi,rfl⟩:=aVo.1 h;obtain⟨p,hp,hv⟩:=hx;exact⟨p,by rw[(LE hH hm hr hb hf hi).1];exact hp,hv⟩
theorem aBV {t:Ty}{x y:t.den}{cs:pQ}(hx:Rd g' w' t x cs) (h:bY base r.H.length W t x y):Rd (tW g g' base W (qO upd)) w' t y cs:=by
  rcases h with⟨hp,rfl⟩ |h
  .exact w7 (g:=g') (g':=tW g g' base W (qO upd)) rfl hp hx
  .exact aLD hH hm hr hb hf hx h
omit hH hm hr hb hf in
theorem aBW {n:Nat}{t u:Ty}{x y:t.den}{o:Nat}{l:List u.den}(h:bY base n W t x y) (hg:rN (.list u) t x o=some l):rN (.list u) t y o=some l:=by
  rcases h with⟨_,rfl⟩ |h
  .exact hg
  .exact a0S (D4 base n W) (fun _ _ _=>rfl) (fun _ _=>rfl) h hg
theorem aBX: ∀(cs:pO) {l:pO}{vs:pQ},yG g' cs vs→N0 base r.H.length W cs=some l→yG (tW g g' base W (qO upd)) l vs
  |[],l,vs,h,e=>by cases e;exact h
  | (c,o)::cs,l,vs,⟨p,vs',hp,hv,hr'⟩,e=>by
    unfold N0 at e;cases h1:Z7 base r.H.length c o (BM W c) with
    |none=>rw[h1] at e;cases e
    | some q=>
      cases h2:N0 base r.H.length W cs with
      |none=>rw[h1,h2] at e;cases e
      | some l'=>
        rw[h1,h2] at e;cases e;refine(?_ : ∃p vs',_);have ih:=aBX cs hr' h2;unfold Z7 at h1;split at h1
        · rename_i i uu x toks o' hwh
          cases h1;rw[AY] at hwh;obtain⟨_,hlt,b,hL,hok⟩:=G8 hH hm hr hb hf hwh;cases b with
          | cells t y ts=>
            have hJ:=hr.J c t y ts hL;rw[hp] at hJ;have hJ':wD g W[c]? =some p:=hJ.symm;rw[hwh] at hJ';obtain⟨p0,hp0,rfl⟩:=aVo.1 hJ';exact⟨p0,vs',by rw[(R1 hH hm hr hb hf hwh).1];exact hp0,by rw[hv];simp [aVS],ih⟩
          |_=>exact hok.elim
        · split at h1
          · rename_i hn
            cases h1;obtain⟨h3,h4⟩:=VN.1 hn;rw[AY] at h4;exact⟨p,vs',by rw[(NQ hH hm hr hb hf h3 h4).1];exact hp,hv,ih⟩
          .cases h1
theorem aLE {s:qI}{u:pV}(h:s3 g' w' s u):s3 (tW g g' base W (qO upd)) w' (TV base r.H.length W s) u:=by
  obtain⟨d,k⟩:=s
  have tokk: ∀{t:Ty}(hp:t.pure=true) {x:t.den}{k:pS},s3 g' w' (.val t x,k) u→s3 (tW g g' base W (qO upd)) w' (.val t x,KU base r.H.length W k) u:=by
    intro t hp x k h;cases k with
    |none=>exact VF (g:=g') (g':=tW g g' base W (qO upd)) (k:=none) (k':=none) rfl hp h (fun c e=>by cases e) (fun _=>rfl)
    | some c=>
      simp only[KU,AY];cases hn:BN base r.H.length c W[c]? with
      | some i=>
        refine VF (g:=g') (g':=tW g g' base W (qO upd)) (k:=some c) (k':=some i) rfl hp h (fun c' e=> ?_) (fun e=>by cases e);cases e;refine⟨_,rfl,fun n u hu=> ?_⟩;rw[(LE hH hm hr hb hf hn).2];exact hu
      | none=>
        exact VF (g:=g') (g':=tW g g' base W (qO upd)) (k:=none) (k':=none) rfl hp ⟨h.1,trivial⟩ (fun c e=>by cases e) (fun _=>rfl)
  unfold TV;split
  · rename_i c m k' heq
    simp only[aVD] at heq;obtain⟨rfl,rfl⟩:=heq;simp only[KU,AY];cases hn:BN base r.H.length c W[c]? with
    | some i=>
      obtain⟨h3,h4⟩:=h.1;exact⟨⟨by rw[(LE hH hm hr hb hf hn).2];exact h3,h4⟩,trivial⟩
    |none=>exact⟨trivial,trivial⟩
  · rename_i c o k' heq
    simp only[aVD] at heq;obtain⟨rfl,rfl⟩:=heq;obtain⟨p,hp,hv⟩:=A0 h.1;unfold aAg;split
    · rename_i i uu x toks o' hwh
      rw[AY] at hwh;obtain⟨_,hlt,b,hL,hok⟩:=G8 hH hm hr hb hf hwh;cases b with
      | cells t y ts=>
        have hJ:=hr.J c t y ts hL;rw[hp] at hJ;have hJ':wD g W[c]? =some p:=hJ.symm;rw[hwh] at hJ';obtain⟨p0,hp0,rfl⟩:=aVo.1 hJ';refine⟨.inr ⟨rfl,p0,by rw[(R1 hH hm hr hb hf hwh).1];exact hp0,?_⟩,trivial⟩;rw[hv];simp [aVS]
      |_=>exact hok.elim
    · split
      · rename_i hn
        obtain⟨h1,h2⟩:=VN.1 hn;rw[AY] at h2;exact⟨.inr ⟨rfl,p,by rw[(NQ hH hm hr hb hf h1 h2).1];exact hp,by rw[hv]⟩,trivial⟩
      .exact⟨trivial,trivial⟩
  · rename_i k' heq
    simp only[aVD] at heq;obtain⟨rfl,rfl⟩:=heq;rcases h.1 with⟨h1,_⟩ |⟨h1,h2⟩
    .cases h1
    .exact⟨.inr ⟨h1,h2⟩,trivial⟩
  · rename_i c k' heq
    simp only[aVD] at heq;obtain⟨rfl,rfl⟩:=heq;simp only[KU,AY];cases hn:BN base r.H.length c W[c]? with
    | some i=>
      obtain⟨p,hp,hv⟩:NE g' (some c) [u]:=CD rfl h.1;exact⟨.inr ⟨rfl,p,by rw[(LE hH hm hr hb hf hn).1];exact hp,hv⟩,trivial⟩
    |none=>exact⟨trivial,trivial⟩
  · rename_i f cs k' heq
    simp only[aVD] at heq;obtain⟨rfl,rfl⟩:=heq;cases hc:N0 base r.H.length W cs with
    |none=>exact⟨trivial,trivial⟩
    | some l=>
      rcases h.1 with⟨h1,_⟩ |⟨_,vs,h2,h3⟩
      .cases h1
      .exact⟨.inr ⟨rfl,vs,aBX hH hm hr hb hf cs h2 hc,h3⟩,trivial⟩
  · rename_i t x k' hno hno0 hno2 hno3 heq
    simp only[aVD] at heq;obtain⟨rfl,rfl⟩:=heq;split
    · rename_i hp
      exact tokk hp (aBv h)
    .exact⟨trivial,trivial⟩
  .exact⟨trivial,trivial⟩
end
theorem aBY {g:Gh}{w:pU}{H:sD}{W:List rU}{L:List qH}(hH:sK g w H) (hm:R0 H W L) {bb oo:Nat}(h:A9 (vM g W) (qW 0 L) bb oo):
  ∃(c:Nat) (wh:rU) (b blk:qH),W[c]? =some wh/\L[c]? =some b/\sE (vM g W) c b bb oo/\qM H wh.id=some blk/\sE g wh.id blk bb oo:=by
 obtain⟨c,b,hc,ho⟩:=h;rw[yH] at hc;have hlt:c<W.length:=hm.len▸(aVq.1 hc).1;have hwh:W[c]? =some W[c]:=aVj hlt;have hw:=hm.ok c _ b hwh hc;refine⟨c,W[c],b,?_⟩;generalize W[c]=wh at hwh hw;cases wh with
 |box i u x toks off=>
  cases b with
  |cells t y ts=>
   obtain⟨h1,⟨y0,h2,h3⟩,h4⟩:=hw;obtain⟨p,hp,e1,e2,e3⟩:=ho;have hp':wD g W[c]? =some p:=hp;rw[hwh] at hp';obtain⟨p0,hp0,rfl⟩:=aVo.1 hp';obtain⟨p1,cs,hp1,hR,_⟩:=hH.blk i _ h1;obtain⟨c1,c2,c3,hcs,hl,hR2⟩:=F0 hR h2;have l1:=sY hR;have l2:=sY hR2;rw[hcs] at l1;simp only[aVc] at l1;exact⟨_,hwh,hc,⟨_,hp,e1,e2,e3⟩,h1,p0,hp0,e1,by simp at e2;omega,by simp at e3;omega⟩
  |_=>exact hw.elim
 |tok k=>
  cases b with
  |grow e cc m=>
   obtain⟨v,hv,hb⟩:=ho;have hv':CE g W[c]? m=some v:=hv;rw[hwh] at hv';exact⟨_,hwh,hc,⟨v,hv,hb⟩,hw,v,hv',hb⟩
  |map s t l=>
   obtain⟨p,hp,hb⟩:=ho;have hp':wD g W[c]? =some p:=hp;rw[hwh] at hp';exact⟨_,hwh,hc,⟨p,hp,hb⟩,hw.1,p,hp',hb⟩
  |row e t l m=>
   obtain⟨v,hv,hb⟩:=ho;have hv':CE g W[c]? m=some v:=hv;rw[hwh] at hv';exact⟨_,hwh,hc,⟨v,hv,hb⟩,hw.1,v,hv',hb⟩
  |_=>exact hw.elim
section
variable {g g':Gh}{w w':pU}{H:sD}{W:List rU}{L:List qH}{r:qQ}{v:pV}{base:Nat}{upd:List (Nat×qH)}
variable (hH:sK g w H) (hm:R0 H W L) (hr:LC (vM g W) w L r g' w' v) (hb:C9 base r.H.length W 0 W r.H=some upd) (hf: ∀i,i∈qO upd->base<=i->g.J i=none/\∀n,g.cur i n=none)
include hH hm hr hb hf
theorem a0X {b o:Nat}(h:A9 (vM g W) (qW 0 L) b o):t8 g H (qO upd) b o:=by
 obtain⟨c,wh,b0,blk,h1,h2,h3,h4,h5⟩:=aBY hH hm h;exact⟨wh.id,blk,(G8 hH hm hr hb hf h1).1,h4,h5⟩
theorem aLF:Fr (t8 g H (qO upd)) w w' g.S (tW g g' base W (qO upd)).S:=hr.fr.mono fun _ _ h=>a0X hH hm hr hb hf h
theorem VQ {id:Nat}{b:qH}(hi:id∈qO upd) (hg:qM (rD upd H) id=some b):J8 base r.H.length W W r.H 0 id b:=by
 obtain⟨_,k2,k3,_⟩:=NP hb;obtain⟨b',hb'⟩:=k3 id hi;have:qM (rD upd H) id=some b':=by
  have: ∀{u:List (Nat×qH)},qM u id=some b'->qM (rD u H) id=some b':=by
   intro u
   induction u with
   |nil=>intro h;cases h
   |cons q u ih=>
    intro h;simp only[rD,qM] at h|-;split
    .rename_i e;rw[aU8 e] at h;exact h
    .rename_i e;rw[aVa e] at h;exact ih h
  exact this hb'
 rw[this] at hg;obtain rfl:=aVe hg;exact k2 id b' hb'
theorem a0Y {c i o:Nat}{u:Ty}{x:u.den}{toks:pO}{b0 b:qH}(hW:W[c]? =some (.box i u x toks o)) (hR:r.H[c]? =some b0) (hbb:y3 base r.H.length i o W u x toks b0=some (i,b)):
  AT (tW g g' base W (qO upd)) w' i b/\(∀bb oo,sE (tW g g' base W (qO upd)) i b bb oo->sE g i (.cells u x toks) bb oo/\qM H i=some (.cells u x toks))/\
   ∀bb oo,sE (tW g g' base W (qO upd)) i b bb oo->sE g' c b0 bb oo\/(bb<w.heap.size/\¬A9 (vM g W) (qW 0 L) bb oo):=by
 obtain⟨hin,hlt,bL,hL,hok⟩:=G8 hH hm hr hb hf hW;have hJi:=(R1 hH hm hr hb hf hW).1;have hle:=aBU hH hm hr hb hf;cases bL with
 |grow=>exact hok.elim
 |row=>exact hok.elim
 |map=>exact hok.elim
 |iter=>exact hok.elim
 |dead=>exact hok.elim
 |cells tL yL tsL=>
  obtain⟨h1,h2,h4⟩:=hok;obtain⟨p,cs,hp,hRd,hra,hth,hns,htk⟩:=hH.blk i _ h1;cases b0 with
  |grow=>simp [y3] at hbb
  |row=>simp [y3] at hbb
  |map=>simp [y3] at hbb
  |iter=>simp [y3] at hbb
  |dead=>
   simp only[y3,aU9,aVD,true_and] at hbb;subst hbb;exact⟨trivial,fun _ _ h=>h.elim,fun _ _ h=>h.elim⟩
  |cells t y ts=>
   have htt:=hr.ty c _ _ _ _ _ _ hL hR;subst htt;obtain⟨y2,z,hbY,hset,hq⟩:=a0V hbb
   .simp only[aVD,true_and] at hq;subst hq;have hblk:=hr.heap.blk c _ (by rw[yH];exact hR);obtain⟨p',cs',hp',hRd',hra',hth',hns',htk'⟩:=hblk;have hJc:=hr.J c _ _ _ hL;have hpc:g'.J c=some ⟨p.1,p.2+o,p.3⟩:=by
     rw[hJc];show wD g W[c]? =_;rw[hW];simp [wD,hp]
    rw[hpc] at hp';obtain rfl:=aVe hp';have hRdx:Rd (tW g g' base W (qO upd)) w' u x cs:=wT hle hRd;have hRdy:Rd (tW g g' base W (qO upd)) w' t y2 cs':=aBV hH hm hr hb hf hRd' hbY;obtain⟨c1,c2,c3,hcs,hl1,hl2,hz⟩:=V2 hRdy hRdx hset;subst hcs;subst hl1;have l0:=sY hRd;have l1:=sY hRd';simp only[aVc] at l0;have hfar: ∀q,q<u.cells->¬(c1.length<=q/\q<c1.length+t.cells)->¬A9 (vM g W) (qW 0 L) p.1 (p.2+q):=by
     intro q hq hno hown;obtain⟨c',wh',b',blk',k1,k2,k3,k4,k5⟩:=aBY hH hm hown;by_cases hcc:c'=c
     .subst hcc;rw[hW] at k1;obtain rfl:=aVe k1;rw[hL] at k2;obtain rfl:=aVe k2;obtain⟨pp,hpp,e1,e2,e3⟩:=k3;have hpp':wD g W[c']? =some pp:=hpp;rw[hW] at hpp';simp only[wD,hp,Option.map_some,aU9] at hpp';subst hpp';simp only at e2 e3;exact hno ⟨pJ,pJ⟩
     .have hid:wh'.id≠i:=fun e=>hcc (VK hm.nodup k1 hW e);exact hH.dis wh'.id i blk' _ p.1 (p.2+q) hid k4 h1 k5 ⟨p,hp,rfl,pJ,pJ⟩
    have hlt': ∀q,q<u.cells->p.1<w.heap.size:=fun q hq=>QO (hH.blk i _ h1) (b:=p.1) (o:=p.2+q) ⟨p,hp,rfl,pJ,pJ⟩;have hkeep: ∀q,q<u.cells->¬(c1.length<=q/\q<c1.length+t.cells)->w'.cell? ⟨p.1,p.2+q,none⟩=w.cell? ⟨p.1,p.2+q,none⟩/\w'.frozen? ⟨p.1,p.2+q,none⟩=w.frozen? ⟨p.1,p.2+q,none⟩:=fun q hq hno=>hr.fr.cell _ _ (hlt' q hq) (hfar q hq hno);refine⟨⟨p,c1++cs'++c3,by rw[hJi];exact hp,hz,fun q vv hv=> ?_,⟨fun q hq=> ?_,fun h0 s hs=> ?_⟩,fun q hq hs=> ?_,?_⟩,fun bb oo ho=>⟨?_,h1⟩,fun bb oo ho=> ?_⟩
    .by_cases a1:q<c1.length
     .rw[(hkeep q pJ pJ).1];refine hra q vv ?_;rw[aVi,aVt a1] at hv|-;exact hv
     .by_cases a2:q<c1.length+t.cells
      .rw[aVi,aVl pJ,aVt pJ] at hv;have:=hra' (q-c1.length) vv hv;rwa [show p.2+c1.length+(q-c1.length)=p.2+q from by omega] at this
      .rw[aVi,aVl pJ,aVl pJ] at hv;have hq:q<u.cells:=by
        have:=(aVq.1 hv).1;omega
       rw[(hkeep q hq pJ).1];refine hra q vv ?_;rw[aVi,aVl pJ,aVl pJ,hl2];rw[l1] at hv;exact hv
    .by_cases a1:c1.length<=q/\q<c1.length+t.cells
     .have:=hth'.1 (q-c1.length) pJ;rwa [show p.2+c1.length+(q-c1.length)=p.2+q from by omega] at this
     .rw[(hkeep q hq a1).1,(hkeep q hq a1).2];exact hth.1 q hq
    .by_cases ht0:0<t.cells
     .exact hth'.2 ht0 s hs
     .exact(hr.fr.shape p.1 s (hth.2 h0 s hs)).resolve_right fun h=>hfar 0 h0 pJ (h (p.2+0))
    .by_cases a1:c1.length<=q/\q<c1.length+t.cells
     .exact hns' (q-c1.length) pJ (by rw[show p.2+c1.length+(q-c1.length)=p.2+q from by omega];exact hs)
     .rcases hr.fr.new _ _ hs with k|k|k
      .exact hns q hq k
      .have:=hlt' q hq;omega
      .exact hfar q hq a1 k
    .intro q kk hmem;rcases xC.1 hmem with hmem|hmem
     .obtain⟨q',c',k1,k2,rfl⟩:=VP hmem;rw[AY] at k2;obtain⟨u',l,vv,g1,g2,g3⟩:=htk' q' c' k1;have hq':=aBm g1;refine⟨u',l,vv,aBl hset (aBW hbY g1) hq',?_,?_⟩
      .rw[aVi,aVl pJ,aVY,aVt pJ];exact g2
      .rw[(LE hH hm hr hb hf k2).2];exact g3
     .obtain⟨k1,k2⟩:=a0W hmem;obtain⟨u',l,vv,g1,g2,g3⟩:=htk q kk k1;refine⟨u',l,vv,aBc hH hset g1 k2,?_,hle.cur _ _ _ g3⟩;rcases aWm q c1.length with a1|a1
      .rw[aVi,aVt a1] at g2|-;exact g2
      .rw[aVi,aVl pJ,aVl pJ] at g2|-;rw[l1];rw[hl2] at g2;exact g2
    .obtain⟨pp,hpp,e1,e2,e3⟩:=ho;rw[hJi,hp] at hpp;obtain rfl:=aVe hpp;exact⟨p,hp,e1,e2,e3⟩
    .obtain⟨pp,hpp,e1,e2,e3⟩:=ho;rw[hJi,hp] at hpp;obtain rfl:=aVe hpp;subst e1;by_cases a1:c1.length<=oo-p.2/\oo-p.2<c1.length+t.cells
     .exact .inl ⟨_,hpc,rfl,by simp only;omega,by simp only;omega⟩
     .right;refine⟨hlt' (oo-p.2) pJ,?_⟩;have:=hfar (oo-p.2) pJ a1;rwa [show p.2+(oo-p.2)=oo from by omega] at this
theorem a0Z {c:Nat}{b0 b:qH}(hn:W[c]? =none) (hR:r.H[c]? =some b0) (hbn:EV base r.H.length c W b0=some (base+c,b)):
  AT (tW g g' base W (qO upd)) w' (base+c) b/\∀bb oo,sE (tW g g' base W (qO upd)) (base+c) b bb oo->sE g' c b0 bb oo:=by
 have hc:=(aVq.1 hR).1;obtain⟨hJ,hcur⟩:=NQ hH hm hr hb hf hc hn;have hblk:=hr.heap.blk c _ (by rw[yH];exact hR);cases b0 with
 |dead=>
  simp only[EV,aU9,aVD,true_and] at hbn;subst hbn;exact⟨trivial,fun _ _ h=>h.elim⟩
 |grow e m k=>
  simp only[EV,aU9,aVD,true_and] at hbn;subst hbn;obtain⟨u,xs,hv,h1,h2,h3⟩:=hblk;exact⟨⟨u,xs,by rw[hcur];exact hv,h1,fun m hm'=>by rw[hcur];exact h2 m hm',h3⟩,fun bb oo ⟨v',hv',hb'⟩=>⟨v',by rw[hcur] at hv';exact hv',hb'⟩⟩
 |row e t l n=>
  simp only[EV] at hbn;split at hbn
  .rename_i hp;simp only[aU9,aVD,true_and] at hbn;subst hbn;obtain⟨h0,u,xs,hv,h1,h4,h2,h3⟩:=hblk;exact⟨⟨h0,u,xs,by rw[hcur];exact hv,h1,D8 (fun _ _ h=>w7 (g:=g') (g':=tW g g' base W (qO upd)) rfl hp h) h4,fun m hm'=>by rw[hcur];exact h2 m hm',h3⟩,fun bb oo ⟨v',hv',hb'⟩=>⟨v',by rw[hcur] at hv';exact hv',hb'⟩⟩
  .cases hbn
 |iter s n=>simp [EV] at hbn
 |map k v l=>
  simp only[EV] at hbn;split at hbn
  .rename_i hp;rw[aVg] at hp;simp only[aU9,aVD,true_and] at hbn;subst hbn;obtain⟨p,es,cl,hp1,hp0,hh,hM,hS⟩:=hblk;exact⟨⟨p,es,cl,by rw[hJ];exact hp1,hp0,hh,QM (g:=g') (g':=tW g g' base W (qO upd)) rfl hp.1 hp.2 hM,hS⟩,fun bb oo ⟨pp,hpp,e⟩=>⟨pp,by rw[hJ] at hpp;exact hpp,e⟩⟩
  .cases hbn
 |cells t y ts=>
  have vN: ∀y2,bY base r.H.length W t y y2->AT (tW g g' base W (qO upd)) w' (base+c) (.cells t y2 (EU base r.H.length W 0 ts))/\∀bb oo,sE (tW g g' base W (qO upd)) (base+c) (.cells t y2 (EU base r.H.length W 0 ts)) bb oo->sE g' c (.cells t y ts) bb oo:=by
   intro y2 hbY;obtain⟨p,cs,hp1,hR1,h1,h2,h3,h4⟩:=hblk;refine⟨⟨p,cs,by rw[hJ];exact hp1,aBV hH hm hr hb hf hR1 hbY,h1,h2,h3,fun q kk hmem=> ?_⟩,fun bb oo ⟨pp,hpp,e⟩=>⟨pp,by rw[hJ] at hpp;exact hpp,e⟩⟩;obtain⟨q',c',k1,k2,rfl⟩:=VP hmem;rw[AY] at k2;obtain⟨u',l,vv,g1,g2,g3⟩:=h4 q' c' k1;exact⟨u',l,vv,by rw[aVF];exact aBW hbY g1,by rw[aVF];exact g2,by rw[(LE hH hm hr hb hf k2).2];exact g3⟩
  simp only[EV] at hbn;split at hbn
  .rename_i hp;simp only[aU9,aVD,true_and] at hbn;subst hbn;exact vN y (.inl ⟨hp,rfl⟩)
  .obtain⟨y2,hy,hq⟩:=aBR hbn;simp only[aVD,true_and] at hq;subst hq;exact vN y2 (.inr hy)
theorem a00 {c k:Nat}{b0 b:qH}(hW:W[c]? =some (.tok k)) (hR:r.H[c]? =some b0) (hbk:AP k b0=some (k,b)):
  AT (tW g g' base W (qO upd)) w' k b/\∀bb oo,sE (tW g g' base W (qO upd)) k b bb oo->sE g' c b0 bb oo:=by
 obtain⟨hJ,hcur⟩:=aBT hH hm hr hb hf hW;have hblk:=hr.heap.blk c _ (by rw[yH];exact hR);cases b0 with
 |dead=>
  simp only[AP,aU9,aVD,true_and] at hbk;subst hbk;exact⟨trivial,fun _ _ h=>h.elim⟩
 |grow e m n=>
  simp only[AP,aU9,aVD,true_and] at hbk;subst hbk;obtain⟨u,xs,hv,h1,h2,h3⟩:=hblk;exact⟨⟨u,xs,by rw[hcur];exact hv,h1,fun m hm'=>by rw[hcur];exact h2 m hm',h3⟩,fun bb oo ⟨v',hv',hb'⟩=>⟨v',by rw[hcur] at hv';exact hv',hb'⟩⟩
 |row e t l n=>
  simp only[AP] at hbk;split at hbk
  .rename_i hp;simp only[aU9,aVD,true_and] at hbk;subst hbk;obtain⟨h0,u,xs,hv,h1,h4,h2,h3⟩:=hblk;exact⟨⟨h0,u,xs,by rw[hcur];exact hv,h1,D8 (fun _ _ h=>w7 (g:=g') (g':=tW g g' base W (qO upd)) rfl hp h) h4,fun m hm'=>by rw[hcur];exact h2 m hm',h3⟩,fun bb oo ⟨v',hv',hb'⟩=>⟨v',by rw[hcur] at hv';exact hv',hb'⟩⟩
  .cases hbk
 |iter s n=>simp [AP] at hbk
 |map s v l=>
  simp only[AP] at hbk;split at hbk
  .rename_i hp;rw[aVg] at hp;simp only[aU9,aVD,true_and] at hbk;subst hbk;obtain⟨p,es,cl,hp1,hp0,hh,hM,hS⟩:=hblk;exact⟨⟨p,es,cl,by rw[hJ];exact hp1,hp0,hh,QM (g:=g') (g':=tW g g' base W (qO upd)) rfl hp.1 hp.2 hM,hS⟩,fun bb oo ⟨pp,hpp,e⟩=>⟨pp,by rw[hJ] at hpp;exact hpp,e⟩⟩
  .cases hbk
 |cells t y ts=>simp [AP] at hbk
theorem aLG {side:List Prop}{s:qI}{rds:pT}{vv:pV}(hs:s3 (tW g g' base W (qO upd)) w' s vv):sG g w H ⟨side,s,upd,rds⟩ (tW g g' base W (qO upd)) w' vv:=by
 have le:=aBU hH hm hr hb hf;have fr:=aLF hH hm hr hb hf;have gho: ∀i,i∉qO upd->(tW g g' base W (qO upd)).J i=g.J i/\(tW g g' base W (qO upd)).cur i=g.cur i:=fun i hi=>
  aBS hH hm hr hb hf (fun h=>hi h.2) (VO fun c hc=>hi ((G8 hH hm hr hb hf hc).1))
 have perm: ∀i blk b o,i∈qO upd->qM (rD upd H) i=some blk->sE (tW g g' base W (qO upd)) i blk b o->w.heap.size<=b\/t8 g H (qO upd) b o:=by
  intro i blk b o hi hg ho;rcases VQ hH hm hr hb hf hi hg with⟨c,i',u,x,toks,off,b0,h1,h2,h3,h4⟩ |⟨c,k,b0,h1,h2,h3,h4⟩ |⟨c,b0,h1,h2,h3,h4⟩
  .subst h2;obtain⟨_,k2,_⟩:=a0Y hH hm hr hb hf h1 h3 h4;exact .inr ⟨i,_,hi,(k2 b o ho).2,(k2 b o ho).1⟩
  .subst h2;obtain⟨_,k2⟩:=a00 hH hm hr hb hf h1 h3 h4;exact(hr.perm c b0 b o h3 (k2 b o ho)).imp id fun h=>a0X hH hm hr hb hf h
  .rw[aVF] at h2 h4;subst h2;obtain⟨_,k2⟩:=a0Z hH hm hr hb hf h3 h1 h4;exact(hr.perm c b0 b o h1 (k2 b o ho)).imp id fun h=>a0X hH hm hr hb hf h
 refine⟨le,hs,hH.upd le fr perm gho (fun i blk hi hg=> ?_) (fun i j bi bj b o hi hj hij hgi hgj hoi hoj=> ?_) (fun b o h=>hr.heap.sl b o h),fr,perm,gho,fun i u' y us h=> ?_⟩
 .rcases VQ hH hm hr hb hf hi hg with⟨c,i',u,x,toks,off,b0,h1,h2,h3,h4⟩ |⟨c,k,b0,h1,h2,h3,h4⟩ |⟨c,b0,h1,h2,h3,h4⟩
  .subst h2;exact(a0Y hH hm hr hb hf h1 h3 h4).1
  .subst h2;exact(a00 hH hm hr hb hf h1 h3 h4).1
  .rw[aVF] at h2 h4;subst h2;exact(a0Z hH hm hr hb hf h3 h1 h4).1
 .have cls: ∀{i:Nat}{blk:qH},i∈qO upd->qM (rD upd H) i=some blk->sE (tW g g' base W (qO upd)) i blk b o->
    (∃c u x toks off b0,W[c]? =some (.box i u x toks off)/\r.H[c]? =some b0/\sE g i (.cells u x toks) b o/\qM H i=some (.cells u x toks)/\(sE g' c b0 b o\/(b<w.heap.size/\¬A9 (vM g W) (qW 0 L) b o)))\/
    (∃c b0,BN base r.H.length c W[c]? =some i/\r.H[c]? =some b0/\sE g' c b0 b o):=by
   intro i blk hi hg ho;rcases VQ hH hm hr hb hf hi hg with⟨c,i',u,x,toks,off,b0,h1,h2,h3,h4⟩ |⟨c,k,b0,h1,h2,h3,h4⟩ |⟨c,b0,h1,h2,h3,h4⟩
   .subst h2;obtain⟨_,k2,k3⟩:=a0Y hH hm hr hb hf h1 h3 h4;exact .inl ⟨c,u,x,toks,off,b0,h1,h3,(k2 b o ho).1,(k2 b o ho).2,k3 b o ho⟩
   .subst h2;obtain⟨_,k2⟩:=a00 hH hm hr hb hf h1 h3 h4;exact .inr ⟨c,b0,by rw[h1];rfl,h3,k2 b o ho⟩
   .rw[aVF] at h2 h4;subst h2;obtain⟨_,k2⟩:=a0Z hH hm hr hb hf h3 h1 h4;exact .inr ⟨c,b0,by rw[h3];simp only[BN];rw[aU8 (aVq.1 h1).1],h1,k2 b o ho⟩
  have cross: ∀{c c':Nat}{b0 b1:qH},c≠c'->r.H[c]? =some b0->r.H[c']? =some b1->sE g' c b0 b o->sE g' c' b1 b o->False:=fun hne h1 h2 o1 o2=>
   hr.heap.dis _ _ _ _ b o hne (by rw[yH];exact h1) (by rw[yH];exact h2) o1 o2
  rcases cls hi hgi hoi with⟨c,u,x,toks,off,b0,h1,h2,h3,h4,h5⟩ |⟨c,b0,h1,h3,h4⟩<;>rcases cls hj hgj hoj with⟨c',u',x',toks',off',b0',k1,k2,k3,k4,k5⟩ |⟨c',b0',k1,k3,k4⟩
  .exact hH.dis i j _ _ b o hij h4 k4 h3 k3
  .rcases h5 with h5|⟨h5,h6⟩
   .exact cross (fun e=>by subst e;rw[h1] at k1;cases k1) h2 k3 h5 k4
   .rcases hr.perm c' b0' b o k3 k4 with h|h
    .omega
    .exact h6 h
  .rcases k5 with k5|⟨k5,k6⟩
   .exact cross (fun e=>by subst e;rw[k1] at h1;cases h1) h3 k2 h4 k5
   .rcases hr.perm c b0 b o h3 h4 with h|h
    .omega
    .exact k6 h
  .exact cross (fun e=>by subst e;rw[h1] at k1;exact hij (aVe k1)) h3 k3 h4 k4
 .by_cases hi:i∈qO upd
  .rcases VQ hH hm hr hb hf hi h with⟨c,i',u,x,toks,off,b0,h1,h2,h3,h4⟩ |⟨c,k,b0,h1,h2,h3,h4⟩ |⟨c,b0,h1,h2,h3,h4⟩
   .subst h2;obtain⟨_,_,bL,hL,hok⟩:=G8 hH hm hr hb hf h1;cases b0 with
    |cells t y0 ts=>
     obtain⟨y2,z,_,hset,hq⟩:=a0V h4;simp only[aVD,qH.cells.injEq,true_and] at hq;obtain⟨rfl,_⟩:=hq;cases bL with
     |cells=>exact .inl ⟨x,toks,hok.1⟩
     |_=>exact hok.elim
    |grow=>simp [y3] at h4
    |row=>simp [y3] at h4
    |map=>simp [y3] at h4
    |iter=>simp [y3] at h4
    |dead=>simp [y3] at h4
   .cases b0 with
    |cells t y0 ts=>simp [AP] at h4
    |iter=>simp [AP] at h4
    |map=>simp only[AP] at h4;split at h4<;>simp at h4
    |row=>simp only[AP] at h4;split at h4<;>simp at h4
    |_=>simp [AP] at h4
   .rw[aVF] at h2;exact .inr (hf i hi pJ)
  .exact .inl ⟨y,us,(D9 hi).symm.trans h⟩
end
section
variable {P:Program}{g:Gh}{w:pU}
def aLH (P:Program) (g:Gh) (w:pU) (d:Nat) (ty:Ty) (x y:ty.den):a0q->Prop
 | .ty t=> ∀vx vy,tJ g w ty x vx->tJ g w ty y vy->∃b,CZ ty x y=some b/\(Op.equalIn (d+1) t vx vy).run P w= .ok b w
 | .fs o l=> ∀px py cx cy,px.length=o->py.length=o->Rd g w ty x cx->Rd g w ty y cy->∃b,CZ ty x y=some b/\(Op.eqFields (d+1) (px++cx).toArray (py++cy).toArray l).run P w= .ok b w
 | .el e i m=> ∀px py cx cy,px.length=i*P.cellsOf e->py.length=i*P.cellsOf e->Rd g w ty x cx->Rd g w ty y cy->∃b,CZ ty x y=some b/\(Op.eqItems (d+1) e (P.cellsOf e) (px++cx).toArray (py++cy).toArray (List.range' i m)).run P w= .ok b w
theorem aLI {e:TypeId}{n:Nat}(h:(P.info? e).map (·.size)=some n):P.cellsOf e=n:=by
 obtain⟨i,h1,h2⟩:=aVo.1 h;simp [Program.cellsOf,h1,h2]
theorem yV.run {n:Nat}{ix:a0q}{ty:Ty}(h:yV P n ix ty): ∀(d:Nat),n<=d->∀x y:ty.den,aLH P g w d ty x y ix:=by
 induction h with
 |bool hu=>
  intro d _ x y vx vy hx hy;obtain rfl:=xR hx;obtain rfl:=xR hy;exact⟨_,rfl,run_equalIn_bool' w d _ _ _ hu⟩
 |int hu=>
  intro d _ x y vx vy hx hy;obtain rfl:=wC hx;obtain rfl:=wC hy;refine⟨_,rfl,(run_equalIn_int w d _ _ _ _ _ hu).trans ?_⟩;congr 1
 |str hu=>
  intro d _ x y vx vy hx hy;obtain rfl:=zK hx;obtain rfl:=zK hy;refine⟨_,rfl,(run_equalIn_string w d _ _ _ hu).trans ?_⟩;congr 1;rw[ByteArray.toList_eq,ByteArray.toList_eq];exact QR _ _
 | @struct h0 t0 fs0 ty0 hr hu hs _ ih=>
  intro d hd x y vx vy hx hy;obtain⟨cx,rfl,rx⟩:=L9 hr hx;obtain⟨cy,rfl,ry⟩:=L9 hr hy;obtain⟨d,rfl⟩: ∃d',d=d'+1:=⟨d-1,pJ⟩;obtain⟨b,h1,h2⟩:=ih d pJ x y [] [] cx cy rfl rfl rx ry;refine⟨b,h1,?_⟩;have hf:P.fieldsOf t0=fs0:=by unfold Program.fieldsOf;rw[hu]
  rw[run_equalIn_struct w _ _ _ _ (by rw[hf];exact hu) hs,hf];simpa using h2
 |arr hr hu hi _ ih=>
  intro d hd x y vx vy hx hy;obtain⟨cx,rfl,rx⟩:=L9 hr hx;obtain⟨cy,rfl,ry⟩:=L9 hr hy;obtain⟨d,rfl⟩: ∃d',d=d'+1:=⟨d-1,pJ⟩;obtain⟨b,h1,h2⟩:=ih d pJ x y [] [] cx cy pL pL rx ry;refine⟨b,h1,?_⟩;obtain⟨i,hi⟩:=aVb.1 hi;rw[run_equalIn_array w _ _ _ hu hi,List.range_eq_range'];simpa using h2
 |nil=>
  intro d _ x y px py cx cy _ _ _ _;exact⟨true,rfl,by simp [Op.eqFields]⟩
 |anil=>
  intro d _ x y px py cx cy _ _ _ _;exact⟨true,rfl,by simp [Op.eqItems]⟩
 | @cons h o f r a b hn ho hsz hrow _ _ iha ihb=>
  intro d hd x y px py cx cy hpx hpy ⟨x1,x2,ex,rx1,rx2⟩ ⟨y1,y2,ey,ry1,ry2⟩;subst ex;subst ey;obtain⟨vx,p1,v1⟩:=QS (P:=P) (c1:=px) (c3:=x2) hsz hrow rx1;obtain⟨vy,p2,v2⟩:=QS (P:=P) (c1:=py) (c3:=y2) hsz hrow ry1;obtain⟨b1,e1,r1⟩:=iha d hd x.1 y.1 vx vy v1 v2;obtain⟨b2,e2,r2⟩:=ihb d hd x.2 y.2 (px++x1) (py++y1) x2 y2 (by rw[aVc,hpx,sY rx1]) (by rw[aVc,hpy,sY ry1]) rx2 ry2;refine⟨b1&&b2,by simp only[CZ,e1,e2,CZ.eqAnd],?_⟩;rw[aVi] at p1 p2 r2;rw[aVi] at r2;rw[hpx,<-ho] at p1;rw[hpy,<-ho] at p2;simp only[Op.eqFields,aU8 hn,aVn,p1,p2,aVk,r1];cases b1
  .simp
  .simpa using r2
 | @acons h e i m a b hsz hrow _ _ iha ihb=>
  intro d hd x y px py cx cy hpx hpy ⟨x1,x2,ex,rx1,rx2⟩ ⟨y1,y2,ey,ry1,ry2⟩;subst ex;subst ey;have hc:=aLI hsz;obtain⟨vx,p1,v1⟩:=QS (P:=P) (c1:=px) (c3:=x2) hsz hrow rx1;obtain⟨vy,p2,v2⟩:=QS (P:=P) (c1:=py) (c3:=y2) hsz hrow ry1;obtain⟨b1,e1,r1⟩:=iha d hd x.1 y.1 vx vy v1 v2;obtain⟨b2,e2,r2⟩:=ihb d hd x.2 y.2 (px++x1) (py++y1) x2 y2 (by rw[aVc,hpx,sY rx1,hc,aWi]) (by rw[aVc,hpy,sY ry1,hc,aWi]) rx2 ry2;refine⟨b1&&b2,by simp only[CZ,e1,e2,CZ.eqAnd],?_⟩;rw[aVi] at p1 p2 r2;rw[aVi] at r2;rw[hpx] at p1;rw[hpy] at p2;simp only[aWU,Op.eqItems,aVn,p1,p2,aVk,r1];cases b1
  .simp
  .simpa using r2
variable {o:Oper}{a:Act}{H:sD}{T:sX}(hT:xQ P T) (hH:sK g w H)
include hT hH
theorem aLJ {op:BinOp}{xt yt:TypeId}{x y:Operand}(ho:o.op= .binOp op xt x y yt) {sx sy:qI}(hx:s3 g w sx (a.eval x)) (hy:s3 g w sy (a.eval y)) {e:qT}
  (hr:C6 (Z2 (s8 T xt) op sx sy)=some e):rR P o a g w H e:=by
 obtain⟨q,hq,rfl⟩:=LA hr;have go: ∀{u v:pV},a.eval x=u->a.eval y=v->(∃z,(do eqGuard op xt x y u v;Go.binOp op xt u v:Sem pV).run P w= .ok z w/\AS g w q.2 z)->rR P o a g w H ⟨q.1,(q.2,none),[],[]⟩:=by
  rintro u v rfl rfl ⟨z,hz,hd⟩;refine rR.pure hH (v:=z) ?_ hd;unfold execOp;rw[ho];simp only[aVn,aVC] at hz|-;rw[hz];rfl
 replace hx:=hx.1;replace hy:=hy.1;generalize hti:s8 T xt=oti at hq;unfold Z2 at hq;split at hq
 .rename_i u el by' ar ls_ t l k k';have hd:=(tK hT hti).2;simp only[yW] at hd;obtain⟨ax,cx,ex,hle,hll⟩:=F4 hx;have hnil:ax=none->l=[]:=fun h=>by
   rcases hll with h1|⟨b,o,h1,_⟩
   .exact h1
   .rw[h] at h1;cases h1
  have ey:a.eval y= .slice none 0 0:=hy;refine go ex ey ?_;unfold TN at hq;split at hq
  .cases hq;have h1:(do eqGuard .eql xt x y (.slice ax (List.length l) cx) (.slice none 0 0);Go.binOp .eql xt (.slice ax (List.length l) cx) (.slice none 0 0):Sem pV).run P w= .ok (.bool ax.isNone) w:=by
    simp only[aVn];rw[show (eqGuard .eql xt x y (.slice ax (List.length l) cx) (.slice none 0 0)).run P w= .ok () w from by simp [eqGuard]];exact Lib.run_eql_slice_nil (P:=P) w xt _ ax (List.length l) cx 0 0 hd.1
   exact⟨_,h1,_,rfl,fun h=>hnil (by simpa using h),fun _=>trivial⟩
  .cases hq;have h1:(do eqGuard .neq xt x y (.slice ax (List.length l) cx) (.slice none 0 0);Go.binOp .neq xt (.slice ax (List.length l) cx) (.slice none 0 0):Sem pV).run P w= .ok (.bool (!ax.isNone)) w:=by
    simp only[aVn];rw[show (eqGuard .neq xt x y (.slice ax (List.length l) cx) (.slice none 0 0)).run P w= .ok () w from by simp [eqGuard]];exact run_neq_slice_nil_any (P:=P) w xt _ ax (List.length l) cx 0 0 hd.1
   exact⟨_,h1,_,rfl,fun _=>trivial,fun h=>hnil (by simpa using h)⟩
  .cases hq
 .rename_i u el by' ar ls_ k t l k';have hd:=(tK hT hti).2;simp only[yW] at hd;obtain⟨ay,cy,ey,hle,hll⟩:=F4 hy;have hnil:ay=none->l=[]:=fun h=>by
   rcases hll with h1|⟨b,o,h1,_⟩
   .exact h1
   .rw[h] at h1;cases h1
  have ex:a.eval x= .slice none 0 0:=hx;refine go ex ey ?_;unfold TN at hq;split at hq
  .cases hq;have h1:(do eqGuard .eql xt x y (.slice none 0 0) (.slice ay (List.length l) cy);Go.binOp .eql xt (.slice none 0 0) (.slice ay (List.length l) cy):Sem pV).run P w= .ok (.bool ay.isNone) w:=by
    simp only[aVn];rw[show (eqGuard .eql xt x y (.slice none 0 0) (.slice ay (List.length l) cy)).run P w= .ok () w from by simp [eqGuard]];exact run_eql_nil_slice (P:=P) w xt _ ay (List.length l) cy 0 0 hd.1
   exact⟨_,h1,_,rfl,fun h=>hnil (by simpa using h),fun _=>trivial⟩
  .cases hq;have h1:(do eqGuard .neq xt x y (.slice none 0 0) (.slice ay (List.length l) cy);Go.binOp .neq xt (.slice none 0 0) (.slice ay (List.length l) cy):Sem pV).run P w= .ok (.bool (!ay.isNone)) w:=by
    simp only[aVn];rw[show (eqGuard .neq xt x y (.slice none 0 0) (.slice ay (List.length l) cy)).run P w= .ok () w from by simp [eqGuard]];exact run_neq_nil_slice (P:=P) w xt _ ay (List.length l) cy 0 0 hd.1
   exact⟨_,h1,_,rfl,fun _=>trivial,fun h=>hnil (by simpa using h)⟩
  .cases hq
 .rename_i u el b ar ls_ t x' k t' y' k';unfold aAa at hq;split at hq
  .rename_i htt;subst htt;split at hq
   .rename_i hc;obtain⟨rfl,hc⟩:=hc;simp only[uV] at hq;obtain⟨r,hr1,hr2⟩: ∃r,CZ t' x' y'=some r/\((op= .eql/\q=([],.val .bool r))\/(op= .neq/\q=([],.val .bool (!r)))):=by
     generalize hgen:CZ t' x' y'=od at hq;unfold a99 at hq;split at hq
     .rename_i r;cases hq;exact⟨r,rfl,.inl ⟨rfl,rfl⟩⟩
     .rename_i r;cases hq;exact⟨r,rfl,.inr ⟨rfl,rfl⟩⟩
     .cases hq
    have hti':=tK hT hti;rcases hc with rfl|⟨hrow,rfl⟩
    .have hd:=hti'.2;simp only[yW] at hd;obtain hbx:=xR hx;obtain hby:=xR hy;refine go hbx hby ?_;have hrr:r=(x'==y'):=(aVe hr1).symm;subst hrr;have hrun:=run_equalIn_bool' (P:=P) w 9999 xt x' y' hd;rcases hr2 with⟨rfl,rfl⟩ |⟨rfl,rfl⟩
     .refine⟨.bool (x'==y'),?_,wV _ _ _⟩;simp only[aVn];rw[show (eqGuard .eql xt x y (.bool x') (.bool y')).run P w= .ok () w from by simp [eqGuard]];simp only[aVk,Go.binOp,Op.equal,Op.maxDepth,aVn,hrun,aVC]
     .refine⟨.bool (!(x'==y')),?_,wV _ _ _⟩;simp only[aVn];rw[show (eqGuard .neq xt x y (.bool x') (.bool y')).run P w= .ok () w from by simp [eqGuard]];simp only[aVk,Go.binOp,Op.equal,Op.maxDepth,aVn,hrun,aVC]
    .have h2:=hti'.2;have heq:P.eqGuardType P.depth xt=false/\∃h,h<9000/\yV P h (.ty xt) t':=by
      unfold yW at h2;cases t'<;>simp only[Ty.isRow,aWx] at hrow
      all_goals exact h2.2 rfl
     obtain⟨hg1,hh,hlt,hE⟩:=heq;obtain⟨cx,ex,rx⟩:=L9 hrow hx;obtain⟨cy,ey,ry⟩:=L9 hrow hy;obtain⟨b',hb1,hb2⟩:=hE.run (g:=g) (w:=w) 9999 pJ x' y' _ _ hx hy;rw[hr1] at hb1;obtain rfl:=aVe hb1;rw[ex,ey] at hb2;refine go ex ey ?_;rcases hr2 with⟨rfl,rfl⟩ |⟨rfl,rfl⟩
     .refine⟨.bool r,?_,wV _ _ _⟩;simp only[aVn];rw[run_eqGuard_agg w _ _ _ _ _ _ hg1];simp only[aVk];rw[run_eql_struct,hb2];rfl
     .refine⟨.bool (!r),?_,wV _ _ _⟩;simp only[aVn];rw[run_eqGuard_agg w _ _ _ _ _ _ hg1];simp only[aVk];rw[run_neq_struct,hb2];rfl
   .cases hq
  .cases hq
 .cases hq
end
end Go.Proofs.YtbbpilohihldiaaGreatDoor.Vc
namespace Go.Proofs.YtbbpilohihldiaaGreatDoor.Vc
open Go.RowKit
theorem aLK (s:pG):Lib.strCells ⟨s.toArray⟩=s.map fun b=>Value.int .u8 b.toNat:=by
 simp [Lib.strCells]
theorem aLL {P:Program}(w:pU) (t u ty e:TypeId) (i:TypeInfo) (ht:P.underlying t=some (.slice e)) (hu:P.underlying u=some .string) (hi:P.info? e=some i) (hz:i.zero=some (.int .u8 0))
  (hsize:i.size=1) (hby:i.bytes=1) (v:pV) (n:Nat) (xs:pQ) (hown:w.ownsRow 0 e 1 v n xs) (s:ByteArray) (hm:0<s.size)
  (h63:n+s.size<=maxLen) (hbytes:n+s.size<=140737488355328):
  ∃q cap w',(Builtin.append_ #[t,u] ty #[v,.string s]).run P w= .ok (.slice (some ⟨q,0,none⟩) (n+s.size) cap) w'/\w'.ownsRow 0 e 1 (.slice (some ⟨q,0,none⟩) (n+s.size) cap) (n+s.size) (xs++Lib.strCells s)/\
   (q=w.heap.size\/v.ownBlock=some q)/\w.grownBy w' v.ownBlock/\n+s.size<=cap/\
   ∀b o,b<w.heap.size->(v.ownBlock=some b->o<n*1)->w'.cell? ⟨b,o,none⟩=w.cell? ⟨b,o,none⟩:=by
 have hsmall:n+s.size<=9223372036854775807:=by simp only[maxLen] at h63;omega
 have hxl:xs.length=n:=by simpa using hown.1
 have hlen:(xs++Lib.strCells s).length=(n+s.size)*1:=by rw[aVc,hxl,Lib.strCells_length,aXj]
 have grown: ∀(old:Nat),old<n+s.size->∀(row:pS),
   (w.drew.alloc (.cells (xs.toArray++(Lib.strCells s).toArray++Builtin.zeroCells (Value.int .u8 0).cells (grownCap w (n+s.size) old e- (n+s.size))) e)).ownsRow 0 e 1
    (.slice (some ⟨w.heap.size,0,none⟩) (n+s.size) (grownCap w (n+s.size) old e)) (n+s.size) (xs++Lib.strCells s)/\
   w.grownBy (w.drew.alloc (.cells (xs.toArray++(Lib.strCells s).toArray++Builtin.zeroCells (Value.int .u8 0).cells (grownCap w (n+s.size) old e- (n+s.size))) e)) row/\n+s.size<=grownCap w (n+s.size) old e/\
   ∀b o,b<w.heap.size->(w.drew.alloc (.cells (xs.toArray++(Lib.strCells s).toArray++Builtin.zeroCells (Value.int .u8 0).cells (grownCap w (n+s.size) old e- (n+s.size))) e)).cell? ⟨b,o,none⟩=w.cell? ⟨b,o,none⟩:=by
  intro old ho row;have hge:=grownCap_ge w (n+s.size) old e;have hcm:grownCap w (n+s.size) old e<=maxLen:=grownCap_le_maxLen w (n+s.size) old e h63;refine⟨⟨hlen,.inr ⟨w.heap.size,_,_,rfl,aVX _,aXl w.drew _,hge,hcm,?_,?_⟩⟩,⟨rfl,rfl,rfl,by simp,fun k hk _=>aVH w.drew _ k hk⟩,hge,fun b o hb=>aVB (w:=w) (a:=⟨b,o,none⟩) (aVH w.drew _ b hb)⟩
  .have hz1:(Value.int IntKind.u8 0).cells.size=1:=rfl;simp only[aXk,aV3,size_zeroCells,hz1,hxl,Lib.strCells_length];omega
  .simp only[Array.toList_append,aVi];rw[<-aVi,<-hlen];exact aWu
 rcases hown.2 with⟨rfl,rfl⟩ |⟨g,cap,cur,rfl,hbg,hg,hnc,hcm,hcs,htake⟩
 .have hx:xs=[]:=aVE hxl;subst hx;have hr:=run_append_nil_string (P:=P) w t u ty e i (.int .u8 0) ht hu hi hz s pJ pJ (by rw[hby];omega);have hgr:=grown 0 pJ (Value.ownBlock (.slice none 0 0));simp only[aVF,List.nil_append,Array.empty_append] at hgr|-;have e1:(s.data.map fun b=>Value.int .u8 b.toNat)=(Lib.strCells s).toArray:=by
   apply Array.ext';simp [Lib.strCells]
  rw[e1] at hr;exact⟨_,_,_,hr,hgr.1,.inl rfl,hgr.2.1,hgr.2.2.1,fun b o hb _=>hgr.2.2.2 b o hb⟩
 .by_cases hroom:n+s.size<=cap
  .have hcs':cur.size=cap:=by simpa using hcs
   have hr:=Lib.run_append_room_string (P:=P) w t u ty e i ht hu hi hsize g n cap cur hg s hroom pJ;refine⟨_,_,_,hr,⟨hlen,.inr ⟨g,cap,_,rfl,hbg,aXb w g cur _ e _ hg,hroom,hcm,?_,?_⟩⟩,.inr rfl,⟨rfl,rfl,rfl,by simp,fun k _ hk=>aWM w g k _ (fun e=>hk (by simp [Value.ownBlock,e]))⟩,hroom,fun b o hb hso=> ?_⟩
   .simp only[aV3,aVc,aVx,aVh,aVJ,Lib.strCells_length];omega
   .have ht':cur.toList.take n=xs:=by simpa using htake
    rw[ht',<-hlen];exact aWu
   .by_cases hbg':b=g
    .subst hbg';have ho:=hso rfl;rw[cell_setRow_same w b o cur _ e _ hg,cell_of_row w b o cur e (0,0) hg];have hlt:o<(cur.toList.take n).length:=by rw[aVx,aVJ];omega
     have hlt2:o<cur.size:=by rw[aVx,aVJ] at hlt;omega
     simp only[List.getElem?_toArray,aVi];rw[aVt hlt,aWY,aU8 pJ];simp
    .exact aVB (a:=⟨b,o,none⟩) (aWM w g b _ hbg')
  .have holds: ∀j u,xs[j]? =some u->w.cell? ((⟨g,0,none⟩:Addr).add j)=some u:=hown.cells (g:=g) rfl;have hr:=Lib.run_append_grow_string (P:=P) w t u ty e i (.int .u8 0) ht hu hi hz ⟨g,0,none⟩ n cap xs (by rw[hsize];simpa using hxl) holds s pJ pJ (by rw[hby];exact growslice_fits pJ pJ);have hgr:=grown cap pJ (Value.ownBlock (.slice (some ⟨g,0,none⟩) n cap));exact⟨_,_,_,hr,hgr.1,.inl rfl,hgr.2.1,hgr.2.2.1,fun b o hb _=>hgr.2.2.2 b o hb⟩
theorem aLM {P:Program}(w:pU) (t u ty e:TypeId) (i:TypeInfo) (ht:P.underlying t=some (.slice e)) (hu:P.underlying u=some .string) (hi:P.info? e=some i) (hsize:i.size=1) (ad:Option Addr) (n c:Nat) (hle:n<=c):
  (Builtin.append_ #[t,u] ty #[.slice ad n c,.string ⟨#[]⟩]).run P w= .ok (.slice ad n c) w:=by
 have hf:=Lib.run_firstCells_string (P:=P) w 1 ⟨#[]⟩;have hm:(⟨#[]⟩:ByteArray).size=0:=rfl;rw[hm] at hf;cases ad<;>simp [Builtin.append_,aVu ht,aVu hu,sizeOf,typeInfo,hi,hsize,Builtin.lenOf,hm,hf,hle,Lib.strCells,storeCells]
theorem aBZ (g:Gh) (w:pU): ∀s:pG,tT (Rd g w (.int .u8)) 1 (tV s) (s.map fun b=>Value.int .u8 b.toNat)
 |[]=>rfl
 |b::s=>⟨[.int .u8 b.toNat],_,rfl,rfl,rfl,aBZ g w s⟩
section
variable {P:Program}{o:Oper}{a:Act}{g:Gh}{w:pU}{H:sD}{T:sX}(hT:xQ P T) (hH:sK g w H)
include hT hH
theorem aLN {t t':TypeId}{x:Operand}(ho:o.op= .convert t t' x) {sx:qI}(hx:s3 g w sx (a.eval x)) {e:qT}
  (hr:C6 (Z4 T (s8 T t) (s8 T t') sx)=some e):rR P o a g w H e:=by
 obtain⟨q,hq,rfl⟩:=LA hr;replace hx:=hx.1;generalize h1:s8 T t=o1 at hq;generalize h2:s8 T t'=o2 at hq;unfold Z4 at hq;split at hq
 .rename_i e b1 a1 l1 e2 b2 a2 l2 l k;generalize h3:s8 T e=o3 at hq;unfold aAc at hq;split at hq
  .cases hq;have d1:=(tK hT h1).2;have d2:=(tK hT h2).2;have d3:=(tK hT h3).2;simp only[yW] at d1 d2 d3;obtain⟨ad,cap,hv,hle,hl⟩:=F4 hx;refine rR.pure hH (v:= .string ⟨(tE l).toArray⟩) ?_ (HI _ _ _);simp only[execOp,ho,hv,aVn];have run:(convert t t' (.slice ad (List.length l) cap)).run P w= .ok (.string ⟨(tE l).toArray⟩) w:=by
    rcases hl with rfl|⟨b,off,rfl,hL⟩
    .rw[run_convert_bytes_string w t t' e ad _ cap d1.1 d3 d2];cases ad with
     |none=>simp [Conv.bytesToString,tE];rfl
     |some ad=>simp [Conv.bytesToString,loadCells,loadCellsFrom,tE];rfl
    .have:=run_convert_bytes_arg (P:=P) w t e d1.1 d3 b off (List.length l) cap l rfl (fun i hi=>by
      obtain⟨cs,_,c2,_,c4⟩:=V6 hL (aVj hi);have c5:cs=[.int .u8 (l[i]:Int)]:=c4;subst c5;have:=c2 0 _ rfl;have hcell:Ty.cells (.int .u8)=1:=rfl;rw[hcell,aXj,aWs] at this;rw[this,aVy,aVj hi];rfl) t' d2
     exact this
   rw[run];rfl
  .cases hq
 .cases hq
theorem aLO {args:Array Operand}{tys:Array TypeId}(ho:o.op= .call ⟨.builtin .append,args,tys⟩) {ρ:Operand->qI}(hρ: ∀x∈args.toList,s3 g w (ρ x) (a.eval x)) {e:qT}
  (hr:UO T H (vU ρ args.toList) tys.toList=some e) (hs: ∀p∈e.side,p):rR P o a g w H e:=by
 unfold UO at hr;split at hr
 .rename_i t u htu;have htys:tys= #[t,u]:=by apply aWp.1;rw[htu]
  split at hr
  .rename_i e1;subst e1;exact aLa hT hH ho hρ htys hr hs
  .clear htu;subst htys;generalize hst:s8 T t=ot at hr;generalize hsu:s8 T u=ou at hr;generalize hss:vU ρ args.toList=ss at hr;unfold a0c at hr;split at hr
   .rename_i el ar ls_ e2 b2 a2 ls2 l k s k2;generalize hk:qM H k=ob at hr;unfold UN at hr;split at hr
    .rename_i e' c n;split at hr
     .rename_i hec;obtain⟨rfl,rfl⟩:=hec;cases hr;rw[aVc];have hsl:List.length (tV s)=List.length s:=by simp [tV]
      rw[hsl];have hln:=hs _ (by simp:(List.length l=n)∈_);have hby:=hs _ (by simp:(List.length l+List.length s<=140737488355328)∈_);obtain⟨v,vr,hv,hs1,hs2⟩:=VA hT hH hρ hss;obtain⟨h2,h3,_⟩:=(tK hT hst).2;have hu:=(tK hT hsu).2;simp only[yW] at hu;obtain⟨ei,hei,hz⟩:=aVo.1 h3;simp only[aVD] at hz;obtain⟨cs,hx⟩:=HJ (a:=a) hT hH ho;obtain⟨v0,xs,hv0,hown,hnone,hseal⟩:=hH.blk k _ hk;have hcur:g.cur k (List.length l)=some v:=hs1.2;rw[hln,hv0] at hcur;obtain rfl:=aVe hcur;obtain⟨adl,capl,hvl,hlel,hll⟩:=F4 hs1.1;have hvr:=zK hs2.1;have hsz:(⟨List.toArray s⟩:ByteArray).size=List.length s:=by simp [ByteArray.size]
      by_cases hm:List.length s=0
      .obtain rfl:s=[]:=aVE hm;have hget: ∀i,qM (rD [(k,qH.grow e' 1 (List.length l+List.length ([]:pG)))] H) i=qM H i:=by
        intro i;simp only[rD,qM];by_cases hi:k=i
        .subst hi;rw[aU8 rfl,hk,hln];rfl
        .rw[aVa hi]
       have hkeep:sG g w H ⟨[List.length l=n,List.length l+List.length ([]:pG)<=140737488355328],(.val (.list (.int .u8)) (l++tV []),some k),[(k,.grow e' 1 (List.length l+List.length ([]:pG)))],[k]⟩ g w v0:=by
        refine⟨.refl _ _,?_,⟨fun i b h=>hH.blk i b ((hget i).symm.trans h),fun i j bi bj b o' hij h1 h2=>hH.dis i j bi bj b o' hij ((hget i).symm.trans h1) ((hget j).symm.trans h2),hH.sl,hH.tab.1,fun i blk b o' h ho'=>hH.tab.2 i blk b o' ((hget i).symm.trans h) ho'⟩,.refl _ _ _,fun i blk b o' hi hg ho'=> .inr ⟨i,blk,hi,(hget i).symm.trans hg,ho'⟩,fun _ _=>⟨rfl,rfl⟩,fun i u' y us h=> .inl ⟨y,us,(hget i).symm.trans h⟩⟩;rw[show l++tV []=l from by simp [tV]];exact hs1
       refine rR.value (v:=v0) (w':=w) ?_ hkeep;rw[hx,hv,hvr,hvl];have:=aLM (P:=P) w t u o.type e' ei h2 hu hei (by rw[hz.1];rfl) adl (List.length l) capl hlel;simp only[builtin,aVn];rw[this];simp only[aVk,aVC]
      .have hxs:tT (Rd g w (.int .u8)) 1 l xs:=by
        by_cases h0:List.length l=0
        .obtain rfl:l=[]:=aVE h0;have:xs=[]:=aVE (by rw[hown.1,<-hln];simp);exact this
        .rcases hll with rfl|⟨b0,off0,rfl,hL0⟩
         .exact absurd rfl h0
         .obtain⟨ls,hF0,hra0,_⟩:=NK hL0;rcases hown.2 with⟨e1,e2⟩ |⟨q,cap,cur,e1,e2⟩
          .exact absurd (hln.trans e2) h0
          .rw[hvl] at e1;simp only[aXi,aU9,Addr.mk.injEq] at e1;obtain⟨⟨rfl,rfl,_⟩,_,rfl⟩:=e1;have hvn:v0= .slice (some ⟨b0,0,none⟩) n capl:=by rw[hvl,hln]
           have hrx:=a0G (hvn▸hown);have:ls=xs:=by
            have hl1:=J5 hF0;have hl2:=hown.1;have hc1:Ty.cells (.int .u8)=1:=rfl;rw[hc1] at hl1;apply List.ext_getElem?;intro j;by_cases hj:j<ls.length
            .have h1:=hra0 j ls[j] (aVj hj);have hj':j<xs.length:=by rw[hl2,<-hln,<-hl1];exact hj
             have h2:=hrx j xs[j] (aVj hj');rw[h1] at h2;rw[aVj hj,aVj hj',aVe h2]
            .rw[aWo pJ,aWo (by rw[hl2,<-hln,<-hl1];omega)]
           rw[<-this];exact hF0
       obtain⟨q,cap,w',hrun,hown',hq,hg,hcap,hcell⟩:=aLL (P:=P) w t u o.type e' ei h2 hu hei hz.2.2 hz.1 hz.2.1 v0 n xs hown ⟨List.toArray s⟩ (by rw[hsz];omega) (by rw[hsz];unfold maxLen;omega) (by rw[hsz];omega);rw[hsz] at hrun hown' hcap;rw[aLK] at hown';refine rR.value (v:= .slice (some ⟨q,0,none⟩) (n+List.length s) cap) (w':=w') ?_ (by
        have:=sG.append (side:=[List.length l=n,List.length l+List.length s<=140737488355328]) (rds:=[k]) (u:= .int .u8) (r:=tV s) hH hk (show (1:Nat)=Ty.cells (.int .u8) from rfl) hln hv0 hown hnone hseal hxs (aBZ g w s) (by rw[hsl];omega) (by rw[hsl];exact hown') hq hg (by rw[hsl];exact hcap) hcell;rw[hsl] at this;rw[hln];rw[hln] at this;exact this)
       rw[hx,hv,hvr];simp only[builtin,aVn,hrun,aVk,aVC]
     .cases hr
    .cases hr
   .cases hr
 .cases hr
end
theorem aLP {g g':Gh}{w:pU}{f:qI→qI}(hf: ∀s u,s3 g w s u→s3 g' w (f s) u): ∀{l:List qI}{v:pV}{s:qI},QZ g w l v→N1 (l.map f)=some s→s3 g' w s v:=by
  have un: ∀{l:List qI}{vs:pQ}{q},vV g w l vs→KW (l.map f)=some q→NF g' w q vs:=by
    intro l
    induction l with
    | nil=>
      intro vs q h hq;simp only[List.map_nil,KW,aU9] at hq;subst hq;exact h
    | cons s l ih=>
      rintro vs q ⟨v,vs',rfl,h1,h2⟩ hq;have h1':=hf s v h1;simp only[aWq] at hq;generalize f s=fs at hq h1';obtain⟨d,k⟩:=fs;cases d with
      | val t x=>
        simp only[KW] at hq;obtain⟨q',hq',rfl⟩:=aVo.1 hq;refine⟨v,vs',rfl,h1'.1,?_,ih h2 hq'⟩;cases k with
        |none=>trivial
        |some k=>exact h1'.2
      |_=>simp [KW] at hq
  intro l v s h hs
  match l,h,hs with
  | [],⟨vs,e,h⟩,hs=>
    simp only[List.map_nil,N1,aU9] at hs;subst hs;rw[show vs=[] from h] at e;exact⟨⟨[],e,rfl⟩,trivial⟩
  | [x],h,hs=>
    simp only[aWq,List.map_nil,N1,aU9] at hs;subst hs;exact hf x v h
  | x::y::l,⟨vs,e,h⟩,hs=>
    simp only[aWq,N1,aU9] at hs;subst hs;cases hq:KW (f x::f y::l.map f) with
    |none=>exact⟨trivial,trivial⟩
    |some q=>exact⟨⟨vs,e,un (l:=x::y::l) h (by simpa using hq)⟩,trivial⟩
theorem aB0 {base n:Nat}{W:List rU}: ∀l:List qI,Q3 base n W l=l.map (TV base n W)
  |[]=>rfl
  |s::l=>by simp [Q3,aB0 l]
theorem aB1 {P:Program}{f:FuncId}{sg:rI}(hcon:AX P f sg.C) {g:Gh}{w:pU}{H:sD}(hH:sK g w H) {args:List qI}{vals:pQ}(hargs:vV g w args vals) {base:Nat}{e:qT}
    (hr:HB H base args (some sg)=some e) (hs: ∀p∈e.side,p) (hfr:AV g base e):Calls P f vals.toArray w (fun en w'=> ∃v g',en= .returned v∧sG g w H e g' w' v):=by
  simp only[HB] at hr;cases hp0:xZ H sg.ps args (some ⟨[],[],[],0⟩) with
  |none=>rw[hp0] at hr;cases hgs:sg.gs<;>(rw[hgs] at hr;simp [Q4,C8] at hr)
  |some q0=>
   rw[hp0] at hr;cases hp:C8 H sg.gs (some q0) with
   |none=>rw[hp] at hr;simp [Q4] at hr
   |some q=>
    rw[hp] at hr;simp only[Q4,aBQ,List.append_nil] at hr;have hpo0:=aBL hH (CF.nil g w H) hargs hp0;rw[List.nil_append] at hpo0;have hpo:=aBN hH hpo0 hp;cases hcl:IV q.ws.reverse q.H.reverse with
    |none=>rw[hcl] at hr;simp [TY] at hr
    |some L=>
    rw[hcl] at hr;simp only[TY] at hr;have hm:=hpo.m.ren hcl;cases hc:sg.C q.args.reverse L with
    |none=>rw[hc] at hr;simp [TX] at hr
    | some r=>
      rw[hc] at hr;simp only[TX,aBP] at hr;cases hbh:C9 base r.H.length q.ws.reverse 0 q.ws.reverse r.H with
      |none=>rw[hbh] at hr;simp [Q2] at hr
      | some upd=>
        rw[hbh] at hr;cases hrs:N1 (Q3 base r.H.length q.ws.reverse r.ret) with
        |none=>rw[hrs] at hr;simp [Q2] at hr
        | some s=>
          rw[hrs] at hr;simp only[Q2,aU9] at hr;subst hr;refine(hcon.2 (vM g q.ws.reverse) w q.args.reverse _ L r (aLq hH hm) hpo.args hc hs).mono ?_;rintro en w' ⟨v,g',rfl,hret⟩;refine⟨v,_,rfl,aLG hH hm hret hbh hfr ?_⟩;rw[aB0] at hrs;exact aLP (fun s u h=>aLE hH hm hret hbh hfr h) hret.ret hrs
theorem R2 {g g':Gh}{w w':pU}: ∀{t:Ty}{x:t.den}{cs:pQ},IW t=true→Rd g w t x cs→Rd g' w' t x cs
  | .bool,_,_,_,r=>r
  | .int _,_,_,_,r=>r
  | .str,_,_,_,r=>r
  | .unit,_,_,_,r=>r
  | .fn,_,_,_,r=>r
  | .pair a b,_,_,h,⟨c1,c2,e,r1,r2⟩=>by
    simp only[IW,aVg] at h;exact⟨c1,c2,e,R2 h.1 r1,R2 h.2 r2⟩
  | .list _,_,_,h,_=>by cases h
  | .ref,_,_,h,_=>by cases h
  | .clo,_,_,h,_=>by cases h
  | .mp,_,_,h,_=>by cases h
  | .rl _ _,_,_,h,_=>by cases h
  | .mref,_,_,h,_=>by cases h
theorem aB2 {g g':Gh}{w:pU}{k n:Nat}{t:Ty}{l:List t.den}(le:Le g w g' w) (hk: ∀u,g.cur k n=some u→((u= .slice none 0 0∧n=0)∨∃b cap,u= .slice (some ⟨b,0,none⟩) n cap∧n≤cap)→tJ g' w (.list t) l u):
    ∀{args:List qI}{vals:pQ},vV g w args vals→(∀p∈KX k n args,p)→vV g' w (Q6 k t l args) vals
  |[],_,h,_=>h
  | s::ss,_,⟨v,vs,rfl,h1,h2⟩,hp=>by
    refine⟨v,vs,rfl,?_,aB2 le hk h2 (fun p hp'=>hp p ?_)⟩
    · obtain⟨d,x⟩:=s
      cases d with
      | own j m=>
        simp only[aAl];split
        · rename_i e
          subst e;have hm:m=n:=hp (j=j→m=n) (by simp only[KX];exact aVw) rfl;subst hm;exact⟨hk _ h1.1.1 h1.1.2,trivial⟩
        .exact CC le h1
      |_=>exact CC le h1
    · obtain⟨d,x⟩:=s
      cases d with
      |own j m=>simp only[KX];exact aVr _ hp'
      |_=>exact hp'
theorem aLQ {P:Program}{f:FuncId}{sg:rI}(hcon:AX P f sg.C) {g:Gh}{w:pU}{H:sD}(hH:sK g w H) {args:List qI}{vals:pQ}(hargs:vV g w args vals) {base:Nat}{e:qT}{k:Nat}
    (hr:Q7 H base args sg k (qM H k)=some e) (hs: ∀p∈e.side,p) (hfr:AV g base e):Calls P f vals.toArray w (fun en w'=> ∃v g',en= .returned v∧sG g w H e g' w' v):=by
  cases hk:qM H k with
  |none=>rw[hk] at hr;cases hr
  | some b=>
    rw[hk] at hr;cases b with
    | row e0 t l m=>
      simp only[Q7] at hr;cases hi:HB ((k,.dead)::H) base (Q6 k t l args) (some sg) with
      |none=>rw[hi] at hr;cases hr
      | some e1=>
        rw[hi] at hr;unfold Z9 at hr;split at hr
        · rename_i side t' x kk U rds heq
          simp only[aU9] at heq;subst heq;split at hr
          · rename_i hnl
            simp only[aVg,aVG] at hnl;obtain⟨⟨hnl,hU⟩,hkU⟩:=hnl;have hkU':k∉qO U:=fun h=>by rw[LD.2 h] at hkU;cases hkU
            cases hr;obtain⟨hl,v,xs,hv,hown,hF,hnone,hseal⟩:=hH.blk k _ hk
            let g':Gh:={g with S:=fun b o=>g.S b o∨(v.ownBlock=some b∧o<m*t.cells)}
            have le:Le g w g' w:=⟨fun _ _ h=> .inl h,fun _ _ _=>rfl,fun _ _ h=>h,fun _ _ _ h=>h⟩;have hown2: ∀b,v.ownBlock=some b→∀o,sE g k (.row e0 t l m) b o:=fun b hb o=>⟨v,hv,hb⟩
            have hlist: ∀u,g.cur k m=some u→((u= .slice none 0 0∧m=0)∨∃b cap,u= .slice (some ⟨b,0,none⟩) m cap∧m≤cap)→tJ g' w (.list t) l u:=by
              intro u hu hshape;rw[hv] at hu;obtain rfl:=aVe hu;rcases hshape with⟨rfl,h0⟩ |⟨b,cap,rfl,hcap⟩
              · have:l=[]:=aVE (by rw[hl,h0])
                subst this;exact .inr ⟨rfl,none,0,rfl,aVp _,.inl rfl⟩
              · refine .inr ⟨rfl,some ⟨b,0,none⟩,cap,by rw[hl],by rw[hl];exact hcap,.inr ⟨b,0,rfl,LB (D8 (fun _ _ h=>wT le h) hF) (fun j u hu=> ?_) (fun j hj=> ?_)⟩⟩
                · have:=hown.cells (g:=b) rfl j u hu
                  rwa [aWt] at this
                · right
                  exact⟨rfl,by rw[hl] at hj;omega⟩
            have hget: ∀i b,qM ((k,qH.dead)::H) i=some b→(i=k∧b= .dead)∨(i≠k∧qM H i=some b):=by
              intro i b hb;simp only[qM] at hb;split at hb
              .rename_i e1;exact .inl ⟨e1.symm,(aVe hb).symm⟩
              .rename_i e1;exact .inr ⟨Ne.symm e1,hb⟩
            have hH':sK g' w ((k,qH.dead)::H):=by
              refine⟨fun i b hb=> ?_,fun i j bi bj b o hij h1 h2 o1 o2=> ?_,fun b o hS=> ?_,hH.tab.1,fun i b bb oo hb ho=> ?_⟩
              · rcases hget i b hb with⟨rfl,rfl⟩ |⟨hne,h1⟩
                .trivial
                .exact L8 (hH.blk i b h1) le rfl rfl (fun _ _ _=>⟨rfl,rfl⟩) (fun _ _=>rfl) (fun bb o ho hS=>by
                    rcases hS with hS|hS
                    .exact hS
                    .exact absurd (hown2 bb hS.1 o) (fun h5=>hH.dis i k b _ bb o hne h1 hk ho h5)) (fun _ _ _ _ h=>h)
              · rcases hget i bi h1 with⟨_,rfl⟩ |⟨_,h1⟩
                .exact o1.elim
                · rcases hget j bj h2 with⟨_,rfl⟩ |⟨_,h2⟩
                  .exact o2.elim
                  .exact hH.dis i j bi bj b o hij h1 h2 ((zJ (g':=g') (g:=g) rfl rfl).1 o1) ((zJ (g':=g') (g:=g) rfl rfl).1 o2)
              · rcases hS with hS|hS
                .exact hH.sl b o hS
                .exact NH hown hS.1
              · rcases hget i b hb with⟨_,rfl⟩ |⟨_,h1⟩
                .exact ho.elim
                .exact hH.tab.2 i b bb oo h1 ((zJ (g':=g') (g:=g) rfl rfl).1 ho)
            have hsp: ∀p,p∈KX k m args∨p∈side→p:=fun p hp=>hs p (QY.2 hp)
            have hget2: ∀i,i≠k→qM ((k,qH.dead)::H) i=qM H i:=fun i hi=>by
              simp only[qM];rw[aVa (Ne.symm hi)]
            have hin: ∀{i},i∈qO U→i≠k:=fun h e=>hkU' (e▸h)
            have hup: ∀{i blk},i∈qO U→qM (rD U H) i=some blk→qM (rD U ((k,qH.dead)::H)) i=some blk:=by
              intro i blk hi h
              have: ∀{U:List (Nat×qH)},i∈qO U→qM (rD U ((k,qH.dead)::H)) i=qM (rD U H) i:=by
                intro U
                induction U with
                |nil=>intro h;cases h
                | cons q U ih=>
                  intro h;obtain⟨j,b⟩:=q;simp only[rD,qM];split
                  .rfl
                  · rename_i hne
                    simp only[qO,aVs] at h;exact ih (h.resolve_left (fun e=>hne e.symm))
              rw[this hi];exact h
            have hcells: ∀{i blk},i∈qO U→qM (rD U H) i=some blk→∃t y,blk= .cells t y []∧IW t=true:=by
              intro i blk hi h
              have: ∀{U:List (Nat×qH)},N2 U=true→i∈qO U→qM (rD U H) i=some blk→∃t y,blk= .cells t y []∧IW t=true:=by
                intro U
                induction U with
                |nil=>intro _ h;cases h
                | cons q U ih=>
                  intro hU hi h;obtain⟨j,b⟩:=q;cases b with
                  | cells t y ts=>
                    cases ts with
                    |cons _ _=>simp [N2] at hU
                    | nil=>
                      simp only[N2,aVg] at hU;simp only[rD,qM] at h;split at h
                      · obtain rfl:=aVe h
                        exact⟨t,y,rfl,hU.1⟩
                      · rename_i hne
                        simp only[qO,aVs] at hi;exact ih hU.2 (hi.resolve_left (fun e=>hne e.symm)) h
                  |_=>simp [N2] at hU
              exact this hU hi h
            have hownI: ∀b o,t8 g' ((k,qH.dead)::H) (qO U) b o→t8 g H (qO U) b o:=fun b o ⟨i,blk,hi,h1,h2⟩=>⟨i,blk,hi,(hget2 i (hin hi)).symm.trans h1,(zJ (g':=g') (g:=g) rfl rfl).1 h2⟩;refine(aB1 hcon hH' (aB2 le hlist hargs (fun p hp=>hsp p (.inl hp))) hi (fun p hp=>hsp p (.inr hp)) (fun i hi' hb=>hfr i hi' hb)).mono ?_;rintro en w' ⟨v1,g1,rfl,hE⟩
            let g2:Gh:={g1 with S:=g.S}
            have hle:Le g w g2 w':=⟨fun _ _ h=>h,fun b o h=>hE.le.cell b o (.inl h),fun i p h=>hE.le.J i p h,fun i n u h=>hE.le.cur i n u h⟩
            have hfr2:Fr (t8 g H (qO U)) w w' g.S g2.S:=
              ⟨hE.fr.os,hE.fr.tape,hE.fr.output,hE.fr.size,fun b hb hno=>hE.fr.blk b hb (fun o h=>hno o (hownI b o h)),fun b o hb hno=>hE.fr.cell b o hb (fun h=>hno (hownI b o h)),fun _ _ h=> .inl h,fun b s h=>(hE.fr.shape b s h).imp id fun h o=>hownI b o (h o)⟩
            have hgho: ∀i,i∉qO U→g2.J i=g.J i∧g2.cur i=g.cur i:=fun i hi=>hE.gho i hi
            have hperm: ∀i blk b o,i∈qO U→qM (rD U H) i=some blk→sE g2 i blk b o→w.heap.size≤b∨t8 g H (qO U) b o:=fun i blk b o hi hg ho=>
              (hE.perm i blk b o hi (hup hi hg) ((zJ (g':=g2) (g:=g1) rfl rfl).1 ho)).imp id (hownI b o)
            refine⟨v1,g2,rfl,hle,⟨?_,trivial⟩,hH.upd hle hfr2 hperm hgho (fun i blk hi hg=> ?_) (fun i j bi bj b o hi hj hij hgi hgj hoi hoj=> ?_) (fun b o h=>aVP (hH.sl b o h) hE.fr.size),hfr2,hperm,hgho,fun i u y us h=> ?_⟩
            .exact hE.slot.1.imp (fun⟨a,cs,e,q⟩=>⟨a,cs,e,R2 hnl q⟩) (fun⟨a,q⟩=>⟨a,R2 hnl q⟩)
            · obtain⟨t2,y2,rfl,hn2⟩:=hcells hi hg
              obtain⟨p,cs,q1,q2,q3,q4,q5,_⟩:=hE.heap.blk i _ (hup hi hg);exact⟨p,cs,q1,R2 hn2 q2,q3,q4,fun j hj hS=>q5 j hj (hE.le.S _ _ (.inl hS)),fun _ _ hm=>by cases hm⟩
            .exact hE.heap.dis i j bi bj b o hij (hup hi hgi) (hup hj hgj) ((zJ (g':=g2) (g:=g1) rfl rfl).1 hoi) ((zJ (g':=g2) (g:=g1) rfl rfl).1 hoj)
            · by_cases hiU:i∈qO U
              · rcases hE.ty i u y us (hup hiU h) with⟨x',ts',q⟩ |q
                .exact .inl ⟨x',ts',(hget2 i (hin hiU)).symm.trans q⟩
                .exact .inr q
              .exact .inl ⟨y,us,(D9 hiU).symm.trans h⟩
          .cases hr
        .cases hr
    |_=>cases hr
theorem aLR {P:Program}{f:FuncId}{F:(t:Ty)→List t.den→Option (List t.den)}(hF:VE P f F) {g:Gh}{w:pU}{H:sD}(hH:sK g w H) {args:List qI}{vals:pQ}(hargs:vV g w args vals) {e:qT}
    (hr:TZ H F args=some e) (hs: ∀p∈e.side,p):Calls P f vals.toArray w (fun en w'=> ∃v g',en= .returned v∧sG g w H e g' w' v):=by
  unfold TZ at hr;split at hr
  · rename_i k n x
    obtain⟨v,vs,rfl,ha,hv⟩:=hargs;rw[show vs=[] from hv];cases hk:qM H k with
    |none=>rw[hk] at hr;cases hr
    | some b=>
      rw[hk] at hr;cases b with
      | row e0 t l m=>
        simp only[ZA] at hr;cases hf:F t l with
        |none=>rw[hf] at hr;cases hr
        | some l'=>
          rw[hf] at hr;cases hr;have hnm:n=m:=hs _ aVw;subst hnm;obtain⟨hl,v0,xs,hv0,hown,hFx,hnone,hseal⟩:=hH.blk k _ hk;have h1:=ha.1.1;rw[hv0] at h1;obtain rfl:=aVe h1;refine(hF g w e0 t l l' v0 n xs hH.tab.1 hown hFx hl (hs _ pL) hf).mono ?_;rintro en w' ⟨rfl,hl',xs',k1,k2,k3⟩;have hownk: ∀b,v0.ownBlock=some b→∀o,t8 g H [k] b o:=fun b hb o=>⟨k,_,by simp,hk,v0,hv0,hb⟩;refine⟨_,_,rfl,sG.row (v:=v0) (xs:=xs') hH hl' k1 k2 hnone (fun u hu=>by rw[hv0] at hu;exact(aVe hu).symm) (.inr ⟨v0.ownBlock,k3,hownk⟩) (fun b o hS=> ?_) hseal (fun b hb=> .inr (hownk b hb)) ⟨⟨[],rfl,rfl⟩,trivial⟩⟩;have hne:v0.ownBlock≠some b:=fun e=>hseal b e o hS;exact aVB (a:=⟨b,o,none⟩) (k3.block b (hH.sl b o hS) (fun e=>hne e.symm))
      |_=>cases hr
  .cases hr
section
variable {P:Program}{o:Oper}{a:Act}{g:Gh}{w:pU}{H:sD}{T:sX}{Γ:uW}(hT:xQ P T) (hΓ:F6 P Γ) (hH:sK g w H)
include hT hΓ hH
theorem aB3 {f:FuncId}{args:List qI}{vals:pQ}(hargs:vV g w args vals) {base:Nat}{e:qT}(hr:L2 H base args (Γ f)=some e) (hs: ∀p∈e.side,p) (hfr:AV g base e):
    (∀args w,(callFunc f args).run P w= .ok (.enter f args) w)∧Calls P f vals.toArray w (fun en w'=> ∃v g',en= .returned v∧sG g w H e g' w' v):=by
  cases hg:Γ f with
  |none=>rw[hg] at hr;cases hr
  | some sg=>
    rw[hg] at hr;obtain⟨hcon,hrow⟩:=hΓ f sg hg;refine⟨hcon.1,?_⟩;simp only[L2] at hr;cases hF:sg.row with
    | some F=>
      rw[hF] at hr;exact aLR (hrow F hF) hH hargs hr hs
    | none=>
      rw[hF] at hr;simp only[UL] at hr;cases hn:Q5 sg.ps args with
      | some k=>
        rw[hn] at hr;exact aLQ hcon hH hargs hr hs hfr
      | none=>
        rw[hn] at hr;exact aB1 hcon hH hargs hr hs hfr
theorem aLS {fop:Operand}{args:Array Operand}{tys:Array TypeId}(ho:o.op= .call ⟨.value fop,args,tys⟩) {ρ:Operand→qI}(hf:s3 g w (ρ fop) (a.eval fop)) (hρ: ∀x∈args.toList,s3 g w (ρ x) (a.eval x)) {base:Nat}{e:qT}
    (hr:N5 Γ H base (HD T ρ args.toList tys.toList) (ρ fop)=some e) (hs: ∀p∈e.side,p) (hfr:AV g base e) (hlen:args.size=tys.size):rR P o a g w H e:=by
  have hargs:=aBw (a:=a) (ρ:=ρ) hT hΓ hH (xs:=args.toList) (ts:=tys.toList) (by simpa using hlen) hρ;unfold N5 at hr;split at hr
  · rename_i f caps k heq
    rw[heq] at hf
    obtain⟨vs,hcv,hfv⟩: ∃vs,yG g caps vs∧a.eval fop= .func (.func f) #[] vs.toArray:=by
      rcases hf.1 with⟨h1,_⟩ |⟨_,vs,h2,h3⟩
      .cases h1
      · simp only[aV8,and_true] at h3
        exact⟨vs,h2,h3⟩
    obtain⟨hen,hc⟩:=aB3 hT hΓ hH (aLj hT hΓ hH hargs (aBx hT hΓ hH hcv)) hr hs hfr;intro K Q hK;refine aBy ho hfv hen (hc.mono ?_);rintro en w' ⟨v,g',rfl,hE⟩;exact⟨v,rfl,hK _ w' v hE.w⟩
  · rename_i f k heq
    rw[heq] at hf
    have hfv:a.eval fop= .func (.func f) #[] ([]:pQ).toArray:=by
      rcases hf.1 with⟨h1,_⟩ |⟨_,h2⟩
      .cases h1
      .simpa[Rd,aAO] using h2
    obtain⟨hen,hc⟩:=aB3 hT hΓ hH hargs hr hs hfr;intro K Q hK;refine aBy ho hfv hen ?_;rw[List.append_nil];refine hc.mono ?_;rintro en w' ⟨v,g',rfl,hE⟩;exact⟨v,rfl,hK _ w' v hE.w⟩
  .cases hr
theorem aB4: ∀{xs:List Operand}{ts:List TypeId},L3 xs ts=true→xs.length=ts.length
  |[],[],_=>rfl
  |_::xs,_::ts,h=>by simp only[L3] at h;simp [aB4 h]
  |[],_::_,h=>by cases h
  |_::_,[],h=>by cases h
theorem a01 {op:Op}(ho:o.op=op) {ρ:Operand→qI}(hρ: ∀x∈sQ op,s3 g w (ρ x) (a.eval x)) {base:Nat}{e:qT}(hr:uX T Γ o.type ρ base H op=some e) (hs: ∀p∈e.side,p) (hf:AV g base e):rR P o a g w H e:=by
  unfold uX at hr;split at hr
  · rename_i x
    exact aBd hT hH (.inl ho) (hρ x (by simp [sQ])) hr hf
  · rename_i x
    exact aBd hT hH (.inr ho) (hρ x (by simp [sQ])) hr hf
  .exact aK4 hT hH ho hr hf
  · rename_i t x
    exact aK3 hT hH ho (a0P hT hΓ hH (hρ x (by simp [sQ]))) hr hf
  · rename_i t ps
    exact aKI hT hH ho (ρ:=ρ) (fun q hq=>hρ q.2 (by
      simp only[sQ];generalize ps.toList=l at hq
      induction l with
      |nil=>cases hq
      |cons p l ih=>rcases aVs.1 hq with rfl|h<;>simp_all [sQ.parts])) hr
  · rename_i t n ps
    exact aK9 hT hH ho (ρ:=ρ) (fun q hq=>hρ q.2 (by
      simp only[sQ];generalize ps.toList=l at hq
      induction l with
      |nil=>cases hq
      |cons p l ih=>rcases aVs.1 hq with rfl|h<;>simp_all [sQ.parts])) hr hf
  · rename_i t x
    exact aKW hT hH ho (hρ x (by simp [sQ])) hr hs
  · rename_i t x y
    exact aK8 hT hH ho (hρ x (by simp [sQ])) (a0P hT hΓ hH (hρ y (by simp [sQ]))) hr hs hf
  · rename_i x
    exact aKC hT hH ho (hρ x (by simp [sQ])) hr
  · rename_i op t x y t'
    cases hb:TM op (ρ x) (ρ y) with
    | some r=>
      rw[hb] at hr;exact aKt hH ho (hρ x (by simp [sQ])) (hρ y (by simp [sQ])) (by rw[hb];exact hr) hs
    | none=>
      rw[hb] at hr;exact aLJ hT hH ho (hρ x (by simp [sQ])) (hρ y (by simp [sQ])) hr
  · rename_i op t x
    exact aKu hH ho (hρ x (by simp [sQ])) hr hs
  · rename_i t t' x
    cases hb:TO (s8 T t) (s8 T t') (ρ x) with
    | some r=>
      rw[hb] at hr;exact aKv hT hH ho (hρ x (by simp [sQ])) (by rw[hb];exact hr)
    | none=>
      rw[hb] at hr;exact aLN hT hH ho (hρ x (by simp [sQ])) hr
  · rename_i f first caps
    have hfi:first= #[]:=by
      cases hl:first.toList with
      |nil=>apply aWp.1;simpa using hl
      |cons x l=>rw[hl] at hr;cases hr
    subst hfi;exact aKM hT hH ho (ρ:=ρ) (fun x hx=>hρ x (by simpa[sQ] using hx)) hr
  · rename_i t x lo hi
    refine aKX hT hH ho (ρ:=ρ) (hρ x (by simp [sQ])) (fun y hy=>hρ y ?_) (fun y hy=>hρ y ?_) hr hs
    · cases lo with
      |none=>simp at hy
      |some l=>simp at hy;subst hy;simp [sQ,sQ.opt,rD]
    · cases hi with
      |none=>simp at hy
      |some l=>simp at hy;subst hy;cases lo<;>simp [sQ,sQ.opt,rD]
  · rename_i t x f
    exact aKA hT hH ho (hρ x (by simp [sQ])) hr
  · rename_i t x f
    exact aKz hT hH ho (hρ x (by simp [sQ])) hr
  · rename_i t x ix
    exact aKE hT hH ho (hρ x (by simp [sQ])) (hρ ix (by simp [sQ])) hr hs
  · rename_i t x ix
    exact aKD hT hH ho (hρ x (by simp [sQ])) (hρ ix (by simp [sQ])) hr hs
  · rename_i x i
    exact aKB hT hH ho (hρ x (by simp [sQ])) hr hs
  · rename_i t r
    exact aLc hT hH ho hr hf
  · rename_i t x
    exact aLh hT hH ho (hρ x (by simp [sQ])) hr hf
  · rename_i x b
    exact aLi hT hH ho (hρ x (by simp [sQ])) hr
  · rename_i t x i ok
    exact aLe hT hH ho (hρ x (by simp [sQ])) (hρ i (by simp [sQ])) hr
  · rename_i t m k x
    exact aBt hT hH (.inl ho) (hρ m (by simp [sQ])) (hρ k (by simp [sQ])) (aBs (hρ x (by simp [sQ]))) hr
  · rename_i t m k x
    exact aBt hT hH (.inr ho) (hρ m (by simp [sQ])) (hρ k (by simp [sQ])) (aBs (hρ x (by simp [sQ]))) hr
  · rename_i c
    obtain⟨cal,args,tys⟩:=c;simp only at hr;unfold L4 at hr;split at hr
    .exact aKL hT hH ho (ρ:=ρ) (fun x hx=>hρ x (by simpa[sQ] using hx)) hr
    .exact aLO hT hH ho (ρ:=ρ) (fun x hx=>hρ x (by simpa[sQ] using hx)) hr hs
    .exact aA3 (mx:=true) hT hH ho (ρ:=ρ) (fun x hx=>hρ x (by simpa[sQ] using hx)) hr
    .exact aA3 (mx:=false) hT hH ho (ρ:=ρ) (fun x hx=>hρ x (by simpa[sQ] using hx)) hr
    · rename_i f
      cases hsl:L3 args.toList tys.toList with
      |false=>rw[hsl] at hr;cases hr
      | true=>
        rw[hsl] at hr;simp only[a0d] at hr;exact aLS hT hΓ hH ho (hρ f (by simp [sQ])) (fun x hx=>hρ x (by simp [sQ];right;simpa using hx)) hr hs hf (by simpa using aB4 hT hΓ hH hsl)
    .cases hr
  .cases hr
end
def CG (g:Gh) (w:pU) (env:List (Nat×qI)) (tmps:Array pV):Prop:= ∀t,s3 g w (lk env t) (tmps.getD t undef)
def AA (B:Nat) (w:pU) (ds:List Deferred):Prop:=ds.Nodup/\∀d∈ds,∃D,d={target:= .collected D,args:= #[]}/\B<=D/\NG<=D/\w.heap[D]? =some (.deferred (some []))
theorem aB5 (B:Nat) (w:pU):AA B w []:=⟨List.nodup_nil,fun d hd=>by cases hd⟩
theorem AA.same {B:Nat}{w w':pU}{ds:List Deferred}(h:AA B w ds) (hb: ∀D:Nat,w.heap[D]? =some (Obj.deferred (some []))->w'.heap[D]? =some (Obj.deferred (some []))):AA B w' ds:=
 ⟨h.1,fun d hd=>by obtain⟨D,h1,h2,h0,h3⟩:=h.2 d hd;exact⟨D,h1,h2,h0,hb D h3⟩⟩
def HL:Obj->Bool
 | .deferred _=>true
 | .loop _=>true
 |_=>false
theorem a02 {w:pU}{b:Nat}{ob:Obj}(hd:w.heap[b]? =some ob) (hm:HL ob=true) (o:Nat):w.cell? ⟨b,o,none⟩=none:=by
 unfold World.cell?;simp only[hd];cases ob<;>first|rfl|cases hm
theorem VR {g:Gh}{w:pU}{i:Nat}{blk:qH}(h:AT g w i blk) {b o:Nat}(ho:sE g i blk b o) {ob:Obj}(hd:w.heap[b]? =some ob) (hm:HL ob=true):False:=by
 have hrow: ∀{e:TypeId}{c n:Nat}{v:pV}{xs:pQ},w.ownsRow 0 e c v n xs->v.ownBlock=some b->False:=by
  intro e c n v xs hr hb;rcases hr.2 with⟨rfl,_⟩ |⟨g',cap,cur,rfl,_,h3,_⟩
  .cases hb
  .simp only[Value.ownBlock,aU9] at hb;subst hb;rw[hd] at h3;cases h3;cases hm
 cases blk with
 |cells t x toks=>
  obtain⟨p,cs,hp,_,_,ht,_⟩:=h;obtain⟨q,hq,rfl,h1,h2⟩:=ho;rw[hp] at hq;obtain rfl:=aVe hq;have:=(ht.1 (o-p.2) pJ).1;rw[a02 hd hm] at this;cases this
 |grow e c n=>
  obtain⟨v,xs,hv,hr,_⟩:=h;obtain⟨v',hv',hb⟩:=ho;rw[hv] at hv';obtain rfl:=aVe hv';exact hrow hr hb
 |row e t l n=>
  obtain⟨_,v,xs,hv,hr,_⟩:=h;obtain⟨v',hv',hb⟩:=ho;rw[hv] at hv';obtain rfl:=aVe hv';exact hrow hr hb
 |map k v l=>
  obtain⟨p,es,cl,hp,h0,h2,_⟩:=h;obtain⟨q,hq,h1⟩:=ho;rw[hp] at hq;obtain rfl:=aVe hq;rw[show b=p.1 from h1] at hd;rw[h2] at hd;cases hd;cases hm
 |iter s n=>
  obtain⟨p,hp,h0,h2,_⟩:=h;obtain⟨q,hq,h1⟩:=ho;rw[hp] at hq;obtain rfl:=aVe hq;rw[show b=p.1 from h1] at hd;rw[h2] at hd;cases hd;cases hm
 |dead=>exact ho.elim
theorem AA.eff {B:Nat}{g g':Gh}{w w':pU}{H:sD}{e:qT}{v:pV}{ds:List Deferred}(h:AA B w ds) (hH:sK g w H) (k:AU g w H e g' w' v):AA B w' ds:=
 h.same fun D hD=>by
  rw[k.fr.blk D (aVz.1 hD).1 (fun o ⟨i,blk,_,h1,h2⟩=>VR (hH.blk i blk h1) h2 hD rfl)];exact hD
structure vK (B:Nat) (g:Gh) (w:pU) (s:St) (a:Act):Prop where
 env:CG g w s.env a.tmps
 heap:sK g w s.H
 size:a.tmps.size=s.N
 nb: ∀i,s.nb<=i->g.J i=none/\∀n,g.cur i n=none
 def_:AA B w a.defers
 np:s.np<=s.nb
theorem aLT (g:Gh) (w:pU) (v:pV):AS g w (YY v) v:=by
 unfold YY;split
 .exact wV _ _ _
 .exact wU _ _ _ _
 .rename_i s;have:=HI g w s.data.toList;rw[aWI] at this;exact this
 .exact rfl
 .exact .inr ⟨rfl,rfl⟩
 .exact .inr ⟨rfl,rfl⟩
 .exact .inr ⟨rfl,rfl⟩
 .exact trivial
theorem AZ {g:Gh}{w:pU}{env:List (Nat×qI)}{a:Act}(h:CG g w env a.tmps) (x:Operand):s3 g w (uE env x) (a.eval x):=by
 cases x with
 |tmp t=>exact h t
 |const v=>exact⟨aLT g w v,trivial⟩
 |func f=>exact⟨.inr ⟨rfl,[],rfl,rfl⟩,trivial⟩
 |global i=>exact⟨trivial,trivial⟩
theorem NR {g:Gh}{w:pU}{G:Bool}(hG:G=true): ∀{ss:List qI}{s:qI}{v:pV},s∈ss->(∀p∈zI G ss,p)->s3 g w s v->s3 g w (y4 s) v
 |x::ss,s,v,hm,hn,hs=>by
  have hcase: ∀{s:qI},(∀p∈zI G [s],p)->s3 g w s v->s3 g w (y4 s) v:=by
   intro s hn hs;obtain⟨d,k⟩:=s;cases d with
   |cond p d=>
    refine⟨hs.1.1 (hn (G=true->p=true) (by simp [zI]) hG),?_⟩;simp only[y4]
   |_=>exact hs
  have hsplit: ∀p,p∈zI G [x]->p∈zI G (x::ss):=by
   intro p hp;unfold zI at hp|-;split at hp
   .cases hp
   .rename_i heq;simp only[aV8] at heq;obtain⟨rfl,rfl⟩:=heq;rcases aVs.1 hp with h|h
    .exact h▸aVw
    .cases h
   .rename_i h0 heq;simp only[aV8] at heq;obtain⟨_,rfl⟩:=heq;cases hp
  have hsplit2: ∀p,p∈zI G ss->p∈zI G (x::ss):=by
   intro p hp;generalize hL:zI G ss=L at hp;unfold zI;split
   .rename_i h;cases h
   .rename_i heq;simp only[aV8] at heq;obtain⟨_,rfl⟩:=heq;rw[hL];exact aVr _ hp
   .rename_i heq;simp only[aV8] at heq;obtain⟨_,rfl⟩:=heq;rw[hL];exact hp
  rcases aVs.1 hm with rfl|hm
  .exact hcase (fun p hp=>hn p (hsplit p hp)) hs
  .exact NR hG hm (fun p hp=>hn p (hsplit2 p hp)) hs
theorem VS {env:List (Nat×qI)}: ∀{xs:List Operand}{x:Operand},x∈xs->uE env x∈D6 env xs
 |y::xs,x,h=>by
  simp only[D6];rcases aVs.1 h with rfl|h
  .exact aVw
  .exact aVr _ (VS h)
theorem a03: ∀(ops:List Oper) (j:Nat),EX ops j=(ops[j]?).bind (·.dst)
 |[],j=>by simp [EX]
 |o::_,0=>rfl
 |_::r,j+1=>by simpa[EX] using a03 r j
section
variable {P:Program}{g:Gh}{w:pU}{T:sX}{Γ:uW}(hT:xQ P T) (hΓ:F6 P Γ)
include hT hΓ
theorem aLU {ops:List Oper}{o:Oper}{a:Act}{env:List (Nat×qI)}(henv:CG g w env a.tmps) {j:Nat}{b:Bool}(hg:o.guard=some (j,b)) {G:Bool}(h:HF env b (EX ops j)=some G):Region.wanted o (yielded ops.toArray a.tmps)=G:=by
 rw[a03] at h;unfold Region.wanted;rw[hg];simp only;cases hd:(ops[j]?).bind (·.dst) with
 |none=>rw[hd] at h;cases h
 |some t=>
  rw[hd] at h;simp only[HF] at h;have hy:yielded ops.toArray a.tmps j=match a.tmps[t]? with|some (.bool b)=>some b|_=>none:=by
   unfold yielded;have:(ops.toArray[j]?).bind (·.dst)=some t:=by simpa using hd
   rw[this];rfl
  have hv:=henv t;generalize hl:lk env t=s at h hv;unfold aAD at h;have hb: ∀c,a.tmps.getD t undef= .bool c->a.tmps[t]? =some (.bool c):=by
   intro c hc;rw[aVK] at hc;cases hq:a.tmps[t]? with
   |none=>rw[hq] at hc;simp [undef] at hc
   |some v=>rw[hq] at hc;simp at hc;rw[hc]
  split at h
  .rename_i c k;simp only[aU9] at h;have:=hb _ (xR hv.1);rw[hy,this,<-h];cases c<;>cases b<;>rfl
  .rename_i p c k;simp only[aU9] at h;subst h;cases p with
   |true=>
    have:=hb _ (xR (hv.1.1 rfl));rw[hy,this];cases c<;>cases b<;>rfl
   |false=>
    have hu:=hv.1.2 rfl;have: ∀c,a.tmps[t]? ≠some (.bool c):=by
     intro c hc;rw[aVK,hc] at hu;simp [undef] at hu
    rw[hy];cases hq:a.tmps[t]? with
    |none=>cases b<;>rfl
    |some v=>cases v<;>first|(exact absurd hq (this _)) |(cases b<;>rfl)
  .cases h
theorem R3 {G:Bool}{p:Prop}: ∀{l:List Prop},p∈l->(G=true->p)∈QD G l
 |q::l,h=>by
  simp only[QD];rcases aVs.1 h with rfl|h
  .exact aVw
  .exact aVr _ (R3 h)
theorem a04 {o:Oper}{a:Act}{H:sD}(hH:sK g w H) {c x y:Operand}(hop:o.op= .pick c x y) {sc sx sy:qI}(hc:s3 g w sc (a.eval c)) (hx:s3 g w sx (a.eval x)) (hy:s3 g w sy (a.eval y)) {e:qT}(hr:QC sc sx sy=some e) (hs: ∀p∈e.side,p):rR P o a g w H e:=by
 intro K Q hK;unfold QC at hr;split at hr
 .rename_i z k;have hz:=xR hc.1;have run:(execOp a.eval o).run P w= .ok (.value (if z then a.eval x else a.eval y)) w:=by
   unfold execOp;rw[hop];simp [hz,asBool]
  have vN: ∀{v:Bool}{side:List Prop},(if z then a.eval x else a.eval y)= .bool v->e=⟨side,(.val .bool v,none),[],[]⟩->o.wp P a w K Q:=by
   intro v side hv he;subst he;refine rR.value (v:= .bool v) (g':=g) (w':=w) (H:=H) (by rw[run,hv]) (.pure hH (s:=(.val .bool v,none)) ⟨(wV g w v:AS g w (.val .bool v) (.bool v)),trivial⟩) K Q hK
  unfold aAE at hr;split at hr
  .rename_i m1 _ m2 _;simp only[aU9] at hr;refine vN (v:=cond z m1 m2) ?_ hr.symm;cases z
   .exact xR hy.1
   .exact xR hx.1
  .rename_i p m1 _ m2 _;simp only[aU9] at hr;refine vN (v:=cond z m1 m2) ?_ hr.symm;cases z
   .exact xR hy.1
   .exact xR (hx.1.1 (hs (true=true->p=true) (by rw[<-hr];simp) rfl))
  .rename_i m1 _ p m2 _;simp only[aU9] at hr;refine vN (v:=cond z m1 m2) ?_ hr.symm;cases z
   .exact xR (hy.1.1 (hs (false=false->p=true) (by rw[<-hr];simp) rfl))
   .exact xR hx.1
  .rename_i q m1 _ p m2 _;simp only[aU9] at hr;refine vN (v:=cond z m1 m2) ?_ hr.symm;cases z
   .exact xR (hy.1.1 (hs (false=false->p=true) (by rw[<-hr];simp) rfl))
   .exact xR (hx.1.1 (hs (true=true->q=true) (by rw[<-hr];simp) rfl))
  .cases hr
 .cases hr
omit hT hΓ in
theorem R4 {np:Nat}{x:Option qT}{e:qT}(h:a0j np x=some e):x=some e/\(IT e.rds=true->J0 np e.upd=true):=by
 cases x with
 |none=>cases h
 |some q=>
  simp only[a0j] at h;cases hq:IT q.rds with
  |false=>
   rw[hq] at h;cases h;exact⟨rfl,fun h=>by rw[hq] at h;cases h⟩
  |true=>
   rw[hq] at h;simp only[aAF] at h;split at h
   .rename_i hc;cases h;exact⟨rfl,fun _=>hc⟩
   .cases h
omit hT hΓ in
theorem aB6 {np:Nat}{H:sD}: ∀{U:List (Nat×qH)},J0 np U=true->∀{i:Nat}{u:Ty}{y:u.den}{us:pO},i<np->qM (rD U H) i=some (.cells u y us)->qM H i=some (.cells u y us)
 |[],_,i,u,y,us,_,h=>h
 |(j,b)::U,h,i,u,y,us,hi,hg=>by
  simp only[rD,qM] at hg;split at hg
  .rename_i e;subst e;simp only[aU9] at hg;subst hg;simp only[J0] at h;split at h
   .omega
   .cases h
  .refine aB6 ?_ hi hg;unfold J0 at h;split at h
   .rename_i heq;cases heq
   .rename_i heq;cases heq;split at h
    .exact h
    .cases h
   .rename_i heq;cases heq;exact h
theorem aB7 {ops:List Oper}{o:Oper}{a:Act}{s:St}{e:qT}(henv:CG g w s.env a.tmps) (hH:sK g w s.H) (hr:G4 T Γ ops o s=some e) (hs: ∀p∈e.side,p) (hf:AV g s.nb e) {K:Act->pU->Prop}{Q:Exit->Act->pU->Prop}
  (hK: ∀g' w' v,AU g w s.H e g' w' v->K (a.put o.dst v) w'):
  if Region.wanted o (yielded ops.toArray a.tmps) then o.wp P a w K Q else K (a.put o.dst undef) w:=by
 replace hr:=(R4 hr).1;unfold NB at hr;cases hgd:o.guard with
 |none=>
  rw[hgd] at hr;simp only at hr;have hw:Region.wanted o (yielded ops.toArray a.tmps)=true:=by unfold Region.wanted;rw[hgd]
  rw[aU8 hw];cases hop:o.op with
  |pick c x y=>
   rw[hop] at hr;simp only[NA] at hr;exact a04 hT hΓ hH hop (AZ henv c) (AZ henv x) (AZ henv y) hr hs K Q hK
  |_=>
   rw[hop] at hr;simp only[NA] at hr;rw[<-hop] at hr;generalize hpl:uX T Γ o.type (fun x=>y4 (uE s.env x)) s.nb s.H o.op=op at hr;cases op with
   |none=>cases hr
   |some e0=>
    simp only[N8,aU9] at hr;subst hr;refine a01 hT hΓ hH rfl (ρ:=fun x=>y4 (uE s.env x)) (fun x hx=> ?_) hpl (fun p hp=>hs p (xC.2 (.inr hp))) hf K Q (fun g' w' v h=>hK g' w' v ⟨h.le,h.slot,h.heap,h.fr,h.perm,h.gho,h.ty⟩);exact NR rfl (VS hx) (fun p hp=>hs p (xC.2 (.inl hp))) (AZ henv x)
 |some jb=>
  obtain⟨j,b⟩:=jb;rw[hgd] at hr;simp only at hr;generalize hG:HF s.env b (EX ops j)=oG at hr;cases oG with
  |none=>cases hr
  |some G=>
   have hw:=aLU hT hΓ henv hgd hG;rw[hw];by_cases hpk: ∃c x y,o.op= .pick c x y
   .obtain⟨c,x,y,hop⟩:=hpk;rw[hop] at hr;simp only[N9] at hr;generalize hpl:QC (y4 (uE s.env c)) (uE s.env x) (uE s.env y)=op at hr;cases op with
    |none=>cases hr
    |some e0=>
     unfold IZ at hr;split at hr
     .rename_i side d k rds heq;simp only[aU9] at hr heq;subst hr;subst heq;by_cases hGt:G=true
      .rw[aU8 hGt];refine a04 hT hΓ hH hop (NR hGt (ss:=[uE s.env c]) pL (fun p hp=>hs p (xC.2 (.inl hp))) (AZ henv c)) (AZ henv x) (AZ henv y) hpl (fun p hp=>hs (G=true->p) (xC.2 (.inr (R3 hT hΓ hp))) hGt) K Q (fun g' w' v h=>hK g' w' v ⟨h.le,⟨⟨fun _=>h.slot.1,fun hc=>by rw[hGt] at hc;cases hc⟩,trivial⟩,h.heap,h.fr,h.perm,h.gho,h.ty⟩)
      .rw[aVa hGt];exact hK g w undef (AU.pure hH ⟨⟨fun hc=>absurd hc hGt,fun _=>rfl⟩,trivial⟩)
     .rename_i side sl u us rds heq;simp only[aU9] at hr heq;subst hr;subst heq;have hGt:G=true:=hs _ aVw;rw[aU8 hGt];exact a04 hT hΓ hH hop (NR hGt (ss:=[uE s.env c]) pL (fun p hp=>hs p (aVr _ (xC.2 (.inl hp)))) (AZ henv c)) (AZ henv x) (AZ henv y) hpl (fun p hp=>hs (G=true->p) (aVr _ (xC.2 (.inr (R3 hT hΓ hp)))) hGt) K Q (fun g' w' v h=>hK g' w' v ⟨h.le,h.slot,h.heap,h.fr,h.perm,h.gho,h.ty⟩)
     .cases hr
   .have e1:N9 T Γ o s (some G) o.op=IZ G (zI G (D6 s.env (sQ o.op))) (uX T Γ o.type (fun x=>y4 (uE s.env x)) s.nb s.H o.op):=by
     cases ho:o.op<;>first|rfl|(exact absurd ⟨_,_,_,ho⟩ hpk)
    rw[e1] at hr;generalize hpl:uX T Γ o.type (fun x=>y4 (uE s.env x)) s.nb s.H o.op=op at hr;cases op with
    |none=>cases hr
    |some e0=>
     unfold IZ at hr;split at hr
     .rename_i side d k rds heq;simp only[aU9] at hr heq;subst hr;subst heq;by_cases hGt:G=true
      .rw[aU8 hGt];refine a01 hT hΓ hH rfl (ρ:=fun x=>y4 (uE s.env x)) (fun x hx=> ?_) hpl (fun p hp=>hs (G=true->p) (xC.2 (.inr (R3 hT hΓ hp))) hGt) (fun i hi=>by cases hi) K Q (fun g' w' v h=>hK g' w' v ⟨h.le,⟨⟨fun _=>h.slot.1,fun hc=>by rw[hGt] at hc;cases hc⟩,trivial⟩,h.heap,h.fr,h.perm,h.gho,h.ty⟩);exact NR hGt (VS hx) (fun p hp=>hs p (xC.2 (.inl hp))) (AZ henv x)
      .rw[aVa hGt];exact hK g w undef (AU.pure hH ⟨⟨fun hc=>absurd hc hGt,fun _=>rfl⟩,trivial⟩)
     .rename_i side sl u us rds heq;simp only[aU9] at hr heq;subst hr;subst heq;have hGt:G=true:=hs _ aVw;rw[aU8 hGt];refine a01 hT hΓ hH rfl (ρ:=fun x=>y4 (uE s.env x)) (fun x hx=> ?_) hpl (fun p hp=>hs (G=true->p) (aVr _ (xC.2 (.inr (R3 hT hΓ hp)))) hGt) hf K Q (fun g' w' v h=>hK g' w' v ⟨h.le,h.slot,h.heap,h.fr,h.perm,h.gho,h.ty⟩);exact NR hGt (VS hx) (fun p hp=>hs p (aVr _ (xC.2 (.inl hp)))) (AZ henv x)
     .cases hr
end
structure tM (A:Nat->Nat->Prop) (L:List qH) (g0:Gh) (w0:pU) (g:Gh) (w:pU) (H:sD):Prop where
 shut: ∀b o,g0.S b o->g.S b o/\w.cell? ⟨b,o,none⟩=w0.cell? ⟨b,o,none⟩
 fr:Fr A w0 w g0.S g.S
 perm: ∀i blk b o,qM H i=some blk->sE g i blk b o->w0.heap.size<=b\/A b o
 J: ∀i p,i<L.length->g0.J i=some p->g.J i=some p
 live: ∀i,i<L.length->(∃p,g.J i=some p)\/(∃n v,g.cur i n=some v)
 ty: ∀i u y us,i<L.length->qM H i=some (.cells u y us)->∃x ts,L[i]? =some (.cells u x ts)
 cur: ∀i n v,i<L.length->g0.cur i n=some v->g.cur i n=some v
theorem tM.eff {A:Nat->Nat->Prop}{L:List qH}{g0 g g':Gh}{w0 w w':pU}{H:sD}{e:qT}{v:pV}(h:tM A L g0 w0 g w H) (k:AU g w H e g' w' v) (hc:IT e.rds=true->J0 L.length e.upd=true):tM A L g0 w0 g' w' (rD e.upd H):=by
 have hown: ∀b o,t8 g H (qO e.upd) b o->w0.heap.size<=b\/A b o:=fun b o ⟨i,blk,_,h2,h3⟩=>h.perm i blk b o h2 h3;refine⟨fun b o hs=> ?_,h.fr.trans k.fr hown,fun i blk b o hg ho=> ?_,fun i p hi hp=>k.le.J _ _ (h.J i p hi hp),fun i hi=> ?_,fun i u y us hi hg=> ?_,fun i n u hi hu=>k.le.cur _ _ _ (h.cur i n u hi hu)⟩
 .obtain⟨h1,h2⟩:=h.shut b o hs;exact⟨k.le.S b o h1,(k.le.cell b o h1).trans h2⟩
 .by_cases hi:i∈qO e.upd
  .rcases k.perm i blk b o hi hg ho with h1|h1
   .exact .inl (aV7 h.fr.size h1)
   .exact hown b o h1
  .exact h.perm i blk b o ((D9 hi).symm.trans hg) ((zJ (k.gho i hi).1 (k.gho i hi).2).1 ho)
 .rcases h.live i hi with⟨p,hp⟩ |⟨n,u,hu⟩
  .exact .inl ⟨p,k.le.J _ _ hp⟩
  .exact .inr ⟨n,u,k.le.cur _ _ _ hu⟩
 .cases hre:IT e.rds with
  |true=>exact h.ty i u y us hi (aB6 (hc hre) hi hg)
  |false=>
   rcases k.ty hre i u y us hg with⟨x,ts,h1⟩ |⟨h1,h2⟩
   .exact h.ty i u x ts hi h1
   .rcases h.live i hi with⟨p,hp⟩ |⟨n,u,hu⟩
    .rw[h1] at hp;cases hp
    .rw[h2] at hu;cases hu
def AB:pO->Nat->pS
 |[],_=>none
 |(n,o)::r,k=>if n=k then some o else AB r k
def v7 (g:Gh) (np:Nat) (m:pO):Gh:=
 ⟨g.S,fun i=>if i<np then g.J i else(AB m i).bind g.J,fun i n=>if i<np then g.cur i n else(AB m i).bind fun o=>g.cur o n⟩
theorem VT {n o:Nat}: ∀{m:pO},ND n o m=false->∀n' o',(n',o')∈m->n'≠n/\o'≠o
 |[],_,_,_,h=>by cases h
 |(a,b)::m,h,n',o',hm=>by
  simp only[ND,aWr,aVO] at h;rcases aVs.1 hm with h1|h1
  .cases h1;exact h.1
  .exact VT h.2 n' o' h1
theorem a05 {np:Nat}: ∀{m:pO},y5 np m=true->∀{n o:Nat},(n,o)∈m->AB m n=some o/\(n<np->o=n)
 |[],_,_,_,h=>by cases h
 |(a,b)::m,hk,n,o,h=>by
  simp only[y5,aVg,aVG,aVZ,aVf] at hk;obtain⟨⟨h1,h2⟩,h3⟩:=hk;simp only[AB];rcases aVs.1 h with h4|h4
  .cases h4;rw[aU8 rfl];exact⟨rfl,fun h5=>by rcases h1 with h1|h1<;>omega⟩
  .have h5:=VT h2 n o h4;rw[aVa (Ne.symm h5.1)];exact a05 h3 h4
theorem E6: ∀{m:pO}{k j:Nat},xB m k=some j->(j,k)∈m
 |[],_,_,h=>by cases h
 |(a,b)::m,k,j,h=>by
  simp only[xB] at h;split at h
  .rename_i e;subst e;simp only[aU9] at h;subst h;exact aVw
  .exact aVr _ (E6 h)
theorem BQ {g:Gh}{np:Nat}{m:pO}(hk:y5 np m=true) {n o:Nat}(h:(n,o)∈m):(v7 g np m).J n=g.J o/\(v7 g np m).cur n=g.cur o:=by
 obtain⟨h1,h2⟩:=a05 hk h;refine⟨?_,?_⟩
 .show (if n<np then g.J n else(AB m n).bind g.J)=_;by_cases hn:n<np
  .rw[aU8 hn,h2 hn]
  .rw[aVa hn,h1];rfl
 .funext q;show (if n<np then g.cur n q else(AB m n).bind fun o=>g.cur o q)=_;by_cases hn:n<np
  .rw[aU8 hn,h2 hn]
  .rw[aVa hn,h1];rfl
theorem a06 {g:Gh}{np:Nat}{m:pO}(hk:y5 np m=true): ∀(l l':pO) (vs:pQ),yG g l vs->D7 m l=some l'->yG (v7 g np m) l' vs
 |[],l',vs,h,hr=>by simp only[D7,aU9] at hr;subst hr;exact h
 |(i,o)::l,l',vs,⟨p,vs',h1,h2,h3⟩,hr=>by
  simp only[D7] at hr;cases hi:xB m i with
  |none=>rw[hi] at hr;cases hr2:D7 m l<;>rw[hr2] at hr<;>cases hr
  |some j=>
   rw[hi] at hr;cases hr2:D7 m l with
   |none=>rw[hr2] at hr;cases hr
   |some l2=>
    rw[hr2] at hr;simp only[D7.renCons,aU9] at hr;subst hr;exact⟨p,vs',by rw[(BQ hk (E6 hi)).1];exact h1,h2,a06 hk l l2 vs' h3 hr2⟩
theorem aLV {m:pO}{u t:Ty}{x y:t.den}{o:Nat}{l:List u.den}(h:zZ m t x=some y) (hg:rN (.list u) t x o=some l):rN (.list u) t y o=some l:=
 a0S (zZ m) (fun _ _ _=>rfl) (fun _ _=>rfl) h hg
theorem R5 {g:Gh}{w:pU}{np:Nat}{m:pO}(hk:y5 np m=true): ∀{t:Ty}{x y:t.den}{cs:pQ},Rd g w t x cs->zZ m t x=some y->Rd (v7 g np m) w t y cs
 | .bool,_,_,_,r,h=>by cases h;exact r
 | .int _,_,_,_,r,h=>by cases h;exact r
 | .str,_,_,_,r,h=>by cases h;exact r
 | .unit,_,_,_,r,h=>by cases h;exact r
 | .list t,x,y,_,r,h=>by
  simp only[zZ] at h;split at h
  .rename_i hp;cases h;exact w7 (g:=g) (g':=v7 g np m) rfl (t:= .list t) (by simpa[Ty.pure] using hp) r
  .cases h
 | .ref,none,y,_,r,h=>by cases h;exact r
 | .ref,some (i,o),y,_,⟨p,h1,h2⟩,h=>by
  simp only[zZ,UX] at h;cases hi:xB m i with
  |none=>rw[hi] at h;cases h
  |some j=>
   rw[hi] at h;cases h;exact⟨p,by rw[(BQ hk (E6 hi)).1];exact h1,h2⟩
 | .clo,none,y,_,r,h=>by cases h;exact r
 | .clo,some (f,l),y,_,⟨vs,h1,h2⟩,h=>by
  simp only[zZ,aAJ] at h;cases hi:D7 m l with
  |none=>rw[hi] at h;cases h
  |some l'=>
   rw[hi] at h;cases h;exact⟨vs,a06 hk l l' vs h1 hi,h2⟩
 | .fn,_,_,_,r,h=>by cases h;exact r
 | .rl _ _,none,y,_,r,h=>by cases h;exact r
 | .rl _ _,some (k,n),y,_,⟨v,h1,h2⟩,h=>by
  simp only[zZ,aAL] at h;cases hi:xB m k with
  |none=>rw[hi] at h;cases h
  |some j=>
   rw[hi] at h;cases h;exact⟨v,by rw[(BQ hk (E6 hi)).2];exact h1,h2⟩
 | .mref,none,y,_,r,h=>by cases h;exact r
 | .mref,some (i,o),y,_,⟨p,h1,h2⟩,h=>by
  simp only[zZ,UX] at h;cases hi:xB m i with
  |none=>rw[hi] at h;cases h
  |some j=>
   rw[hi] at h;cases h;exact⟨p,by rw[(BQ hk (E6 hi)).1];exact h1,h2⟩
 | .mp,none,y,_,r,h=>by cases h;exact r
 | .mp,some i,y,_,⟨p,h1,h2⟩,h=>by
  simp only[zZ,aAK] at h;cases hi:xB m i with
  |none=>rw[hi] at h;cases h
  |some j=>
   rw[hi] at h;cases h;exact⟨p,by rw[(BQ hk (E6 hi)).1];exact h1,h2⟩
 | .pair a b,x,y,_,⟨c1,c2,e,r1,r2⟩,h=>by
  simp only[zZ] at h;obtain⟨h1,h2⟩:=a0R h;refine⟨c1,c2,e,?_,?_⟩
  .split at h1
   .rename_i hp;exact(aVe h1)▸w7 (g:=g) (g':=v7 g np m) rfl hp r1
   .exact R5 hk r1 h1
  .split at h2
   .rename_i hp;exact(aVe h2)▸w7 (g:=g) (g':=v7 g np m) rfl hp r2
   .exact R5 hk r2 h2
theorem VU {g:Gh}{w:pU}{np:Nat}{m:pO}(hk:y5 np m=true) {s:qI}{v:pV}(h:s3 g w s v):s3 (v7 g np m) w (AR m s) v:=by
 have caps: ∀(l l':pO) (vs:pQ),yG g l vs->D7 m l=some l'->yG (v7 g np m) l' vs:=a06 hk;unfold AR;split
 .rename_i k n k';cases hi:xB m k with
  |none=>exact⟨trivial,trivial⟩
  |some j=>
   obtain⟨h1,h2⟩:=h.1;exact⟨⟨by rw[(BQ hk (E6 hi)).2];exact h1,h2⟩,trivial⟩
 .obtain h1:=h.1;refine⟨?_,trivial⟩;rcases h1 with⟨h1,_⟩ |⟨_,h2⟩
  .cases h1
  .exact .inr ⟨rfl,h2⟩
 .rename_i p k;obtain⟨i,o⟩:=p;simp only[aAH];cases hi:xB m i with
  |none=>exact⟨trivial,trivial⟩
  |some j=>
   simp only[Option.map_some,AR.refSlot];obtain⟨q,hq,hv⟩:=A0 h.1;exact⟨.inr ⟨rfl,q,by rw[(BQ hk (E6 hi)).1];exact hq,by rw[hv]⟩,trivial⟩
 .rename_i f l k;cases hl:D7 m l with
  |none=>exact⟨trivial,trivial⟩
  |some l'=>
   simp only[AR.cloSlot];rcases h.1 with⟨h1,_⟩ |⟨_,vs,h2,h3⟩
   .cases h1
   .exact⟨.inr ⟨rfl,vs,caps l l' vs h2 hl,h3⟩,trivial⟩
 .rename_i i k;cases hi:xB m i with
  |none=>exact⟨trivial,trivial⟩
  |some j=>
   simp only[AR.mpSlot];rcases h.1 with⟨h1,_⟩ |⟨_,p,h2,h3⟩
   .cases h1
   .exact⟨.inr ⟨rfl,p,by rw[(BQ hk (E6 hi)).1];exact h2,h3⟩,trivial⟩
 .rename_i t x k _ _ _ _;split
  .rename_i hp;have hv:tJ (v7 g np m) w t x v:=h.1.imp (fun⟨a,cs,e,q⟩=>⟨a,cs,e,w7 (g:=g) (g':=v7 g np m) rfl hp q⟩) (fun⟨a,q⟩=>⟨a,w7 (g:=g) (g':=v7 g np m) rfl hp q⟩);refine⟨hv,?_⟩;replace h:=aBv h;generalize htk:H8 t k=k' at h|-;cases k' with
   |none=>trivial
   |some k=>
    simp only[aAI];cases hj:xB m k with
    |none=>trivial
    |some j=>
     have h2:=h.2;cases t with
     |list u=>
      show (v7 g np m).cur j _=_;rw[(BQ hk (E6 hj)).2];exact h2
     |pair a b=>exact h2
     |_=>exact h2.elim
  .cases hy:zZ m t x with
   |none=>exact⟨trivial,trivial⟩
   |some y=>
    simp only[AR.valSlot];exact⟨h.1.imp (fun⟨a,cs,e,q⟩=>⟨a,cs,e,R5 hk q hy⟩) (fun⟨a,q⟩=>⟨a,R5 hk q hy⟩),trivial⟩
 .rename_i t x k;split
  .rename_i hp;obtain⟨b,o,cs,h1,h2,h3,h4⟩:=h.1;exact⟨⟨b,o,cs,h1,h2,h3,w7 (g:=g) (g':=v7 g np m) rfl hp h4⟩,trivial⟩
  .exact⟨trivial,trivial⟩
 .exact⟨trivial,trivial⟩
theorem aB8 {q j:Nat}{x:Nat×Nat}: ∀{r:pO},x∈UY q j r->x=(q,j)\/x∈r
 |[],h=> .inl (aVm.1 h)
 |(a,b)::r,h=>by
  simp only[UY] at h;split at h
  .exact aVs.1 h
  .rcases aVs.1 h with h|h
   .exact .inr (by rw[h];exact aVw)
   .exact(aB8 h).imp id (aVr _)
theorem VV {m:pO}: ∀{ts:pO}{q j:Nat},(q,j)∈L7 m ts->∃k,(q,k)∈ts/\xB m k=some j
 |[],_,_,h=>by cases h
 |(a,b)::ts,q,j,h=>by
  simp only[L7] at h;cases hb:xB m b with
  |none=>
   rw[hb] at h;obtain⟨k,h1,h2⟩:=VV h;exact⟨k,aVr _ h1,h2⟩
  |some j'=>
   rw[hb] at h;simp only[L7.renTok1] at h;rcases aB8 h with h1|h1
   .cases h1;exact⟨b,aVw,hb⟩
   .obtain⟨k,h1,h2⟩:=VV h1;exact⟨k,aVr _ h1,h2⟩
theorem LF {g:Gh}{w:pU}{np:Nat}{m:pO}(hk:y5 np m=true) {n o:Nat}(hm:(n,o)∈m) {b:Option qH}(h: ∀c,b=some c->AT g w o c):
  AT (v7 g np m) w n (J3 m b)/\∀bb oo,sE (v7 g np m) n (J3 m b) bb oo->∃c,b=some c/\sE g o c bb oo:=by
 obtain⟨hJ,hcur⟩:=BQ (g:=g) hk hm;unfold J3;split
 .rename_i t x toks;split
  .rename_i hp;obtain⟨p,cs,h1,h2,h3,h4,h5,h6⟩:=h _ rfl;refine⟨⟨p,cs,by rw[hJ];exact h1,w7 (g:=g) (g':=v7 g np m) rfl hp h2,h3,h4,h5,fun q j hmem=> ?_⟩,fun bb oo ⟨pp,e1,e2⟩=>⟨_,rfl,pp,by rw[hJ] at e1;exact e1,e2⟩⟩;obtain⟨k,k1,k2⟩:=VV hmem;obtain⟨u,l,v,g1,g2,g3⟩:=h6 q k k1;exact⟨u,l,v,g1,g2,by rw[(BQ hk (E6 k2)).2];exact g3⟩
  .cases hy:zZ m t x with
   |none=>exact⟨trivial,fun _ _ h=>h.elim⟩
   |some y=>
    obtain⟨p,cs,h1,h2,h3,h4,h5,h6⟩:=h _ rfl;simp only[a0l];refine⟨⟨p,cs,by rw[hJ];exact h1,R5 hk h2 hy,h3,h4,h5,fun q j hmem=> ?_⟩,fun bb oo ⟨pp,e1,e2⟩=>⟨_,rfl,pp,by rw[hJ] at e1;exact e1,e2⟩⟩;obtain⟨k,k1,k2⟩:=VV hmem;obtain⟨u,l,v,g1,g2,g3⟩:=h6 q k k1;exact⟨u,l,v,aLV hy g1,g2,by rw[(BQ hk (E6 k2)).2];exact g3⟩
 .rename_i e c k;obtain⟨v,xs,h1,h2,h3,h4⟩:=h _ rfl;exact⟨⟨v,xs,by rw[hcur];exact h1,h2,fun q hq=>by rw[hcur];exact h3 q hq,h4⟩,fun bb oo ⟨v',e1,e2⟩=>⟨_,rfl,v',by rw[hcur] at e1;exact e1,e2⟩⟩
 .rename_i e t l n;split
  .rename_i hp;obtain⟨h0,v,xs,h1,h2,h5,h3,h4⟩:=h _ rfl;exact⟨⟨h0,v,xs,by rw[hcur];exact h1,h2,D8 (fun _ _ h=>w7 (g:=g) (g':=v7 g np m) rfl hp h) h5,fun q hq=>by rw[hcur];exact h3 q hq,h4⟩,fun bb oo ⟨v',e1,e2⟩=>⟨_,rfl,v',by rw[hcur] at e1;exact e1,e2⟩⟩
  .exact⟨trivial,fun _ _ h=>h.elim⟩
 .rename_i k v l;split
  .rename_i hp;rw[aVg] at hp;obtain⟨p,es,cl,h1,h0,h2,h3,h4⟩:=h _ rfl;exact⟨⟨p,es,cl,by rw[hJ];exact h1,h0,h2,QM (g:=g) (g':=v7 g np m) rfl hp.1 hp.2 h3,h4⟩,fun bb oo ⟨pp,e1,e2⟩=>⟨_,rfl,pp,by rw[hJ] at e1;exact e1,e2⟩⟩
  .exact⟨trivial,fun _ _ h=>h.elim⟩
 .obtain⟨p,h1,h0,h2,h4⟩:=h _ rfl;exact⟨⟨p,by rw[hJ];exact h1,h0,h2,h4⟩,fun bb oo ⟨pp,e1,e2⟩=>⟨_,rfl,pp,by rw[hJ] at e1;exact e1,e2⟩⟩
 .exact⟨trivial,fun _ _ h=>h.elim⟩
theorem J9 {m:pO}{H:sD}: ∀{l:pO}{n:Nat}{b:qH},qM (UZ m H l) n=some b->∃o,(n,o)∈l/\b=J3 m (qM H o)
 |[],_,_,h=>by cases h
 |(a,c)::l,n,b,h=>by
  simp only[UZ,qM] at h;split at h
  .rename_i e;subst e;exact⟨c,aVw,(aVe h).symm⟩
  .obtain⟨o,h1,h2⟩:=J9 h;exact⟨o,aVr _ h1,h2⟩
theorem aB9 {m:pO}{env:List (Nat×qI)}: ∀(l:pT) (t:Nat),lk (QG m env l) t=(.any,none)\/lk (QG m env l) t=AR m (lk env t)
 |[],_=> .inl rfl
 |a::l,t=>by
  simp only[QG,lk];split
  .rename_i e;subst e;exact .inr rfl
  .exact aB9 l t
theorem aCa: ∀{m:pO}{n o:Nat},(n,o)∈m->n<V0 m
 |(a,b)::m,n,o,h=>by
  simp only[V0];rcases aVs.1 h with h1|h1
  .cases h1;omega
  .have:=aCa h1;omega
theorem a07: ∀{m:pO}{n o:Nat},AB m n=some o->(n,o)∈m
 |[],_,_,h=>by cases h
 |(a,b)::m,n,o,h=>by
  simp only[AB] at h;split at h
  .rename_i e;subst e;simp only[aU9] at h;subst h;exact aVw
  .exact aVr _ (a07 h)
theorem a08 {B:Nat}{A:Nat->Nat->Prop}{L:List qH}{g0 g:Gh}{w0 w:pU}{s:St}{a:Act}(h:vK B g w s a) (hg:tM A L g0 w0 g w s.H) (hnp:s.np=L.length) (k:wM) (hk:y5 s.np k.ids=true):
  vK B (v7 g s.np k.ids) w (s.keep k) a/\tM A L g0 w0 (v7 g s.np k.ids) w (s.keep k).H/\(s.keep k).np=L.length/\(s.keep k).N=s.N:=by
 unfold St.keep;rw[hk];refine⟨⟨fun t=> ?_,⟨fun i b hb=> ?_,fun i j bi bj b o hij h1 h2 o1 o2=> ?_,h.heap.sl,h.heap.tab.1,fun i b bb oo hb ho=>by
   obtain⟨o,h1,rfl⟩:=J9 hb;obtain⟨c1,e1,o1'⟩:=(LF hk h1 fun c hc=>h.heap.blk o c hc).2 bb oo ho;exact h.heap.tab.2 o c1 bb oo e1 o1'⟩,h.size,fun i hi=> ?_,h.def_,Nat.le_max_left _ _⟩,⟨hg.shut,hg.fr,fun i blk b o hb ho=> ?_,fun i p hi hp=> ?_,fun i hi=> ?_,fun i u y us hi hb=> ?_,fun i n u hi hu=>(by
   show (if i<s.np then g.cur i n else _)=_;rw[aU8 pJ];exact hg.cur i n u hi hu)⟩,hnp,rfl⟩
 .rcases aB9 (m:=k.ids) (env:=s.env) k.slots t with e|e
  .exact⟨by rw[show lk (QH s k true).env t=_ from e];trivial,by rw[show lk (QH s k true).env t=_ from e];trivial⟩
  .have:=VU hk (h.env t);rw[show lk (QH s k true).env t=_ from e];exact this
 .obtain⟨o,h1,rfl⟩:=J9 hb;exact(LF hk h1 fun c hc=>h.heap.blk o c hc).1
 .obtain⟨p,k1,rfl⟩:=J9 h1;obtain⟨q,k2,rfl⟩:=J9 h2;obtain⟨c1,e1,o1'⟩:=(LF hk k1 fun c hc=>h.heap.blk p c hc).2 b o o1;obtain⟨c2,e2,o2'⟩:=(LF hk k2 fun c hc=>h.heap.blk q c hc).2 b o o2;refine h.heap.dis p q c1 c2 b o (fun e=> ?_) e1 e2 o1' o2';subst e;have inj: ∀{m:pO},y5 s.np m=true->∀{i j o:Nat},(i,o)∈m->(j,o)∈m->i=j:=by
   intro m
   induction m with
   |nil=>intro _ _ _ _ h;cases h
   |cons z m ih=>
    obtain⟨z1,z2⟩:=z;intro hk i j o h1 h2;simp only[y5,aVg,aVG] at hk;rcases aVs.1 h1 with h1|h1<;>rcases aVs.1 h2 with h2|h2
    .cases h1;cases h2;rfl
    .cases h1;exact absurd rfl (VT hk.1.2 _ _ h2).2
    .cases h2;exact absurd rfl (VT hk.1.2 _ _ h1).2
    .exact ih hk.2 h1 h2
  exact hij (inj hk k1 k2)
 .have hi': ¬i<s.np:=by have:=aV7 (Nat.le_max_left _ _) hi;omega
  have hold:AB k.ids i=none:=by
   cases ho:AB k.ids i with
   |none=>rfl
   |some o=>
    have:=aCa (a07 ho);have:=aV7 (Nat.le_max_right _ _) hi;omega
  refine⟨?_,fun n=> ?_⟩
  .show (if i<s.np then g.J i else(AB k.ids i).bind g.J)=none;rw[aVa hi',hold];rfl
  .show (if i<s.np then g.cur i n else(AB k.ids i).bind fun o=>g.cur o n)=none;rw[aVa hi',hold];rfl
 .obtain⟨p,h1,rfl⟩:=J9 hb;obtain⟨c,e1,e2⟩:=(LF hk h1 fun c hc=>h.heap.blk p c hc).2 b o ho;exact hg.perm p c b o e1 e2
 .show (if i<s.np then g.J i else _)=_;rw[aU8 pJ];exact hg.J i p hi hp
 .rcases hg.live i hi with⟨p,hp⟩ |⟨n,v,hv⟩
  .left;refine⟨p,?_⟩;show (if i<s.np then g.J i else _)=_;rw[aU8 pJ];exact hp
  .right;refine⟨n,v,?_⟩;show (if i<s.np then g.cur i n else _)=_;rw[aU8 pJ];exact hv
 .obtain⟨o,h1,h2⟩:=J9 hb;have ho:=(a05 hk h1).2 pJ;subst ho;unfold J3 at h2;split at h2
  .rename_i t x toks heq;split at h2
   .simp only[qH.cells.injEq] at h2;obtain⟨rfl,_⟩:=h2;exact hg.ty o u x toks hi heq
   .cases hy:zZ k.ids t x with
    |none=>rw[hy] at h2;cases h2
    |some y=>
     rw[hy] at h2;simp only[a0l,qH.cells.injEq] at h2;obtain⟨rfl,_⟩:=h2;exact hg.ty o u x toks hi heq
  .cases h2
  .split at h2<;>cases h2
  .split at h2<;>cases h2
  .cases h2
  .cases h2
theorem HN {B:Nat}{A:Nat->Nat->Prop}{L:List qH}{g0 g:Gh}{w0 w:pU}{s:St}{a:Act}(h:vK B g w s a) (hg:tM A L g0 w0 g w s.H) (hnp:s.np=L.length) (k:wM):
  ∃g',vK B g' w (s.keep k) a/\tM A L g0 w0 g' w (s.keep k).H/\(s.keep k).np=L.length/\(s.keep k).N=s.N:=by
 unfold St.keep;cases hk:y5 s.np k.ids with
 |false=>
  refine⟨g,⟨fun t=>⟨trivial,trivial⟩,⟨(fun i b h=>by cases h),(fun i j bi bj b o _ h=>by cases h),h.heap.sl,h.heap.tab.1,(fun i b bb oo h=>by cases h)⟩,h.size,h.nb,h.def_,h.np⟩,⟨hg.shut,hg.fr,(fun i blk b o h=>by cases h),hg.J,hg.live,(fun i u y us _ h=>by cases h),hg.cur⟩,hnp,rfl⟩
 |true=>
  have:=a08 h hg hnp k hk;unfold St.keep at this;rw[hk] at this;exact⟨_,this⟩
theorem a09 {g g':Gh}{w w':pU}{env:List (Nat×qI)}{a:Act}{o:Oper}{sl:qI}{v:pV}(h:CG g w env a.tmps) (le:Le g w g' w') (hs:s3 g' w' sl v) {N:Nat}(hN:a.tmps.size=N) (hd:J1 N o.dst=true):CG g' w' (uA o.dst sl env) (a.put o.dst v).tmps:=by
  intro t;cases ho:o.dst with
  |none=>exact CC le (h t)
  | some d=>
    rw[ho] at hd;simp only[J1,aVf] at hd;simp only[uA,lk,Act.put];by_cases hdt:d=t
    · subst hdt
      rw[aU8 rfl];have hlt:d<a.tmps.size:=by rw[hN];exact hd
      have:(a.tmps.setIfInBounds d v).getD d undef=v:=by
        rw[aVK,Array.getElem?_setIfInBounds_self_of_lt hlt];rfl
      rw[this];exact hs
    · rw[aVa hdt]
      have:(a.tmps.setIfInBounds d v).getD t undef=a.tmps.getD t undef:=by
        rw[aVK,aWD hdt,←aVK]
      rw[this];exact CC le (h t)
theorem R6 {n:Nat}: ∀{u:List (Nat×qH)},J2 n u=true→∀{i:Nat},i∈qO u→i<n
  | (k,b)::u,h,i,hi=>by
    simp only[J2,aVg,aVf] at h;simp only[qO,aVs] at hi;rcases hi with rfl|hi
    .exact h.1
    .exact R6 h.2 hi
theorem aCb (a:Act) (d:Option Tmp) (v:pV):(a.put d v).tmps.size=a.tmps.size:=by
  cases d<;>simp [Act.put]
theorem aCc (a:Act) (d:Option Tmp) (v:pV):(a.put d v).defers=a.defers:=by
  cases d<;>simp [Act.put]
theorem vK.step {B:Nat}{g g':Gh}{w w':pU}{s:St}{a:Act}{o:Oper}{e:qT}{v:pV}(h:vK B g w s a) (k:AU g w s.H e g' w' v) (hd:J1 s.N o.dst=true) (hi:J2 (s.nb+32) e.upd=true):
    vK B g' w' ⟨uA o.dst e.slot s.env,rD e.upd s.H,s.nb+32,s.N,s.np⟩ (a.put o.dst v):=by
  refine⟨a09 h.env k.le k.slot h.size hd,k.heap,(aCb _ _ _).trans h.size,fun i hn=> ?_,by rw[aCc];exact h.def_.eff h.heap k,aV7 h.np (Nat.le_add_right _ _)⟩;have:i∉qO e.upd:=fun hm=>by have:=R6 hi hm;simp only at hn;omega
  have hk:=k.gho i this;have hb:=h.nb i (by simp only at hn;omega);exact⟨hk.1.trans hb.1,fun n=>by rw[hk.2];exact hb.2 n⟩
theorem aCd {T:sX}{Γ:uW}{ops:List Oper}: ∀(l:List Oper),wL T Γ ops l none=none
  |[]=>rfl
  |_::_=>rfl
theorem a1a {T:sX}{Γ:uW}{ops:List Oper}{o:Oper}{l:List Oper}{x y:wK}(h:wL T Γ ops (o::l) (some x)=some y):
    ∃ e,G4 T Γ ops o x.s=some e∧J1 x.s.N o.dst=true∧J2 (x.s.nb+32) e.upd=true∧
      wL T Γ ops l (some ⟨⟨uA o.dst e.slot x.s.env,rD e.upd x.s.H,x.s.nb+32,x.s.N,x.s.np⟩,rD x.side (rD (L5 x.s.H e.upd e.rds e.upd) e.side),e::x.es⟩)=some y:=by
  simp only[wL] at h;cases he:G4 T Γ ops o x.s with
  |none=>rw[he] at h;simp only[a0k] at h;rw[aCd] at h;cases h
  | some e=>
    rw[he] at h;simp only[a0k] at h;by_cases hc:(J1 x.s.N o.dst&&J2 (x.s.nb+32) e.upd)=true
    · rw[aU8 hc] at h
      simp only[aVg] at hc;exact⟨e,rfl,hc.1,hc.2,h⟩
    .rw[aVa hc,aCd] at h;cases h
theorem LG {T:sX}{Γ:uW}{ops:List Oper}: ∀{l:List Oper}{x y:wK},wL T Γ ops l (some x)=some y→(∀p∈x.side,p∈y.side)∧y.s.N=x.s.N∧y.s.np=x.s.np
  | [],x,y,h=>by
    simp only[wL,aU9] at h;subst h;exact⟨fun _ h=>h,rfl,rfl⟩
  | o::l,x,y,h=>by
    obtain⟨e,_,_,_,h4⟩:=a1a h;obtain⟨h5,h6,h7⟩:=LG h4;exact⟨fun p hp=>h5 p (xC.2 (.inl hp)),h6,h7⟩
def G9 (ro:pS):Fence:={Fence.wide with round:=ro}
theorem aCe {ro:pS}{n:Nat}{P:Program}{f:FuncId}{args:Array pV}{w:pU}{R:Ending→pU→Prop}(h:Calls P f args w R):CallsIn (G9 ro) n P f args w R:=callsIn_wide.2 h
section
variable {B:Nat}{P:Program}{T:sX}{Γ:uW}(hT:xQ P T) (hΓ:F6 P Γ) {A:Nat→Nat→Prop}{L:List qH}{g0:Gh}{w0:pU}{Q:Exit→Act→pU→Prop}
include hT hΓ
theorem aLW {g:Gh}{w:pU}{s:St}{a:Act}(h:vK B g w s a) (e:qT):AV g s.nb e:=fun i _ hb=>h.nb i hb
omit hT hΓ in
theorem aCf {ops:List Oper}{o:Oper}{s:St}{e:qT}(h:G4 T Γ ops o s=some e): ∀c,o.op≠.defer c:=by
  intro c hc;replace h:=(R4 h).1;unfold NB at h;cases hg:o.guard with
  |none=>rw[hg,hc] at h;simp [NA,uX,N8] at h
  |some jb=>rw[hg,hc] at h;simp only at h;cases hG:HF s.env jb.2 (EX ops jb.1)<;>rw[hG] at h<;>simp [N9,uX,IZ] at h
omit hT hΓ in
theorem aCg {ro:pS}{o:Oper}{a:Act}{w:pU}{K:Act→pU→Prop}(hd: ∀c,o.op≠.defer c) (h:o.wp P a w K Q):o.wpIn (G9 ro) 0 P a w K Q:=by
  refine⟨fun _ _=>trivial,?_⟩;rw[Oper.semAt_eq _ _ _ hd];unfold Oper.wp at h;generalize (execOp a.eval o).run P w=r at h|-;unfold Oper.upon at h;unfold Oper.uponIn;split at h
  .exact h
  .exact h
  .exact h
  .exact⟨fun h0=>(by cases h0),aCe h⟩
  .exact⟨fun h0=>(by cases h0),fun c cs _=>let ⟨v,w',r,s⟩:=h c cs;⟨v,w',r,stepsIn_wide.2 s⟩⟩
  .exact h
  .exact h.elim
theorem aCh {ro:pS}{ops:Array Oper}: ∀{l:List Oper}{x y:wK}{a:Act}{w:pU}{g:Gh},wL T Γ ops.toList l (some x)=some y→(∀p∈y.side,p)→vK B g w x.s a→tM A L g0 w0 g w x.s.H→L.length=x.s.np→
    (∀g' a' w',vK B g' w' y.s a'→tM A L g0 w0 g' w' y.s.H→Q .normal a' w')→wpListIn (G9 ro) 0 P ops Q l a w
  | [],x,y,a,w,g,h,hs,hr,hg,hn,hQ=>by
    simp only[wL,aU9] at h;subst h;exact hQ g a w hr hg
  | o::l,x,y,a,w,g,h,hs,hr,hg,hn,hQ=>by
    obtain⟨e,h1,h2,h3,h4⟩:=a1a h;have hside: ∀p∈e.side,p:=fun p hp=>hs p ((LG h4).1 p (xC.2 (.inr (xC.2 (.inr hp)))));have key:=aB7 hT hΓ (ops:=ops.toList) (o:=o) (a:=a) (K:=wpListIn (G9 ro) 0 P ops Q l) (Q:=Q) hr.env hr.heap h1 hside (aLW hT hΓ hr e) (fun g' w' v k=>aCh h4 hs (hr.step k h2 h3) (hg.eff k (hn▸(R4 h1).2)) hn hQ);simp only[aWI] at key;unfold wpListIn;split at key
    .rename_i hw;rw[aU8 hw];exact aCg (aCf h1) key
    .rename_i hw;rw[aVa hw];exact⟨fun _ _=>trivial,key⟩
theorem aLX {ro:pS}{id:Nat}{ops:Array Oper}{s:St}{y:wK}{a:Act}{w:pU}{g:Gh}(h:wL T Γ ops.toList ops.toList (some ⟨s,[],[]⟩)=some y) (hs: ∀p∈y.side,p) (hr:vK B g w s a) (hg:tM A L g0 w0 g w s.H) (hn:L.length=s.np)
    (hQ: ∀g' a' w',vK B g' w' y.s a'→tM A L g0 w0 g' w' y.s.H→Q .normal a' w'):(Code.region id ops false).wpIn (G9 ro) 0 P Q a w:=
  wpIn_region_list (aCh hT hΓ h hs hr hg hn hQ)
end
theorem aLY {H H':List (Nat×qH)}{t:Ty}{i off:Nat}{e:qT}(h:IY H t i off (qM H i)=some e) (hl: ∀id∈e.rds,qM H' id=qM H id):i∈e.rds∧IY H' t i off (qM H' i)=some e:=by
  have key: ∃k n v x ts,qM H i=some (.cells v x ts)∧CB v x=some (k,n)∧U4 t i off k n v x (qM H k)=some e∧e.rds=[1000000000,i,k]:=by
    unfold IY at h;split at h
    case h_2=>cases h
    rename_i v x ts hb;cases hf:CB v x with
    |none=>rw[hf] at h;cases h
    | some q=>
      obtain⟨k,n⟩:=q;rw[hf] at h;refine⟨k,n,v,x,ts,hb,hf,h,?_⟩;simp only[U5] at h;unfold U4 at h;split at h
      case h_2=>cases h
      generalize zX _ _ _ _=z at h;cases z with
      |none=>cases h
      | some z=>
        obtain⟨v',x'⟩:=z;simp only[ZP] at h;unfold ZO at h;split at h
        .simp only[aU9] at h;rw[←h]
        .cases h
  obtain⟨k,n,v,x,ts,h1,h2,h3,h4⟩:=key;refine⟨by rw[h4];simp,?_⟩;rw[hl i (by rw[h4];simp),h1];simp only[IY,h2,U5];rw[hl k (by rw[h4];simp)];exact h3
theorem a1b {ρ ρ':Operand→qI}: ∀{xs:List Operand},(∀x∈xs,ρ' x=ρ x)→vU ρ' xs=vU ρ xs
  |[],_=>rfl
  |x::xs,h=>by simp only[vU,h x pL,a1b (fun y hy=>h y (aVr _ hy))]
theorem a1c {ρ ρ':Operand→qI}: ∀{xs:List (Nat×Operand)},(∀x∈xs,ρ' x.2=ρ x.2)→v6 ρ' xs=v6 ρ xs
  |[],_=>rfl
  |(i,x)::xs,h=>by simp only[v6,h (i,x) pL,a1c (fun y hy=>h y (aVr _ hy))]
theorem aCi {T:sX}{ρ ρ':Operand→qI}: ∀{xs:List Operand}{ts:List TypeId},(∀x∈xs,ρ' x=ρ x)→HD T ρ' xs ts=HD T ρ xs ts
  |[],_,_=>by simp [HD]
  |_::_,[],_=>by simp [HD]
  |x::xs,t::ts,h=>by simp only[HD,h x pL,aCi (fun y hy=>h y (aVr _ hy))]
theorem aLZ {T:sX}{Γ:uW}{ty:TypeId}{ρ ρ':Operand→qI}{base:Nat}{H:List (Nat×qH)}(op:Op) (h: ∀x∈op.operands,ρ' x=ρ x):uX T Γ ty ρ' base H op=uX T Γ ty ρ base H op:=by
  cases op
  case slice t x lo hi mx=>
    cases mx with
    |some m=>rfl
    | none=>
      have h1:=h x (by simp [Op.operands])
      have h2:zY ρ' lo=zY ρ lo:=by
        cases lo with
        |none=>rfl
        |some l=>simp only[zY,h l (by simp [Op.operands])]
      have h3:zY ρ' hi=zY ρ hi:=by
        cases hi with
        |none=>rfl
        |some l=>simp only[zY,h l (by simp [Op.operands])]
      simp only[uX,h1,h2,h3]
  case call c=>
    obtain⟨callee,args,tys⟩:=c
    have ha: ∀x∈args.toList,ρ' x=ρ x:=fun x hx=>h x (by
      have:x∈args:=by simpa using hx
      simp only[Op.operands,Call.operands];split<;>simp [this])
    cases callee with
    |builtin b=>cases b<;>simp only[uX,L4,a1b ha]
    | value f=>
      have hf:=h f (by simp [Op.operands,Call.operands]);simp only[uX,L4,hf];cases L3 args.toList tys.toList with
      |false=>rfl
      |true=>simp only[a0d,aCi ha]
    |_=>rfl
  case build t ps=>simp only[uX,a1c (fun x hx=>h x.2 (by simp only[Op.operands,aXa];exact List.mem_map_of_mem hx))]
  case buildSlice t n ps=>simp only[uX,a1c (fun x hx=>h x.2 (by simp only[Op.operands,aXa];exact List.mem_map_of_mem hx))]
  case makeFunc f first caps=>
    cases f with
    | func f=>
      have hc: ∀x∈caps.toList,ρ' x=ρ x:=fun x hx=>h x (by
        have:x∈caps:=by simpa using hx
        simp [Op.operands,this])
      simp only[uX,a1b hc]
    |_=>rfl
  all_goals first
    |rfl
    |(simp only[Op.operands,aXa,aVs,aW9,or_false,forall_eq,forall_eq_or_imp] at h;simp only[uX,h])
    |(simp [Op.operands] at h;simp only[uX,h])
theorem a1d: ∀{l acc:List rU}{i:Nat},i∈sI (zV l acc)↔i∈sI l∨i∈sI acc
  |[],_,_=>by simp [zV,sI]
  | w::l,acc,i=>by
    simp only[zV,a1d,sI,aVs];constructor
    · rintro(h|h|h)
      .exact .inl (.inr h)
      .exact .inl (.inl h)
      .exact .inr h
    · rintro((h|h) |h)
      .exact .inr (.inl h)
      .exact .inl h
      .exact .inr (.inr h)
section
variable {H H':List (Nat×qH)}
theorem aL0 {k:pS}{a b:tH}(h:zW H k (some a)=some b):(∀i,i∈sI a.ws→i∈sI b.ws)∧((∀i,i∈sI b.ws→qM H' i=qM H i)→zW H' k (some a)=some b):=by
  cases k with
  | none=>
    have h:none=some b:=h;cases h
  | some k=>
    simp only[zW] at h|-
    have:(∃e c m,qM H k=some (.grow e c m)):=by
      cases hg:qM H k with
      |none=>rw[hg] at h;cases h
      | some bl=>cases bl with
        |grow e c m=>exact⟨_,_,_,rfl⟩
        |_=>rw[hg] at h;cases h
    obtain⟨e,c,m,hg⟩:=this;rw[hg] at h;simp only[D0] at h;split at h
    .cases h
    · rename_i hm
      simp only[aU9] at h;subst h;refine⟨fun i hi=>by simp only[sI,aVs];exact .inr hi,fun hl=> ?_⟩;rw[hl k (by simp [sI,rU.id]),hg];simp only[D0];rw[aVa hm]
theorem aL1 (H:List (Nat×qH)) (k:pS):zW H k none=none:=by
  cases k with
  |none=>rfl
  | some k=>
    simp only[zW];cases qM H k with
    |none=>rfl
    |some bl=>cases bl<;>rfl
theorem aCj (H:List (Nat×qH)) (toks:pO) (o:Nat): ∀(qs:pT),yT H toks o qs none=none
  |[]=>rfl
  |q::qs=>by simp only[yT,aL1,aCj H toks o qs]
theorem aCk {H H':List (Nat×qH)}{toks:pO}{o:Nat}: ∀{qs:pT}{a b:tH},yT H toks o qs (some a)=some b→(∀i,i∈sI a.ws→i∈sI b.ws)∧((∀i,i∈sI b.ws→qM H' i=qM H i)→yT H' toks o qs (some a)=some b)
  |[],a,b,h=>by simp only[yT,aU9] at h;subst h;exact⟨fun _ h=>h,fun _=>rfl⟩
  | q::qs,a,b,h=>by
    simp only[yT] at h|-;cases hm:zW H (xO toks (o+q)) (some a) with
    |none=>rw[hm,aCj] at h;cases h
    | some m=>
      rw[hm] at h;obtain⟨h1,h2⟩:=aL0 (H':=H') hm;obtain⟨h3,h4⟩:=aCk (H':=H') h;exact⟨fun i hi=>h3 i (h1 i hi),fun hl=>by rw[h2 (fun i hi=>hl i (h3 i hi))];exact h4 hl⟩
theorem aL2 (H H':List (Nat×qH)) (a:tH) (s:qI):yD H' a .v s=yD H a .v s:=by
  obtain⟨d,k⟩:=s;cases d with
  | val t x=>
    cases t with
    | clo=>
      cases x with
      |none=>rfl
      |some q=>obtain⟨f,l⟩:=q;cases l<;>rfl
    |_=>rfl
  |_=>rfl
theorem aCl {H H':List (Nat×qH)}{t:Ty}{os:pT}{i o:Nat}{a b:tH}(h:w6 H t os i o a (qM H i)=some b):(∀i,i∈sI a.ws→i∈sI b.ws)∧((∀i,i∈sI b.ws→qM H' i=qM H i)→w6 H' t os i o a (qM H' i)=some b):=by
  cases hg:qM H i with
  |none=>rw[hg] at h;simp [w6] at h
  | some bl=>
    rw[hg] at h;cases bl with
    | cells u x toks=>
      simp only[w6] at h;cases hy:rN t u x o with
      |none=>rw[hy] at h;simp [FZ] at h
      | some y=>
        rw[hy] at h;simp only[FZ] at h;split at h
        · rename_i hc
          obtain⟨h3,h4⟩:=aCk (H':=H') h;refine⟨fun j hj=>h3 j (by simp only[sI,aVs];exact .inr hj),fun hl=> ?_⟩;rw[hl i (h3 i (by simp [sI,rU.id])),hg];simp only[w6,hy,FZ];rw[aU8 hc];exact h4 hl
        .cases h
    |_=>simp [w6] at h
theorem aL3 (H:List (Nat×qH)) (f:FuncId) (args:List qI) (ks:List (Ty×pT)) (cs ids:pO):xY H f args ks cs ids none=none:=by cases ks<;>cases cs<;>rfl
theorem aCm {H H':List (Nat×qH)}{f:FuncId}{args:List qI}: ∀{ks:List (Ty×pT)}{cs ids:pO}{a b:tH},xY H f args ks cs ids (some a)=some b→(∀i,i∈sI a.ws→i∈sI b.ws)∧((∀i,i∈sI b.ws→qM H' i=qM H i)→xY H' f args ks cs ids (some a)=some b)
  | [],[],ids,a,b,h=>by
    simp only[xY,aU9] at h|-;subst h;exact⟨fun _ h=>h,fun _=>rfl⟩
  |[],_::_,_,_,_,h=>by simp [xY] at h
  |_::_,[],_,_,_,h=>by simp [xY] at h
  | (t,os)::ks,(i,o)::cs,ids,a,b,h=>by
    simp only[xY] at h|-;cases hb:w6 H t os i o a (qM H i) with
    |none=>rw[hb,aL3] at h;cases h
    | some m=>
      rw[hb] at h;obtain⟨h1,h2⟩:=aCl (H':=H') hb;obtain⟨h3,h4⟩:=aCm (H':=H') h;exact⟨fun i hi=>h3 i (h1 i hi),fun hl=>by rw[h2 (fun i hi=>hl i (h3 i hi))];exact h4 hl⟩
theorem aCn {p:PK}{s:qI}{a b:tH}(h:yD H a p s=some b):(∀i,i∈sI a.ws→i∈sI b.ws)∧((∀i,i∈sI b.ws→qM H' i=qM H i)→yD H' a p s=some b):=by
  by_cases hpv:p= .v
  · subst hpv
    refine⟨?_,fun _=>by rw[aL2 H H'];exact h⟩;unfold yD at h;split at h
    .simp only[TS,aU9] at h;subst h;exact fun _ h=>h
    · simp only[TR] at h
      split at h
      .simp only[aU9] at h;subst h;exact fun _ h=>h
      .cases h
    .rename_i h1;cases h1
    .rename_i h1;cases h1
    .rename_i h1;cases h1
    .rename_i h1;cases h1
    .rename_i h1;cases h1
    .cases h
  unfold yD at h;split at h
  .exact absurd rfl hpv
  .exact absurd rfl hpv
  · rename_i t x k
    simp only[yD];cases hg:qM H k with
    |none=>rw[hg] at h;simp [D1] at h
    | some bl=>
      rw[hg] at h;cases bl with
      | grow e c m=>
        simp only[D1] at h;split at h
        · rename_i hc
          simp only[aU9] at h;subst h;refine⟨fun i hi=>by simp only[sI,aVs];exact .inr hi,fun hl=> ?_⟩;rw[hl k (by simp [sI,rU.id]),hg];simp only[D1];rw[aU8 hc]
        .cases h
      |_=>simp [D1] at h
  · rename_i t os i o k
    simp only[yD];exact aCl h
  · rename_i i k
    simp only[yD];cases hg:qM H i with
    |none=>rw[hg] at h;simp [D2] at h
    | some bl=>
      rw[hg] at h;cases bl with
      | map s t l=>
        simp only[D2] at h;split at h
        · rename_i hc
          simp only[aU9] at h;subst h;refine⟨fun j hj=>by simp only[sI,aVs];exact .inr hj,fun hl=> ?_⟩;rw[hl i (by simp [sI,rU.id]),hg];simp only[D2];rw[aU8 hc]
        .cases h
      |_=>simp [D2] at h
  · rename_i k n k'
    simp only[yD];cases hg:qM H k with
    |none=>rw[hg] at h;simp [D3] at h
    | some bl=>
      rw[hg] at h;cases bl with
      | row e t l m=>
        simp only[D3] at h;split at h
        · rename_i hc
          simp only[aU9] at h;subst h;refine⟨fun j hj=>by simp only[sI,aVs];exact .inr hj,fun hl=> ?_⟩;rw[hl k (by simp [sI,rU.id]),hg];simp only[D3];rw[aU8 hc]
        .cases h
      |_=>simp [D3] at h
  · simp only[yD]
    exact aCm h
  .cases h
theorem aCo (H:List (Nat×qH)) (gs:List (Nat×Nat×PK)):C8 H gs none=none:=by cases gs<;>rfl
theorem aCp {H H':List (Nat×qH)}: ∀{gs:List (Nat×Nat×PK)}{a b:tH},C8 H gs (some a)=some b→(∀i,i∈sI a.ws→i∈sI b.ws)∧((∀i,i∈sI b.ws→qM H' i=qM H i)→C8 H' gs (some a)=some b)
  |[],a,b,h=>by simp only[C8,aU9] at h;subst h;exact⟨fun _ h=>h,fun _=>rfl⟩
  | (c,q,pk)::gs,a,b,h=>by
    simp only[C8] at h|-;cases hm:yD H a pk (KS q pk (IU a.H (a.n-1-c))) with
    |none=>rw[hm] at h;simp only[MY,aCo] at h;cases h
    | some m=>
      rw[hm] at h;simp only[MY] at h;obtain⟨h1,h2⟩:=aCn (H':=H') hm;obtain⟨h3,h4⟩:=aCp (H':=H') h;exact⟨fun i hi=>h3 i (h1 i hi),fun hl=>by rw[h2 (fun i hi=>hl i (h3 i hi))];simp only[MY];exact h4 hl⟩
theorem aL4 (H:List (Nat×qH)): ∀(ps:List PK) (ss:List qI),xZ H ps ss none=none
  |[],[]=>rfl
  |[],_::_=>rfl
  |_::_,[]=>rfl
  |_::_,_::_=>rfl
theorem aCq {H H':List (Nat×qH)}: ∀{ps:List PK}{ss:List qI}{a b:tH},xZ H ps ss (some a)=some b→(∀i,i∈sI a.ws→i∈sI b.ws)∧((∀i,i∈sI b.ws→qM H' i=qM H i)→xZ H' ps ss (some a)=some b)
  |[],[],a,b,h=>by simp only[xZ,aU9] at h;subst h;exact⟨fun _ h=>h,fun _=>rfl⟩
  |[],_::_,a,b,h=>by simp [xZ] at h
  |_::_,[],a,b,h=>by simp [xZ] at h
  | p::ps,s::ss,a,b,h=>by
    simp only[xZ] at h|-;cases hm:yD H a p s with
    |none=>rw[hm,aL4] at h;cases h
    | some m=>
      rw[hm] at h;obtain⟨h1,h2⟩:=aCn (H':=H') hm;obtain⟨h3,h4⟩:=aCq (H':=H') h;exact⟨fun i hi=>h3 i (h1 i hi),fun hl=>by rw[h2 (fun i hi=>hl i (h3 i hi))];exact h4 hl⟩
theorem aCr {H H':List (Nat×qH)}{base:Nat}{args:List qI}{s:rI}{e:qT}(h:HB H base args (some s)=some e) (hl: ∀i∈e.rds,qM H' i=qM H i):HB H' base args (some s)=some e:=by
  simp only[HB] at h|-;cases hp0:xZ H s.ps args (some ⟨[],[],[],0⟩) with
  |none=>rw[hp0,aCo] at h;cases h
  |some a0=>
   rw[hp0] at h;cases hp:C8 H s.gs (some a0) with
   |none=>rw[hp] at h;cases h
   |some a=>
    rw[hp] at h
    have hrd: ∀i,i∈sI (zV a.ws [])→i∈e.rds:=by
      simp only[Q4] at h;cases hcl:IV (zV a.ws []) (zV a.H []) with
      |none=>rw[hcl] at h;cases h
      |some L=>
      rw[hcl] at h;simp only[TY] at h;cases hc:s.C (zV a.args []) L with
      |none=>rw[hc] at h;cases h
      | some r=>
        rw[hc] at h;simp only[TX] at h;unfold Q2 at h;split at h
        · simp only[aU9] at h
          rw[←h];exact fun i hi=>xC.2 (.inl hi)
        .cases h
    obtain⟨g1,g2⟩:=aCp (H':=H') hp;rw[(aCq (H':=H') hp0).2 (fun i hi=>hl i (hrd i (a1d.2 (.inl (g1 i hi))))),g2 (fun i hi=>hl i (hrd i (a1d.2 (.inl hi))))];exact h
theorem aCs {H H':List (Nat×qH)}{base:Nat}{args:List qI}{s:Option rI}{e:qT}(h:L2 H base args s=some e) (hl: ∀i∈e.rds,qM H' i=qM H i):L2 H' base args s=some e:=by
  cases s with
  |none=>cases h
  | some s=>
    simp only[L2] at h|-;cases hr:s.row with
    | some F=>
      rw[hr] at h;simp only[UL] at h|-;unfold TZ at h|-;split at h
      · rename_i k n x
        cases hg:qM H k with
        |none=>rw[hg] at h;cases h
        | some b=>
          have hk:k∈e.rds:=by
            rw[hg] at h;cases b with
            | row e0 t l m=>
              simp only[ZA] at h;unfold aAn at h;split at h
              .simp only[aU9] at h;rw[←h];simp
              .cases h
            |_=>cases h
          rw[hl k hk];exact h
      .cases h
    | none=>
      rw[hr] at h;simp only[UL] at h|-;cases hn:Q5 s.ps args with
      |none=>rw[hn] at h;exact aCr h hl
      | some k=>
        rw[hn] at h;simp only[aAm] at h|-;cases hg:qM H k with
        |none=>rw[hg] at h;cases h
        | some b=>
          rw[hg] at h;cases b with
          | row e0 t l m=>
            simp only[Q7] at h;cases hi:HB ((k,.dead)::H) base (Q6 k t l args) (some s) with
            |none=>rw[hi] at h;cases h
            | some e1=>
              rw[hi] at h
              have hk:k∈e.rds∧∀i∈e1.rds,i∈e.rds:=by
                unfold Z9 at h;split at h
                · rename_i heq
                  simp only[aU9] at heq;subst heq;split at h
                  · simp only[aU9] at h
                    rw[←h];exact⟨by simp,fun i hi=>aVr _ hi⟩
                  .cases h
                .cases h
              rw[hl k hk.1,hg];simp only[Q7]
              rw[aCr hi (fun i hi'=>by
                simp only[qM];split
                .rfl
                .exact hl i (hk.2 i hi'))]
              exact h
          |_=>cases h
theorem aL5 {Γ:uW}{base:Nat}{args:List qI}{f:qI}{e:qT}(h:N5 Γ H base args f=some e) (hl: ∀i∈e.rds,qM H' i=qM H i):N5 Γ H' base args f=some e:=by
  unfold N5 at h|-;split at h
  .exact aCs h hl
  .exact aCs h hl
  .cases h
theorem aL6 {T:sX}{Γ:uW}{ty:TypeId}{ρ:Operand→qI}{base:Nat}{op:Op}{e:qT}(h:uX T Γ ty ρ base H op=some e) (hl: ∀i∈e.rds,qM H' i=qM H i):uX T Γ ty ρ base H' op=some e:=by
  cases op
  case load t x=>
    simp only[uX] at h|-;unfold U6 at h|-;split at h
    · rename_i ti k n c i o' _ e1 e2
      unfold QA at h;split at h
      · rename_i e' t' l m hg
        split at h
        · rename_i hc
          have:e.rds=[k]:=by
            unfold aAt at h;split at h
            .simp only[aU9] at h;rw[←h]
            .cases h
          rw[hl k (by rw[this];simp),hg];simp only[QA];rw[aU8 hc];exact h
        .cases h
      .cases h
    .exact h
    · rename_i ti i off k e1 e2
      rcases aA8 h with h1|⟨h0,h1⟩
      · have hi:i∈e.rds:=by
          rcases aA7 h1 with h|h
          · unfold Q9 at h
            split at h
            · unfold aAs at h;split at h
              .simp only[aU9] at h;rw[←h];simp
              .cases h
            .cases h
          · unfold U3 at h
            split at h
            · unfold ZK at h;split at h
              .simp only[aU9] at h;rw[←h];simp
              .cases h
            .cases h
        rw[hl i hi,h1];rfl
      · obtain⟨hi,h2⟩:=aLY h1 hl
        rw[hl i hi,h0];rw[hl i hi] at h2;exact h2
    .cases h
  case store t x y=>
    simp only[uX] at h|-;unfold UC at h|-;split at h
    · rename_i ti i off k kk n k' e1 e2 e3
      have hi:i∈e.rds:=by
        unfold ZT at h;split at h
        · rcases aBn h with h|h
          · unfold U7 at h;split at h
            .simp only[aU9] at h;rw[←h];simp
            .cases h
          · unfold ZS at h;split at h
            .simp only[aU9] at h;rw[←h];simp
            .cases h
        .cases h
      rw[hl i hi];exact h
    · rename_i ti k n c i o' _ t y k' e1 e2 e3
      split at h
      · rename_i ht
        rw[aU8 ht];unfold UB at h;split at h
        · rename_i e' t' l m hg
          split at h
          · rename_i hc
            have:e.rds=[k]:=by
              unfold aAw at h;split at h
              .simp only[aU9] at h;rw[←h]
              .cases h
            rw[hl k (by rw[this];simp),hg];simp only[UB];rw[aU8 hc];exact h
          .cases h
        .cases h
      .cases h
    · rename_i ti i off k t y k' e1 e2 e3
      split at h
      · rename_i ht
        have hi:e.rds=[i]:=by
          unfold UA at h;split at h
          · unfold U9 at h
            split at h
            · unfold aAv at h;split at h
              .simp only[aU9] at h;rw[←h]
              .cases h
            .cases h
          · unfold U8 at h
            split at h
            · unfold U7 at h;split at h
              .simp only[aU9] at h;rw[←h]
              .cases h
            .cases h
        rw[hl i (by rw[hi];simp)];simp only[aU8 ht];exact h
      .cases h
    .cases h
  case call c=>
    obtain⟨callee,args,tys⟩:=c;cases callee with
    | builtin b=>
      cases b
      case append=>
        simp only[uX,L4] at h|-;unfold UO at h|-;split at h
        · split at h
          · rename_i hu
            rw[aU8 hu];unfold UJ at h|-;split at h
            · split at h
              · rename_i hbu
                rw[aU8 hbu];unfold UI at h;split at h
                · rename_i hg
                  split at h
                  · rename_i hbt
                    split at h
                    · rename_i hc
                      simp only[aU9] at h;subst h;rw[hl _ (aVw),hg];simp only[UI];rw[aXm hbt,aU8 hc]
                    .cases h
                  .cases h
                .cases h
              .cases h
            · split at h
              · rename_i hba
                rw[aXm hba];unfold UH at h;split at h
                · rename_i hg
                  split at h
                  · rename_i hc
                    simp only[aU9] at h;subst h;rw[hl _ (aVw),hg];simp only[UH];rw[aU8 hc]
                  .cases h
                .cases h
              .cases h
            .cases h
          · rename_i hu
            rw[aVa hu];unfold a0c at h|-;split at h
            · unfold UN at h
              split at h
              · rename_i hg
                split at h
                · rename_i hc
                  simp only[aU9] at h;subst h;rw[hl _ (aVw),hg];simp only[UN];rw[aU8 hc]
                .cases h
              .cases h
            .cases h
        .cases h
      case len=>
        simp only[uX,L4] at h|-;unfold UM at h|-;split at h
        · unfold a0a at h|-
          split at h
          · unfold UG at h
            split at h
            · rename_i hg
              simp only[aU9] at h;subst h;rw[hl _ (aVw),hg];simp only[UG]
            .cases h
          all_goals exact h
        .cases h
      all_goals exact h
    | value f=>
      simp only[uX,L4] at h|-;cases hsl:L3 args.toList tys.toList with
      |false=>rw[hsl] at h;cases h
      |true=>rw[hsl] at h;exact aL5 h hl
    |_=>exact h
  case makeFunc f first caps=>
    cases f with
    |func f=>exact h
    |_=>exact h
  case slice t x lo hi mx=>
    cases mx with
    |none=>exact h
    |some m=>exact h
  case next x b=>
    simp only[uX] at h|-;unfold UT at h|-;split at h
    · rename_i i k e1
      unfold a0i at h;split at h
      · rename_i hg
        have:e.rds=[i]:=by
          simp only[aU9] at h;rw[←h]
        rw[hl i (by rw[this];simp),hg];exact h
      .cases h
    .cases h
  case lookup xt x ix ok=>
    simp only[uX] at h|-;unfold UQ at h|-;split at h
    · rename_i el fl ar ls_ i kk e1 e2
      unfold a0f at h|-;split at h
      · rename_i kt vt k a _
        split at h
        · rename_i hk
          rw[aU8 hk];unfold UP at h;split at h
          · rename_i hg
            split at h
            · rename_i hkv
              split at h
              · rename_i hkey
                have:e.rds=[i]:=by
                  cases ok<;>(simp only[aU9] at h;rw[←h])
                rw[hl i (by rw[this];simp),hg];simp only[UP];rw[aXm hkv,aU8 hkey];exact h
              .cases h
            .cases h
          .cases h
        .cases h
      .cases h
    .cases h
  case mapUpdate mt m x y=>
    simp only[uX] at h|-;unfold N7 at h|-;split at h
    · rename_i el fl ar ls_ i kk e1 e2
      unfold UR at h|-;split at h
      · rename_i kt k a _ u b _
        split at h
        · rename_i hk
          rw[aU8 hk];unfold N6 at h;split at h
          · rename_i hg
            split at h
            · rename_i hkv
              split at h
              · rename_i hkey
                have:e.rds=[i]:=by
                  simp only[aU9] at h;rw[←h]
                rw[hl i (by rw[this];simp),hg];simp only[N6];rw[aXm hkv,aU8 hkey];exact h
              .cases h
            .cases h
          .cases h
        .cases h
      .cases h
    .cases h
  case insert mt m x y=>
    simp only[uX] at h|-;unfold N7 at h|-;split at h
    · rename_i el fl ar ls_ i kk e1 e2
      unfold UR at h|-;split at h
      · rename_i kt k a _ u b _
        split at h
        · rename_i hk
          rw[aU8 hk];unfold N6 at h;split at h
          · rename_i hg
            split at h
            · rename_i hkv
              split at h
              · rename_i hkey
                have:e.rds=[i]:=by
                  simp only[aU9] at h;rw[←h]
                rw[hl i (by rw[this];simp),hg];simp only[N6];rw[aXm hkv,aU8 hkey];exact h
              .cases h
            .cases h
          .cases h
        .cases h
      .cases h
    .cases h
  all_goals exact h
end
theorem aL7 {T:sX}{Γ:uW}{ops:Array Oper}{o:Oper}{s s':St}{e:qT}(h:NB T Γ ops.toList o s=some e) (ht: ∀t∈o.looksAt ops,lk s'.env t=lk s.env t) (hH: ∀i∈e.rds,qM s'.H i=qM s.H i) (hn:s'.nb=s.nb):NB T Γ ops.toList o s'=some e:=by
 have hop: ∀x∈o.op.operands,uE s'.env x=uE s.env x:=fun x hx=>by
  cases x with
  |tmp t=>exact ht t (by simp only[Oper.looksAt,aWa,List.mem_filterMap];exact .inl ⟨.tmp t,by simpa using hx,rfl⟩)
  |_=>rfl
 have hops:D6 s'.env (sQ o.op)=D6 s.env (sQ o.op):=by
  have hsub: ∀x∈sQ o.op,x∈o.op.operands:=by
   have hp: ∀(l:List (Nat×Operand)) x,x∈sQ.parts l->x∈l.map (·.2):=by
    intro l
    induction l with
    |nil=>intro x h;exact h
    |cons q l ih=>
     intro x h;obtain⟨i,y⟩:=q;simp only[sQ.parts,aVs] at h;rcases h with rfl|h
     .simp
     .simp only[aWq,aVs];exact .inr (ih x h)
   have ho: ∀(y:Option Operand) x,x∈sQ.opt y->y=some x:=by
    intro y x h;cases y with
    |none=>cases h
    |some y=>simp only[sQ.opt,aVm] at h;rw[h]
   intro x hx;cases hop:o.op
   case call c=>
    rw[hop] at hx;obtain⟨callee,args,tys⟩:=c;cases callee<;>simp_all [sQ,Op.operands,Call.operands]
   case slice t y lo hi mx=>
    rw[hop] at hx;simp only[sQ,aVs,xC] at hx;simp only[Op.operands,Array.mem_append];rcases hx with rfl|hx|hx
    .simp
    .have:=ho _ _ hx;subst this;simp
    .have:=ho _ _ hx;subst this;simp
   case build t ps=>rw[hop] at hx;simp only[Op.operands,aXa];exact hp _ _ hx
   case buildSlice t n ps=>rw[hop] at hx;simp only[Op.operands,aXa];exact hp _ _ hx
   all_goals (rw[hop] at hx;simp_all [sQ,Op.operands])
  have: ∀(l:List Operand),(∀x∈l,x∈o.op.operands)->D6 s'.env l=D6 s.env l:=by
   intro l
   induction l with
   |nil=>intro _;rfl
   |cons x l ih=>intro h;simp only[D6,hop x (h x pL),ih (fun y hy=>h y (aVr _ hy))]
  exact this _ hsub
 have hpl: ∀{e0:qT},uX T Γ o.type (fun x=>y4 (uE s.env x)) s.nb s.H o.op=some e0->e0.rds=e.rds->uX T Γ o.type (fun x=>y4 (uE s'.env x)) s'.nb s'.H o.op=some e0:=by
  intro e0 h1 h2;rw[aLZ (ρ:=fun x=>y4 (uE s.env x)) (ρ':=fun x=>y4 (uE s'.env x)) o.op (fun x hx=>by simp only[hop x hx]),hn];exact aL6 h1 (by rw[h2];exact hH)
 unfold NB at h|-;cases hg:o.guard with
 |none=>
  rw[hg] at h;simp only at h|-;by_cases hpk: ∃c x y,o.op= .pick c x y
  .obtain⟨c,x,y,hp⟩:=hpk;rw[hp] at h|-;simp only[NA] at h|-;rw[hop c (by rw[hp];simp [Op.operands]),hop x (by rw[hp];simp [Op.operands]),hop y (by rw[hp];simp [Op.operands])];exact h
  .have e1: ∀s,NA T Γ o s o.op=N8 (zI true (D6 s.env (sQ o.op))) (uX T Γ o.type (fun x=>y4 (uE s.env x)) s.nb s.H o.op):=by
    intro s;cases ho:o.op<;>first|rfl|(exact absurd ⟨_,_,_,ho⟩ hpk)
   rw[e1] at h|-;rw[hops];cases hp0:uX T Γ o.type (fun x=>y4 (uE s.env x)) s.nb s.H o.op with
   |none=>rw[hp0] at h;cases h
   |some e0=>
    rw[hp0] at h;simp only[N8,aU9] at h;rw[hpl hp0 (by rw[<-h])];simp only[N8,h]
 |some jb=>
  obtain⟨j,b⟩:=jb;rw[hg] at h;simp only at h|-;have hgu:HF s'.env b (EX ops.toList j)=HF s.env b (EX ops.toList j):=by
   rw[a03];cases hd:(ops.toList[j]?).bind (·.dst) with
   |none=>rfl
   |some t=>
    simp only[HF];rw[ht t (by
     simp only[Oper.looksAt,hg,aWa];right;have:(ops[j]?).bind (·.dst)=some t:=by simpa using hd
     rw[this];simp)]
  rw[hgu];cases hG:HF s.env b (EX ops.toList j) with
  |none=>rw[hG] at h;cases h
  |some G=>
   rw[hG] at h;by_cases hpk: ∃c x y,o.op= .pick c x y
   .obtain⟨c,x,y,hp⟩:=hpk;rw[hp] at h|-;simp only[N9] at h|-;rw[hop c (by rw[hp];simp [Op.operands]),hop x (by rw[hp];simp [Op.operands]),hop y (by rw[hp];simp [Op.operands])];exact h
   have e1: ∀s,N9 T Γ o s (some G) o.op=IZ G (zI G (D6 s.env (sQ o.op))) (uX T Γ o.type (fun x=>y4 (uE s.env x)) s.nb s.H o.op):=by
    intro s;cases ho:o.op<;>first|rfl|(exact absurd ⟨_,_,_,ho⟩ hpk)
   rw[e1] at h|-;rw[hops];cases hp0:uX T Γ o.type (fun x=>y4 (uE s.env x)) s.nb s.H o.op with
   |none=>rw[hp0] at h;cases h
   |some e0=>
    rw[hp0] at h;have hrd:e0.rds=e.rds:=by
     unfold IZ at h;split at h
     .rename_i heq;simp only[aU9] at h heq;subst heq;rw[<-h]
     .rename_i heq;simp only[aU9] at h heq;subst heq;rw[<-h]
     .cases h
    rw[hpl hp0 hrd];exact h
theorem aL8 {T:sX}{Γ:uW}{ops:Array Oper}{o:Oper}{s s':St}{e:qT}(h:G4 T Γ ops.toList o s=some e) (ht: ∀t∈o.looksAt ops,lk s'.env t=lk s.env t) (hH: ∀i∈e.rds,qM s'.H i=qM s.H i) (hn:s'.nb=s.nb) (hp:s'.np=s.np):G4 T Γ ops.toList o s'=some e:=by
 obtain⟨h1,h2⟩:=R4 h;unfold G4 at h|-;rw[h1] at h;rw[aL7 h1 ht hH hn,hp];exact h
def vW {α:Type}(p:Nat->Bool) (wr:Nat->Option α) (b:α):Nat->α
 |0=>b
 |k+1=>if p k=true then(wr k).getD (vW p wr b k) else vW p wr b k
theorem NS {α:Type}{p q:Nat->Bool}{wr:Nat->Option α}{b:α}: ∀{n:Nat},(∀j,j<n->wr j≠none->p j=q j)->vW p wr b n=vW q wr b n
 |0,_=>rfl
 |n+1,h=>by
  simp only[vW];have ih:=NS (p:=p) (q:=q) (wr:=wr) (b:=b) (n:=n) (fun j hj=>h j pJ);cases hw:wr n with
  |none=>simp [ih]
  |some v=>rw[h n pJ (by rw[hw];simp),ih]
theorem aCt {α:Type}{wr:Nat->Option α}{b:α}{i:Nat}: ∀{n:Nat},i<=n->vW (fun j=>decide (j<i)) wr b n=vW (fun _=>true) wr b i
 |0,h=>by
  have:i=0:=by omega
  subst this;rfl
 |n+1,h=>by
  by_cases hi:i=n+1
  .subst hi;exact NS (fun j hj _=>by simp [hj])
  .have: ¬n<i:=by omega
   simp only[vW];rw[aVa (by simp [this])];exact aCt pJ
theorem a1e {α:Type}{p q:Nat->Bool}{wr:Nat->Option α}{b:α}{i:Nat}(hi:p i=false) (hq: ∀j,q j=if j=i then true else p j): ∀{n:Nat},i<n->(∀j,i<j->j<n->p j=true->wr j=none\/wr i=none)->vW q wr b n=(wr i).getD (vW p wr b n)
 |0,h,_=>by omega
 |n+1,h,hd=>by
  simp only[vW];by_cases hn:n=i
  .subst hn;rw[aU8 (by rw[hq];simp),aVa (by simp [hi])];rw[NS (p:=q) (q:=p) (fun j hj _=>by rw[hq,aVa pJ])]
  .have ih:=a1e (b:=b) hi hq (n:=n) pJ (fun j h1 h2=>hd j h1 pJ);rw[hq,aVa hn,ih];by_cases hp:p n=true
   .rw[aU8 hp,aU8 hp];rcases hd n pJ pJ hp with h1|h1
    .rw[h1];rfl
    .rw[h1];rfl
   .rw[aVa hp,aVa hp]
theorem a1f {α:Type}{p:Nat->Bool}{wr:Nat->Option α}{b:α}: ∀(k:Nat),vW p wr b (k+1)=vW (fun j=>p (j+1)) (fun j=>wr (j+1)) (if p 0=true then(wr 0).getD b else b) k
 |0=>rfl
 |k+1=>by
  rw[vW,a1f k];rfl
theorem a1g {rds:pT}{i:Nat}: ∀{u:List (Nat×qH)},i∈qO (NC rds u)↔i∈qO u/\EY i rds=false
 |[]=>by simp [NC,qO]
 |(j,b)::u=>by
  simp only[NC];cases h:EY j rds with
  |true=>
   rw[aU8 rfl,a1g (u:=u)];simp only[qO,aVs];constructor
   .rintro⟨h1,h2⟩;exact⟨.inr h1,h2⟩
   .rintro⟨rfl|h1,h2⟩
    .rw[h] at h2;cases h2
    .exact⟨h1,h2⟩
  |false=>
   rw[aVa pL];simp only[qO,aVs,a1g (u:=u)];constructor
   .rintro(rfl|⟨h1,h2⟩)
    .exact⟨.inl rfl,h⟩
    .exact⟨.inr h1,h2⟩
   .rintro⟨rfl|h1,h2⟩
    .exact .inl rfl
    .exact .inr ⟨h1,h2⟩
theorem VW {e:qT}{i:Nat}:i∈qO (E2 e)↔i∈qO e.upd/\EY i e.rds=false:=a1g
theorem aCu {i:Nat}: ∀{l:pT},EY i l=true->i∈l
 |[],h=>by cases h
 |j::l,h=>by
  simp only[EY] at h;split at h
  .rename_i e;subst e;exact aVw
  .exact aVr _ (aCu h)
theorem aCv {H U:List (Nat×qH)}{rds:pT}{i:Nat}(h:EY i rds=true): ∀{u:List (Nat×qH)},i∈qO u->(qM U i=qM H i)∈L5 H U rds u
 |[],hi=>by cases hi
 |(j,b)::u,hi=>by
  simp only[L5];simp only[qO,aVs] at hi;rcases hi with rfl|hi
  .rw[aU8 h];exact aVw
  .have:=aCv (H:=H) (U:=U) h hi;split
   .exact aVr _ this
   .exact this
theorem aL9 {H:List (Nat×qH)}{e:qT}(hs: ∀p∈L5 H e.upd e.rds e.upd,p) {i:Nat}(h1:i∈qO e.upd) (h2:i∉qO (E2 e)):qM e.upd i=qM H i/\i∈e.rds:=by
 have h:EY i e.rds=true:=by
  cases h3:EY i e.rds with
  |true=>rfl
  |false=>exact absurd (VW.2 ⟨h1,h3⟩) h2
 exact⟨hs _ (aCv h h1),aCu h⟩
def CH (os:List Oper) (es:List qT) (t j:Nat):Option qI:=
 match os[j]?,es[j]? with
 |some o,some e=>if o.dst=some t then some e.slot else none
 |_,_=>none
def CI (es:List qT) (id j:Nat):Option (Option qH):=
 match es[j]? with
 |some e=>if id∈qO (E2 e) then some (qM e.upd id) else none
 |none=>none
theorem a1h {id:Nat}{H:sD}: ∀{u:List (Nat×qH)},qM (rD u H) id=if id∈qO u then qM u id else qM H id
 |[]=>by simp [rD,qO]
 |(k,b)::u=>by
  simp only[rD,qM,qO,aVs];by_cases h:k=id
  .subst h;simp
  .rw[aVa h,aVa h,a1h (u:=u)];have:(id=k\/id∈qO u)↔id∈qO u:=⟨fun h'=>h'.resolve_left (Ne.symm h),.inr⟩;simp only[this]
theorem aCw {d:Option Tmp}{s:qI}{env:List (Nat×qI)}{t:Nat}:lk (uA d s env) t=if d=some t then s else lk env t:=by
 cases d with
 |none=>simp [uA]
 |some d=>simp only[uA,lk,aU9]
structure aMa (T:sX) (Γ:uW) (ops:List Oper) (os:List Oper) (es:List qT) (s:St) (y:wK) (k:Nat) (o:Oper) (e:qT) (sk:St):Prop where
 ev:G4 T Γ ops o sk=some e
 nb:sk.nb=s.nb+32*k
 dst:J1 s.N o.dst=true
 ids:J2 (s.nb+32*k+32) e.upd=true
 np:sk.np=s.np
 side: ∀p∈e.side,p∈y.side
 env: ∀t,lk sk.env t=vW (fun _=>true) (CH os es t) (lk s.env t) k
 heap: ∀id,qM sk.H id=vW (fun _=>true) (CI es id) (qM s.H id) k
 same: ∀id,id∈qO e.upd->id∉qO (E2 e)->qM e.upd id=qM sk.H id/\id∈e.rds
structure aCx (T:sX) (Γ:uW) (ops:List Oper) (os:List Oper) (es:List qT) (s:St) (y:wK):Prop where
 len:es.length=os.length
 nb:y.s.nb=s.nb+32*os.length
 step: ∀k o e,os[k]? =some o->es[k]? =some e->∃sk,aMa T Γ ops os es s y k o e sk
 env: ∀t,lk y.s.env t=vW (fun _=>true) (CH os es t) (lk s.env t) os.length
 heap: ∀id,qM y.s.H id=vW (fun _=>true) (CI es id) (qM s.H id) os.length
theorem aCy {T:sX}{Γ:uW}{ops:List Oper}: ∀{l:List Oper}{x y:wK},wL T Γ ops l (some x)=some y->(∀p∈y.side,p)->∃es:List qT,y.es=es.reverse++x.es/\aCx T Γ ops l es x.s y
 |[],x,y,h,_=>by
  simp only[wL,aU9] at h;subst h;exact⟨[],rfl,rfl,rfl,fun k o e h=>by simp at h,fun _=>rfl,fun _=>rfl⟩
 |o::l,x,y,h,hsy=>by
  obtain⟨e,h1,h2,h3,h4⟩:=a1a h;obtain⟨es,h5,h6⟩:=aCy h4 hsy;have hsame: ∀{i:Nat},i∈qO e.upd->i∉qO (E2 e)->qM e.upd i=qM x.s.H i/\i∈e.rds:=fun h1 h2=>aL9 (fun p hp=>hsy p ((LG h4).1 p (xC.2 (.inr (xC.2 (.inl hp)))))) h1 h2;have envs: ∀t k,vW (fun _=>true) (CH (o::l) (e::es) t) (lk x.s.env t) (k+1)=vW (fun _=>true) (CH l es t) (lk (uA o.dst e.slot x.s.env) t) k:=fun t k=>by
   rw[a1f,aU8 rfl,aCw];have:(CH (o::l) (e::es) t 0).getD (lk x.s.env t)=if o.dst=some t then e.slot else lk x.s.env t:=by
    simp only[CH,aVI];split<;>rfl
   rw[this];rfl
  have heaps: ∀id k,vW (fun _=>true) (CI (e::es) id) (qM x.s.H id) (k+1)=vW (fun _=>true) (CI es id) (qM (rD e.upd x.s.H) id) k:=fun id k=>by
   rw[a1f,aU8 rfl,a1h];have:(CI (e::es) id 0).getD (qM x.s.H id)=if id∈qO e.upd then qM e.upd id else qM x.s.H id:=by
    simp only[CI,aVI];by_cases h7:id∈qO (E2 e)
    .rw[aU8 h7,aU8 (VW.1 h7).1];rfl
    .rw[aVa h7];by_cases h8:id∈qO e.upd
     .rw[aU8 h8,(hsame h8 h7).1];rfl
     .rw[aVa h8];rfl
   rw[this];rfl
  refine⟨e::es,by rw[h5];simp,by simp [h6.len],?_,?_,fun t=> ?_,fun id=> ?_⟩
  .have:=h6.nb;simp only at this;rw[this];simp only[aVd];omega
  .intro k o' e' ho he;cases k with
   |zero=>
    simp only[aVI,aU9] at ho he;subst ho;subst he;exact⟨x.s,h1,rfl,h2,h3,rfl,fun p hp=>(LG h4).1 p (xC.2 (.inr (xC.2 (.inr hp)))),fun _=>rfl,fun _=>rfl,fun id=>hsame⟩
   |succ k=>
    simp only[aVV] at ho he;obtain⟨sk,q⟩:=h6.step k o' e' ho he;refine⟨sk,q.ev,by rw[q.nb];simp only;omega,q.dst,?_,q.np,q.side,fun t=>by rw[q.env t,envs],fun id=>by rw[q.heap id,heaps],q.same⟩;have:=q.ids;simp only at this;rw[show x.s.nb+32*(k+1)+32=x.s.nb+32+32*k+32 by omega];exact this
  .rw[aVd,envs];exact h6.env t
  .rw[aVd,heaps];exact h6.heap id
theorem aCz {ops:Array Oper}{bs:pT}{nb i:Nat}{o:Oper}{e:qT}: ∀{ps:List Oper}{fs:List qT}{j:Nat},UU ops bs nb i o e ps fs j=true->∀k p f,ps[k]? =some p->fs[k]? =some f->
  (bs.getD (j+k) 0).testBit i=true\/(o.apart ops p=true/\HG e f=true/\L6 (nb+32*i) f.upd=true)
 |p::ps,f::fs,j,h,k,p',f',hp,hf=>by
  simp only[UU,aVg,aVZ] at h;cases k with
  |zero=>
   simp only[aVI,aU9] at hp hf;subst hp;subst hf;exact h.1.imp id (fun h=>⟨h.1.1,h.1.2,h.2⟩)
  |succ k=>
   simp only[aVV] at hp hf;have:=aCz h.2 k p' f' hp hf;rw[show j+(k+1)=j+1+k by omega];exact this
 |[],_,_,_,_,_,_,hp,_=>by simp at hp
 |_::_,[],_,_,_,_,_,_,hf=>by simp at hf
theorem a1i {ops:Array Oper}{bs:pT}{nb:Nat}: ∀{os:List Oper}{es:List qT}{m:Nat},UV ops bs nb os es m=true->∀i j o e p f,i<j->os[i]? =some o->es[i]? =some e->os[j]? =some p->es[j]? =some f->
  (bs.getD (m+j) 0).testBit (m+i)=true\/(o.apart ops p=true/\HG e f=true/\L6 (nb+32*(m+i)) f.upd=true)
 |o'::os,e'::es,m,h,i,j,o,e,p,f,hij,ho,he,hp,hf=>by
  simp only[UV,aVg] at h;obtain⟨j,rfl⟩: ∃k,j=k+1:=⟨j-1,pJ⟩;simp only[aVV] at hp hf;cases i with
  |zero=>
   simp only[aVI,aU9] at ho he;subst ho;subst he;have:=aCz h.1 j p f hp hf;rw[show m+(j+1)=m+1+j by omega];exact this
  |succ i=>
   simp only[aVV] at ho he;have:=a1i h.2 i j o e p f pJ ho he hp hf;rw[show m+(j+1)=m+1+j by omega,show m+(i+1)=m+1+i by omega];exact this
 |[],_,_,_,_,_,_,_,_,_,_,ho,_,_,_=>by simp at ho
 |_::_,[],_,_,_,_,_,_,_,_,_,_,he,_,_=>by simp at he
theorem aCA: ∀{os:List Oper}{m:Nat},UW os m=true->∀i o,os[i]? =some o->∀e∈o.after,Region.binds .any e=true->e.on<m+i
 |o'::os,m,h,i,o,ho,e,he,hb=>by
  simp only[UW,aVg] at h;cases i with
  |zero=>
   simp only[aVI,aU9] at ho;subst ho;have:=aV4.1 h.1 e (by simpa using he);simpa[hb] using this
  |succ i=>
   simp only[aVV] at ho;have:=aCA h.2 i o ho e he hb;omega
 |[],_,_,_,_,ho,_,_,_=>by simp at ho
theorem VX {l:pT}: ∀{u:List (Nat×qH)},QE u l=false->∀i,i∈qO u->i∉l
 |(k,b)::u,h,i,hi=>by
  simp only[QE,aWr] at h;simp only[qO,aVs] at hi;rcases hi with rfl|hi
  .simpa using h.1
  .exact VX h.2 i hi
theorem a1j {a b:qT}(h:HG a b=true):(∀i∈qO (E2 a),i∉b.rds/\i∉qO b.upd)/\(∀i∈qO (E2 b),i∉a.rds):=by
 simp only[HG,aVg,aVG] at h;exact⟨fun i hi=>⟨fun h1=>VX h.1 i hi (xC.2 (.inl h1)),fun h1=>VX h.1 i hi (xC.2 (.inr h1))⟩,fun i hi=>VX h.2 i hi⟩
theorem aCB {lo:Nat}: ∀{u:List (Nat×qH)},L6 lo u=true->∀i∈qO u,i<lo\/lo+32<=i
 |(k,b)::u,h,i,hi=>by
  simp only[L6,aVg,aVZ,aVf] at h;simp only[qO,aVs] at hi;rcases hi with rfl|hi
  .exact h.1
  .exact aCB h.2 i hi
def a1k (os:List Oper) (p:Nat->Bool):Prop:= ∀j o,os[j]? =some o->p j=true->∀e∈o.after,Region.binds .any e=true->p e.on=true
theorem aCC {p:Nat->Bool}{acc:Array Nat}(hacc: ∀i j,(acc.getD i 0).testBit j=true->p i=true->p j=true) {i:Nat}: ∀{es:List Edge}{s:Nat},(s.testBit i=true->p i=true)->(∀e∈es,Region.binds .any e=true->p e.on=true)->
  (es.foldl (fun s e=>if Region.binds .any e then s|||2^e.on|||acc.getD e.on 0 else s) s).testBit i=true->p i=true
 |[],s,hs,_,h=>hs h
 |e::es,s,hs,he,h=>by
  simp only[List.foldl_cons] at h;refine aCC hacc (es:=es) (fun h1=> ?_) (fun e' h'=>he e' (aVr _ h')) h;split at h1
  .rename_i hb;simp only[Nat.testBit_or,aVZ,Nat.testBit_two_pow,aVf] at h1;rcases h1 with(h1|h1) |h1
   .exact hs h1
   .rw[<-h1];exact he e pL hb
   .exact hacc _ _ h1 (he e pL hb)
  .exact hs h1
theorem aCD {p:Nat->Bool}: ∀{os:List Oper}{acc:Array Nat},(∀i j,(acc.getD i 0).testBit j=true->p i=true->p j=true)->(∀j o,os[j]? =some o->p (acc.size+j)=true->∀e∈o.after,Region.binds .any e=true->p e.on=true)->
  ∀i j,((os.foldl (fun acc o=>acc.push (o.after.foldl (fun s e=>if Region.binds .any e then s|||2^e.on|||acc.getD e.on 0 else s) 0)) acc).getD i 0).testBit j=true->p i=true->p j=true
 |[],acc,hacc,_,i,j,h,hp=>hacc i j h hp
 |o::os,acc,hacc,hos,i,j,h,hp=>by
  simp only[List.foldl_cons] at h;refine aCD (os:=os) (fun i j h hp=> ?_) (fun k o' ho hk=> ?_) i j h hp
  .rw[aVK,Array.getElem?_push] at h;split at h
   .rename_i hi;simp only[aWz] at h;rw[<-aXh] at h;refine aCC hacc (es:=o.after.toList) (s:=0) (fun h=>by simp at h) (fun e he hb=>hos 0 o rfl (by rw[hi] at hp;exact hp) e (by simpa using he) hb) h
   .rw[<-aVK] at h;exact hacc i j h hp
  .refine hos (k+1) o' ho ?_;rw[Array.size_push] at hk;rw[show acc.size+(k+1)=acc.size+1+k by omega];exact hk
theorem aCE {ops:Array Oper}{p:Nat->Bool}(hp:a1k ops.toList p) {i j:Nat}(h:((Region.before ops).toList.getD i 0).testBit j=true) (hi:p i=true):p j=true:=by
 refine aCD (os:=ops.toList) (acc:= #[]) (p:=p) (fun i j h=>by simp at h) (fun j o ho hj=>hp j o ho (by simpa using hj)) i j ?_ hi;unfold Region.before at h;rw[<-aXh] at h;rw[aVK,<-aWj,<-aVy];exact h
def E8 (l:Array Bool):Nat->Nat
 |0=>0
 |k+1=>E8 l k+if l.getD k false=true then 0 else 1
theorem aCF {l l':Array Bool}: ∀{n:Nat},(∀j,j<n->l'.getD j false=l.getD j false)->E8 l' n=E8 l n
 |0,_=>rfl
 |n+1,h=>by simp only[E8];rw[aCF (fun j hj=>h j pJ),h n pJ]
theorem aCG {l:Array Bool}: ∀{n:Nat},E8 l n=0->∀j,j<n->l.getD j false=true
 |n+1,h,j,hj=>by
  simp only[E8] at h;by_cases hn:l.getD n false=true
  .by_cases hjn:j=n
   .subst hjn;exact hn
   .exact aCG (n:=n) pJ j pJ
  .rw[aVa hn] at h;omega
theorem HO {l:Array Bool}{i j:Nat}(hi:i<l.size):(l.setIfInBounds i true).getD j false=if j=i then true else l.getD j false:=by
 by_cases h:j=i
 .subst h;rw[aU8 rfl,aVK,Array.getElem?_setIfInBounds_self_of_lt hi];rfl
 .rw[aVa h,aVK,aWD (Ne.symm h),<-aVK]
theorem aCH {l:Array Bool}{i:Nat}(hi:i<l.size) (hf:l.getD i false=false): ∀{n:Nat},i<n->E8 (l.setIfInBounds i true) n+1=E8 l n
 |n+1,h=>by
  simp only[E8];by_cases hn:n=i
  .subst hn;rw[HO hi,aU8 rfl,aU8 rfl,hf,aCF (l:=l) (fun j hj=>by rw[HO hi,aVa pJ])];simp
  .rw[HO hi,aVa hn];have:=aCH hi hf (n:=n) pJ;omega
theorem aCI {p:Nat->Bool}: ∀{n:Nat},(∃j,j<n/\p j=false)->∃j,j<n/\p j=false/\∀k,k<j->p k=true
 |0,⟨j,h,_⟩=>by omega
 |n+1,⟨j,h,hj⟩=>by
  by_cases hs: ∃j,j<n/\p j=false
  .obtain⟨k,h1,h2,h3⟩:=aCI hs;exact⟨k,pJ,h2,h3⟩
  .refine⟨j,h,hj,fun k hk=> ?_⟩;cases hp:p k with
   |true=>rfl
   |false=>exact absurd ⟨k,pJ,hp⟩ hs
theorem sK.ext {g:Gh}{w:pU}{H H':sD}(h:sK g w H) (e: ∀i,qM H' i=qM H i):sK g w H':=
 ⟨fun i b hb=>h.blk i b (by rw[<-e];exact hb),fun i j bi bj b o hij h1 h2=>h.dis i j bi bj b o hij (by rw[<-e];exact h1) (by rw[<-e];exact h2),h.sl,h.tab.1,fun i b bb oo hb ho=>h.tab.2 i b bb oo (by rw[<-e];exact hb) ho⟩
theorem tM.ext {A:Nat->Nat->Prop}{L:List qH}{g0 g:Gh}{w0 w:pU}{H H':sD}(h:tM A L g0 w0 g w H) (e: ∀i,qM H' i=qM H i):tM A L g0 w0 g w H':=
 ⟨h.shut,h.fr,fun i blk b o hb=>h.perm i blk b o (by rw[<-e];exact hb),h.J,h.live,fun i u y us hi hb=>h.ty i u y us hi (by rw[<-e];exact hb),h.cur⟩
theorem aCJ (g:Gh) (w:pU) (d:Nat):Le g w g {w with drawn:=d}:=⟨fun _ _ h=>h,fun _ _ _=>rfl,fun _ _ h=>h,fun _ _ _ h=>h⟩
theorem sK.drawn {g:Gh}{w:pU}{H:sD}(h:sK g w H) (d:Nat):sK g {w with drawn:=d} H:=
 ⟨fun i b hb=>L8 (h.blk i b hb) (aCJ g w d) rfl rfl (fun _ _ _=>⟨rfl,rfl⟩) (fun _ _=>rfl) (fun _ _ _ h=>h) (fun _ _ _ _ h=>h),h.dis,h.sl,PY h.tab.1 (aVp _) (fun _ _=>rfl),h.tab.2⟩
theorem tM.drawn {A:Nat->Nat->Prop}{L:List qH}{g0 g:Gh}{w0 w:pU}{H:sD}(h:tM A L g0 w0 g w H) (d:Nat):tM A L g0 w0 g {w with drawn:=d} H:=
 ⟨h.shut,⟨h.fr.os,h.fr.tape,h.fr.output,h.fr.size,h.fr.blk,h.fr.cell,h.fr.new,h.fr.shape⟩,h.perm,h.J,h.live,h.ty,h.cur⟩
section
variable {B:Nat}{P:Program}{T:sX}{Γ:uW}(hT:xQ P T) (hΓ:F6 P Γ) {A:Nat->Nat->Prop}{L:List qH}{g0:Gh}{w0:pU}{Q:Exit->Act->pU->Prop}
structure Mid (B:Nat) (A:Nat->Nat->Prop) (L:List qH) (g0:Gh) (w0:pU) (ops:Array Oper) (es:List qT) (s:St) (listed:Array Bool) (g:Gh) (w:pU) (a:Act) (env:List (Nat×qI)) (H:sD):Prop where
 size:listed.size=ops.size
 closed:a1k ops.toList (fun j=>listed.getD j false)
 eok:CG g w env a.tmps
 look: ∀t,lk env t=vW (fun j=>listed.getD j false) (CH ops.toList es t) (lk s.env t) ops.size
 heap:sK g w H
 get: ∀id,qM H id=vW (fun j=>listed.getD j false) (CI es id) (qM s.H id) ops.size
 tmps:a.tmps.size=s.N
 def_:AA B w a.defers
 good:tM A L g0 w0 g w H
 len:L.length=s.np
 free: ∀j,j<ops.size->listed.getD j false=false->∀id,s.nb+32*j<=id->id<s.nb+32*j+32->g.J id=none/\∀n,g.cur id n=none
 top: ∀id,s.nb+32*ops.size<=id->g.J id=none/\∀n,g.cur id n=none
include hT hΓ
theorem aMb {ro:pS}{ops:Array Oper}{es:List qT}{s:St}{y:wK}(run:aCx T Γ ops.toList ops.toList es s y) (hs: ∀p∈y.side,p) (hchk:G5 ops s.nb es=true)
  (hQ: ∀g a w env H,CG g w env a.tmps->(∀t,lk env t=lk y.s.env t)->sK g w H->(∀id,qM H id=qM y.s.H id)->a.tmps.size=s.N->AA B w a.defers->tM A L g0 w0 g w H->(∀id,s.nb+32*ops.size<=id->g.J id=none/\∀n,g.cur id n=none)->Q .normal a w):
  ∀(fuel:Nat) (listed:Array Bool) (g:Gh) (w:pU) (a:Act) (env:List (Nat×qI)) (H:sD),E8 listed ops.size<=fuel->Mid B A L g0 w0 ops es s listed g w a env H->wpAnyIn (G9 ro) 0 P .any ops Q fuel listed a w:=by
 simp only[G5,aVg] at hchk;obtain⟨haf,hfr⟩:=hchk;have hsz:ops.toList.length=ops.size:=aVJ;have done: ∀(listed:Array Bool) (g:Gh) (w:pU) (a:Act) (env:List (Nat×qI)) (H:sD),Mid B A L g0 w0 ops es s listed g w a env H->(∀j,j<ops.size->listed.getD j false=true)->Q .normal a w:=by
  intro listed g w a env H m hall;refine hQ g a w env H m.eok (fun t=> ?_) m.heap (fun id=> ?_) m.tmps m.def_ m.good m.top
  .rw[m.look t,run.env t,hsz];exact NS (fun j hj _=>hall j hj)
  .rw[m.get id,run.heap id,hsz];exact NS (fun j hj _=>hall j hj)
 have stuck: ∀(listed:Array Bool),listed.size=ops.size->Region.ready .any ops listed=[]->∀j,j<ops.size->listed.getD j false=true:=by
  intro listed hls hr j hj;cases hp:listed.getD j false with
  |true=>rfl
  |false=>
   obtain⟨k,h1,h2,h3⟩:=aCI (p:=fun j=>listed.getD j false) ⟨j,hj,hp⟩;have:k∈Region.ready .any ops listed:=by
    rw[mem_ready];refine⟨?_,ops[k],by simp [h1],fun e he hb=> ?_⟩
    .have h2:listed.getD k false=false:=h2;rw[aVK] at h2|-;rw[aW7 pJ] at h2|-;exact h2
    .have:=aCA haf k ops[k] (by simp [h1]) e he hb;exact h3 e.on pJ
   rw[hr] at this;cases this
 intro fuel
 induction fuel with
 |zero=>
  intro listed g w a env H hu m;have hall:=aCG (l:=listed) (n:=ops.size) pJ;refine⟨?_,done listed g w a env H m hall⟩;cases hr:Region.ready .any ops listed with
  |nil=>rfl
  |cons i r=>
   have:i∈Region.ready .any ops listed:=by rw[hr];simp
   obtain⟨h0,o,ho,_⟩:=mem_ready.1 this;have hi:i<ops.size:=(aVz.1 ho).1;have:=hall i hi;rw[aVK] at this h0;rw[aW7 (by rw[m.size];exact hi)] at this h0;simp at this h0;rw[this] at h0;cases h0
 |succ fuel ih=>
  intro listed g w a env H hu m;refine⟨fun hr=>done listed g w a env H m (stuck listed m.size hr),fun i hi=> ?_⟩;obtain⟨h0,o,ho,hall⟩:=mem_ready.1 hi;have hin:i<ops.size:=(aVz.1 ho).1;have hil:i<listed.size:=by rw[m.size];exact hin
  have hpi:listed.getD i false=false:=by
   rw[aVK] at h0|-;rw[aW7 hil] at h0|-;exact h0
  have hoL:ops.toList[i]? =some o:=by simpa using ho
  obtain⟨e,he⟩: ∃e,es[i]? =some e:=⟨es[i]'(by rw[run.len,hsz];exact hin),by simp⟩;obtain⟨sk,st⟩:=run.step i o e hoL he;have hcl':a1k ops.toList (fun j=>(listed.setIfInBounds i true).getD j false):=by
   intro j o' ho' hj ed hed hb;simp only[HO hil] at hj|-;by_cases hji:j=i
   .subst hji;rw[hoL] at ho';obtain rfl:=aVe ho';have:=hall ed hed hb;split
    .rfl
    .exact this
   .rw[aVa hji] at hj;have:=m.closed j o' ho' hj ed hed hb;split
    .rfl
    .exact this
  have hbef: ∀j,((Region.before ops).toList.getD i 0).testBit j=true->j≠i->listed.getD j false=true:=by
   intro j hj hne;have:=aCE hcl' hj (by simp only[HO hil];simp);simp only[HO hil,aVa hne] at this;exact this
  have haft: ∀j,((Region.before ops).toList.getD j 0).testBit i=true->listed.getD j false=true->False:=by
   intro j hj hl;have:=aCE m.closed hj hl;rw[hpi] at this;cases this
  have pairLt: ∀j p f,j<i->ops.toList[j]? =some p->es[j]? =some f->listed.getD j false=true\/(p.apart ops o=true/\HG f e=true/\L6 (s.nb+32*j) e.upd=true):=by
   intro j p f hji hp hf;rcases a1i hfr j i p f o e hji hp hf hoL he with h1|h1
   .rw[aVF,aVF] at h1;exact .inl (hbef j h1 pJ)
   .rw[aVF] at h1;exact .inr h1
  have pairGt: ∀j p f,i<j->ops.toList[j]? =some p->es[j]? =some f->listed.getD j false=true->o.apart ops p=true/\HG e f=true:=by
   intro j p f hij hp hf hl;rcases a1i hfr i j o e p f hij hoL he hp hf with h1|h1
   .rw[aVF,aVF] at h1;exact(haft j h1 hl).elim
   .exact⟨h1.1,h1.2.1⟩
  have same: ∀{α:Type}(wr:Nat->Option α) (b:α),(∀j p f,j<i->ops.toList[j]? =some p->es[j]? =some f->wr j≠none->p.apart ops o=true->HG f e=true->False)->
    (∀j p f,i<j->ops.toList[j]? =some p->es[j]? =some f->wr j≠none->o.apart ops p=true->HG e f=true->False)->(∀j,wr j≠none->∃f,es[j]? =some f)->
    vW (fun j=>listed.getD j false) wr b ops.size=vW (fun _=>true) wr b i:=by
   intro α wr b hlt hgt hex;rw[<-aCt (n:=ops.size) pJ];refine NS (fun j hj hw=> ?_);obtain⟨f,hf⟩:=hex j hw;have hpj:ops.toList[j]? =some ops[j]:=by simp [hj]
   rcases Nat.lt_trichotomy j i with h1|h1|h1
   .rw[aWh h1];rcases pairLt j _ f h1 hpj hf with h2|h2
    .exact h2
    .exact(hlt j _ f h1 hpj hf hw h2.1 h2.2.1).elim
   .subst h1;simp [hpi]
   .have: ¬j<i:=by omega
    rw[decide_eq_false this];cases hl:listed.getD j false with
    |false=>rfl
    |true=>
     obtain⟨h2,h3⟩:=pairGt j _ f h1 hpj hf hl;exact(hgt j _ f h1 hpj hf hw h2 h3).elim
  have exS: ∀t j,CH ops.toList es t j≠none->∃f,es[j]? =some f:=by
   intro t j h;unfold CH at h;cases hf:es[j]? with
   |none=>rw[hf] at h;exact absurd (by split<;>first|rfl|(rename_i h1;cases h1)) h
   |some f=>exact⟨f,rfl⟩
  have exH: ∀t j,CI es t j≠none->∃f,es[j]? =some f:=by
   intro t j h;unfold CI at h;cases hf:es[j]? with
   |none=>rw[hf] at h;exact absurd rfl h
   |some f=>exact⟨f,rfl⟩
  have dS: ∀t j p f,ops.toList[j]? =some p->es[j]? =some f->CH ops.toList es t j≠none->p.dst=some t:=by
   intro t j p f hp hf h;unfold CH at h;rw[hp,hf] at h;simp only at h;split at h
   .assumption
   .exact absurd rfl h
  have dH: ∀id j f,es[j]? =some f->CI es id j≠none->id∈qO (E2 f):=by
   intro id j f hf h;unfold CI at h;rw[hf] at h;simp only at h;split at h
   .assumption
   .exact absurd rfl h
  have hrds: ∀id∈e.rds,qM H id=qM sk.H id:=fun id hid=>by
   rw[m.get id,st.heap id];refine same _ _ (fun j p f _ hp hf hw _ ha=> ?_) (fun j p f _ hp hf hw _ ha=> ?_) (exH id)
   .exact((a1j ha).1 id (dH id j f hf hw)).1 hid
   .exact(a1j ha).2 id (dH id j f hf hw) hid
  have hev:G4 T Γ ops.toList o ⟨env,H,s.nb+32*i,s.N,s.np⟩=some e:=by
   refine aL8 st.ev (fun t ht=> ?_) (fun id hid=> ?_) st.nb.symm st.np.symm
   .show lk env t=_;rw[m.look t,st.env t];refine same _ _ (fun j p f _ hp hf hw ha _=> ?_) (fun j p f _ hp hf hw ha _=> ?_) (exS t)
    .exact(Oper.apart_spec ha).1 t (dS t j p f hp hf hw) ht
    .exact(Oper.apart_spec ha).2.2 t (dS t j p f hp hf hw) ht
   .exact hrds id hid
  have hfresh:AV g (s.nb+32*i) e:=fun id hid hle=>m.free i hin hpi id hle (R6 st.ids hid);have key:=aB7 hT hΓ (ops:=ops.toList) (o:=o) (a:=a) (s:=⟨env,H,s.nb+32*i,s.N,s.np⟩) (K:=wpAnyIn (G9 ro) 0 P .any ops Q fuel (listed.setIfInBounds i true)) (Q:=Q) m.eok m.heap hev (fun p hp=>hs p (st.side p hp)) hfresh (fun g' w' v k=>by
   refine ih (listed.setIfInBounds i true) g' w' (a.put o.dst v) (uA o.dst e.slot env) (rD e.upd H) ?_ ⟨by rw[Array.size_setIfInBounds];exact m.size,hcl',a09 m.eok k.le k.slot m.tmps st.dst,fun t=> ?_,k.heap,fun id=> ?_,(aCb _ _ _).trans m.tmps,by rw[aCc];exact m.def_.eff m.heap k,m.good.eff k (m.len▸(R4 hev).2),m.len,fun j hj hjp id h1 h2=> ?_,fun id hid=> ?_⟩
   .have:=aCH hil hpi hin;omega
   .rw[aCw,a1e (p:=fun j=>listed.getD j false) (i:=i) hpi (fun j=>by simp only[HO hil]) hin (fun j hij hj hl=> ?_),<-m.look t]
    .unfold CH;rw[hoL,he];simp only;split<;>rfl
    .have hpj:ops.toList[j]? =some ops[j]:=by simp [hj]
     obtain⟨f,hf⟩: ∃f,es[j]? =some f:=⟨es[j]'(by rw[run.len,hsz];exact hj),by simp⟩;obtain⟨h3,_⟩:=pairGt j _ f hij hpj hf hl;by_cases hw:CH ops.toList es t j=none
     .exact .inl hw
     .right;have hd:=dS t j _ f hpj hf hw;by_cases hwi:CH ops.toList es t i=none
      .exact hwi
      .have hdi:=dS t i _ e hoL he hwi;exact absurd hd ((Oper.apart_spec h3).2.1 t hdi)
   .rw[a1h,a1e (p:=fun j=>listed.getD j false) (i:=i) hpi (fun j=>by simp only[HO hil]) hin (fun j hij hj hl=> ?_),<-m.get id]
    .unfold CI;rw[he];simp only;by_cases h7:id∈qO (E2 e)
     .rw[aU8 h7,aU8 (VW.1 h7).1];rfl
     .rw[aVa h7];by_cases h8:id∈qO e.upd
      .obtain⟨q1,q2⟩:=st.same id h8 h7;rw[aU8 h8,q1,<-hrds id q2];rfl
      .rw[aVa h8];rfl
    .have hpj:ops.toList[j]? =some ops[j]:=by simp [hj]
     obtain⟨f,hf⟩: ∃f,es[j]? =some f:=⟨es[j]'(by rw[run.len,hsz];exact hj),by simp⟩;obtain⟨_,h3⟩:=pairGt j _ f hij hpj hf hl;by_cases hw:CI es id j=none
     .exact .inl hw
     .right;have hd:=dH id j f hf hw;by_cases hwi:CI es id i=none
      .exact hwi
      .have hdi:=dH id i e he hwi;exact absurd (VW.1 hd).1 ((a1j h3).1 id hdi).2
   .rw[HO hil] at hjp;have hji:j≠i:=fun h=>by rw[aU8 h] at hjp;cases hjp
    rw[aVa hji] at hjp;have hnot:id∉qO e.upd:=by
     intro hm;have hlt:=R6 st.ids hm;rcases Nat.lt_or_gt_of_ne hji with h3|h3
     .obtain⟨f,hf⟩: ∃f,es[j]? =some f:=⟨es[j]'(by rw[run.len,hsz];exact hj),by simp⟩;rcases pairLt j ops[j] f h3 (by simp [hj]) hf with h4|h4
      .rw[hjp] at h4;cases h4
      .have:=aCB h4.2.2 id hm;omega
     .omega
    have hg:=k.gho id hnot;have hb:=m.free j hj hjp id h1 h2;exact⟨hg.1.trans hb.1,fun n=>by rw[hg.2];exact hb.2 n⟩
   .have hnot:id∉qO e.upd:=fun hm=>by have:=R6 st.ids hm;omega
    have hg:=k.gho id hnot;have hb:=m.top id hid;exact⟨hg.1.trans hb.1,fun n=>by rw[hg.2];exact hb.2 n⟩)
  unfold wpOpIn;rw[ho];simp only[aWI] at key|-;split at key
  .rename_i hw;rw[aU8 hw];exact aCg (aCf hev) key
  .rename_i hw;rw[aVa hw];exact⟨fun _ _=>trivial,key⟩
theorem aMc {ro:pS}(hm:P.follows .mixedOrders=true) {id:Nat}{ops:Array Oper}{s:St}{y:wK}{a:Act}{w:pU}{g:Gh}(h:wL T Γ ops.toList ops.toList (some ⟨s,[],[]⟩)=some y) (hchk:G5 ops s.nb y.es.reverse=true) (hs: ∀p∈y.side,p) (hr:vK B g w s a) (hg:tM A L g0 w0 g w s.H) (hn:L.length=s.np)
  (hQ: ∀g' a' w',vK B g' w' y.s a'->tM A L g0 w0 g' w' y.s.H->Q .normal a' w'):(Code.region id ops true).wpIn (G9 ro) 0 P Q a w:=by
 obtain⟨es,h1,run⟩:=aCy h hs;have hes:y.es.reverse=es:=by rw[h1];simp
 simp only at run;rw[hes] at hchk;have hsd:=LG h;have hrep: ∀j,(Array.replicate ops.size false).getD j false=false:=by
  intro j;rw[aVK,Array.getElem?_replicate];split<;>rfl
 have none: ∀{α:Type}(wr:Nat->Option α) (b:α) n,vW (fun j=>(Array.replicate ops.size false).getD j false) wr b n=b:=by
  intro α wr b n
  induction n with
  |zero=>rfl
  |succ n ih=>simp only[vW];rw[aVa (by rw[hrep];simp)];exact ih
 have hsz:ops.toList.length=ops.size:=aVJ;refine wpIn_region_any hm (aMb hT hΓ run hs hchk (fun g' a' w' env H he hl hh hgt hz hd hgd htop=> ?_) _ _ g _ a s.env s.H ?_ ⟨by simp,fun j o ho hj=> ?_,fun t=>CC (aCJ g w _) (hr.env t),fun t=> ?_,hr.heap.drawn _,fun id=> ?_,hr.size,hr.def_.same (fun _ h=>h),hg.drawn _,hn,fun j _ _ id h1 _=>hr.nb id pJ,fun id h1=>hr.nb id pJ⟩)
 .refine hQ g' a' w' ⟨fun t=>by rw[<-hl t];exact he t,hh.ext (fun i=>(hgt i).symm),by rw[hsd.2.1];exact hz,fun i hi=>htop i ?_,hd,?_⟩ (hgd.ext (fun i=>(hgt i).symm))
  .rw[run.nb,hsz] at hi;exact hi
  .rw[hsd.2.2,run.nb];exact aV7 hr.np (Nat.le_add_right _ _)
 .have: ∀n (l:Array Bool),E8 l n<=n:=by
   intro n l
   induction n with
   |zero=>exact aVp _
   |succ n ih=>simp only[E8];split<;>omega
  exact this _ _
 .simp only[hrep] at hj;cases hj
 .rw[none]
 .exact(none _ _ _).symm
end
theorem a1l: ∀{l:List Prop},rO l->∀p∈l,p
 |[p],h,q,hq=>by simp only[aVm] at hq;subst hq;exact h
 |p::q::r,h,x,hx=>by
  rcases aVs.1 hx with rfl|hx
  .exact h.1
  .exact a1l h.2 x hx
theorem aCL {p:Nat->Prop}(h: ∃n,p n): ∃n,p n/\∀m,p m->n<=m:=by
 obtain⟨n,hn⟩:=h
 induction n using Nat.strongRecOn with
 |_ n ih=>
  by_cases hs: ∃m,m<n/\p m
  .obtain⟨m,hm,hp⟩:=hs;exact ih m hm hp
  .exact⟨n,hn,fun m hm=>Nat.le_of_not_lt fun hlt=>hs ⟨m,hlt,hm⟩⟩
noncomputable def R7 (p:Nat->Prop):Nat:=open Classical in if h: ∃n,p n then(aCL h).choose else 0
theorem VY {p:Nat->Prop}(h: ∃n,p n):p (R7 p)/\∀m,p m->R7 p<=m:=by
 unfold R7;rw[aXm h];exact(aCL h).choose_spec
def E9:Exit->Option Ex
 | .normal=>some .normal
 | .exit id=>some (.exit id)
 | .ret=>some .ret
 |_=>none
def aCM (B:Nat) (A:Nat->Nat->Prop) (L:List qH) (g0:Gh) (w0:pU) (Q:Ex->St->Prop) (x:Exit) (a:Act) (w:pU):Prop:=
 ∃e g s,E9 x=some e/\Q e s/\vK B g w s a/\tM A L g0 w0 g w s.H/\s.np=L.length
section
variable {B:Nat}{P:Program}{T:sX}{Γ:uW}(hT:xQ P T) (hΓ:F6 P Γ) (hm:P.follows .mixedOrders=true) {A:Nat->Nat->Prop}{L:List qH}{g0:Gh}{w0:pU}
include hT hΓ hm
theorem HP {ro:pS}: ∀(c:Code) (s:St) (Q:Ex->St->Prop) (g:Gh) (a:Act) (w:pU),wN T Γ c s Q->vK B g w s a->tM A L g0 w0 g w s.H->s.np=L.length->c.wpIn (G9 ro) 0 P (aCM B A L g0 w0 Q) a w
 | .skip,s,Q,g,a,w,h,hr,hg,hn=>by
  unfold wN at h;exact wpIn_skip ⟨.normal,g,s,rfl,h,hr,hg,hn⟩
 | .label l,s,Q,g,a,w,h,hr,hg,hn=>by
  unfold wN at h;exact wpIn_label ⟨.normal,g,s,rfl,h,hr,hg,hn⟩
 | .exit id,s,Q,g,a,w,h,hr,hg,hn=>by
  unfold wN at h;exact wpIn_exit ⟨.exit id,g,s,rfl,h,hr,hg,hn⟩
 | .ret,s,Q,g,a,w,h,hr,hg,hn=>by
  unfold wN at h;exact wpIn_ret ⟨.ret,g,s,rfl,h,hr,hg,hn⟩
 | .region id ops draw,s,Q,g,a,w,h,hr,hg,hn=>by
  unfold wN at h;cases draw with
  |false=>
   simp only[QF] at h;cases hy:wL T Γ ops.toList ops.toList (some ⟨s,[],[]⟩) with
   |none=>rw[hy] at h;cases h
   |some y=>
    rw[hy] at h;refine aLX hT hΓ hy (a1l h.1) hr hg hn.symm (fun g' a' w' hr' hg'=>⟨.normal,g',y.s,rfl,h.2,hr',hg',(LG hy).2.2.trans hn⟩)
  |true=>
   simp only[QF] at h;cases hy:wL T Γ ops.toList ops.toList (some ⟨s,[],[]⟩) with
   |none=>rw[hy] at h;cases h
   |some y=>
    rw[hy] at h;simp only[aAG] at h;by_cases hc:G5 ops s.nb y.es.reverse=true
    .rw[aU8 hc] at h;refine aMc hT hΓ hm hy hc (a1l h.1) hr hg hn.symm (fun g' a' w' hr' hg'=>⟨.normal,g',y.s,rfl,h.2,hr',hg',(LG hy).2.2.trans hn⟩)
    .rw[aVa hc] at h;cases h
 | .seq x y,s,Q,g,a,w,h,hr,hg,hn=>by
  unfold wN at h;refine wpIn_seq (aWT (HP x s _ g a w h hr hg hn) fun e a' w' hp=> ?_);obtain⟨e',g',s',h1,h2,h3,h4,h5⟩:=hp;cases e<;>simp only[E9,aU9] at h1
  case normal=>subst h1;exact HP y s' Q g' a' w' h2 h3 h4 h5
  case exit id=>subst h1;exact⟨.exit id,g',s',rfl,h2,h3,h4,h5⟩
  case ret=>subst h1;exact⟨.ret,g',s',rfl,h2,h3,h4,h5⟩
  all_goals cases h1
 | .cond c x y,s,Q,g,a,w,h,hr,hg,hn=>by
  unfold wN at h;have hc:=AZ hr.env c;generalize uE s.env c=sc at h hc;unfold aAN at h;split at h
  .exact wpIn_cond_split (xR hc.1) (fun ht=>HP x s Q g a w (h.1 ht) hr hg hn) (fun ht=>HP y s Q g a w (h.2 ht) hr hg hn)
  .obtain⟨b,hb,hp,hq⟩:=hc.1;exact wpIn_cond_split hb (fun ht=>HP x s Q g a w (h.1 (hp ht)) hr hg hn) (fun ht=>HP y s Q g a w (h.2 (hq ht)) hr hg hn)
  .cases h
 | .block id c,s,Q,g,a,w,h,hr,hg,hn=>by
  unfold wN at h;refine wpIn_block (aWT (HP c s _ g a w h hr hg hn) fun e a' w' hp=> ?_);obtain⟨e',g',s',h1,h2,h3,h4,h5⟩:=hp;cases e<;>simp only[E9,aU9] at h1
  case normal=>subst h1;exact⟨.normal,g',s',rfl,h2,h3,h4,h5⟩
  case exit j=>
   subst h1;simp only[J4] at h2;simp only[Exit.inBlock];split
   .rename_i hj;rw[aU8 hj] at h2;exact⟨.normal,g',s',rfl,h2,h3,h4,h5⟩
   .rename_i hj;rw[aVa hj] at h2;exact⟨.exit j,g',s',rfl,h2,h3,h4,h5⟩
  case ret=>subst h1;exact⟨.ret,g',s',rfl,h2,h3,h4,h5⟩
  all_goals cases h1
 | .loop c,s,Q,g,a,w,h,hr,hg,hn=>by
  unfold wN at h;obtain⟨k,I,μ,h0,hround⟩:=h;obtain⟨g1,k1,k2,k3,_⟩:=HN hr hg hn k
  let R:Act->pU->Nat->Prop:=fun a w n=> ∃g s,I s/\μ s=n/\vK B g w s a/\tM A L g0 w0 g w s.H/\s.np=L.length
  refine wpIn_loop (fun a w=> ∃n,R a w n) (fun a w=>R7 (R a w)) ⟨_,g1,s.keep k,h0,rfl,k1,k2,k3⟩ (fun a w hI=> ?_);obtain⟨⟨g2,s2,i1,i2,i3,i4,i5⟩,_⟩:=VY hI;refine aWT (HP c s2 _ g2 a w (hround s2 i1) i3 i4 i5) fun e a' w' hp=> ?_;obtain⟨e',g',s',h1,h2,h3,h4,h5⟩:=hp;cases e<;>simp only[E9,aU9] at h1
  case normal=>
   subst h1;obtain⟨k',j1,j2⟩:=h2;obtain⟨g3,l1,l2,l3,_⟩:=HN h3 h4 h5 k';have hR:R a' w' (μ (s'.keep k')):=⟨g3,s'.keep k',j1,rfl,l1,l2,l3⟩;refine⟨⟨_,hR⟩,Nat.lt_of_le_of_lt ((VY ⟨_,hR⟩).2 _ hR) (by rw[<-i2];exact j2)⟩
  case exit id=>subst h1;exact⟨.exit id,g',s',rfl,h2,h3,h4,h5⟩
  case ret=>subst h1;exact⟨.ret,g',s',rfl,h2,h3,h4,h5⟩
  all_goals cases h1
 | .rangeFunc _ _ _ _,_,_,_,_,_,h,_,_,_=>by unfold wN at h;cases h
 | .scope _,_,_,_,_,_,h,_,_,_=>by unfold wN at h;cases h
 | .goto _,_,_,_,_,_,h,_,_,_=>by unfold wN at h;cases h
 | .refuse _,_,_,_,_,_,h,_,_,_=>by unfold wN at h;cases h
end
section
variable {f:St->Prop}{Q:Ex->St->Prop}{s:St}{id j:Nat}{I:St->Prop}{μ:St->Nat}{m:Nat}
theorem qS (h:f s):QI f Q .normal s:=h
theorem uK (h:Q (.exit j) s):QI f Q (.exit j) s:=h
theorem s0 (h:Q .ret s):QI f Q .ret s:=h
theorem s5 (h:Q .normal s):J4 id Q .normal s:=h
theorem uQ (h:Q .normal s):J4 id Q (.exit id) s:=by show (if id=id then Q .normal s else Q (.exit id) s);rw[aU8 rfl];exact h
theorem a1m (hne:j≠id) (h:Q (.exit j) s):J4 id Q (.exit j) s:=by show (if j=id then Q .normal s else Q (.exit j) s);rw[aVa hne];exact h
theorem sF (h:Q .ret s):J4 id Q .ret s:=h
end
@[go_sem] def rQ:Nat->List qI->List (Nat×qI)
 |_,[]=>[]
 |c,s::r=>(c,s)::rQ (c+1) r
@[go_sem] def vX:Nat->List qH->pO
 |_,[]=>[]
 |c,_::L=>(c,c)::vX (c+1) L
@[go_sem] def R9 (m:pO):List qI->Prop
 |[]=>True
 |s::r=>AR m s=s/\R9 m r
@[go_sem] def RA (m:pO):List qH->Prop
 |[]=>True
 | .dead::_=>False
 |b::r=>J3 m (some b)=b/\RA m r
def rS:List qH->Prop
 |[]=>True
 | .row _ _ l n::r=>n=List.length l/\rS r
 |_::r=>rS r
theorem aCN {g:Gh}{w:pU}: ∀{L:List qH},(∀(i:Nat) b,L[i]? =some b->∃j,AT g w j b)->rS L
 |[],_=>trivial
 |b::L,h=>by
  have h1:=aCN (L:=L) fun i b' hb=>h (i+1) b' (by simpa using hb);obtain⟨j,h0⟩:=h 0 b rfl;cases b with
  |row e t l n=>exact⟨h0.1.symm,h1⟩
  |_=>exact h1
def a1n:pQ->pV
 |[v]=>v
 |l=> .tuple l.toArray
@[go_sem] def aCO (env:List (Nat×qI)):pT->List qI
 |[]=>[]
 |t::r=>lk env t::aCO env r
attribute [go_sem] qW
@[go_sem] def aMd:qI->Int
 |(.val (.int _) n,_)=>n
 |_=>0
@[go_sem] def Fin (ts:pT) (r:qQ):Ex->St->Prop
 | .exit _,_=>False
 |_,s=> ∃k:wM,(s.keep k).H=qW 0 r.H/\aCO (s.keep k).env ts=r.ret
theorem aCP: ∀(l:List qI) (c t:Nat),lk (rQ c l) t=if c<=t then(l[t-c]?).getD (.any,none) else(.any,none)
 |[],c,t=>by simp [rQ,lk]
 |s::l,c,t=>by
  simp only[rQ,lk];by_cases h:c=t
  .subst h;simp
  .rw[aVa h,aCP l (c+1) t];by_cases h2:c<=t
   .rw[aU8 h2,aU8 pJ];obtain⟨d,hd⟩: ∃d,t-c=d+1:=⟨t-c-1,pJ⟩;rw[hd,aVV,show t- (c+1)=d by omega]
   .rw[aVa h2,aVa pJ]
theorem NT: ∀{L:List qH}{c i j:Nat},(i,j)∈vX c L↔i=j/\c<=i/\i<c+L.length
 |[],c,i,j=>by simp only[vX,aW9,aVv,false_iff];omega
 |b::L,c,i,j=>by
  simp only[vX,aVs,aVD,NT,aVd];omega
theorem VZ: ∀{L:List qH}{c:Nat},y5 0 (vX c L)=true
 |[],_=>rfl
 |b::L,c=>by
  simp only[vX,y5,aVg];refine⟨⟨by simp,?_⟩,VZ⟩;have: ∀{m:pO},(∀i j,(i,j)∈m->i≠c/\j≠c)->ND c c m=false:=by
   intro m
   induction m with
   |nil=>intro _;rfl
   |cons q m ih=>
    intro h;obtain⟨i,j⟩:=q;have:=h i j pL;simp only[ND,ih (fun i j hm=>h i j (aVr _ hm)),decide_eq_false this.1,decide_eq_false this.2];rfl
  rw[this]
  .rfl
  .intro i j hm;obtain⟨rfl,h1,_⟩:=NT.1 hm;omega
theorem aCQ {m:pO}: ∀{l:List qI},R9 m l->∀s∈l,AR m s=s
 |x::l,h,s,hs=>by
  rcases aVs.1 hs with rfl|hs
  .exact h.1
  .exact aCQ h.2 s hs
theorem LH {m:pO}: ∀{l:List qH},RA m l->∀b∈l,J3 m (some b)=b/\b≠.dead
 |x::l,h,b,hb=>by
  cases x with
  |dead=>exact h.elim
  |cells t y ts=>
   rcases aVs.1 hb with rfl|hb
   .exact⟨h.1,fun h=>by cases h⟩
   .exact LH h.2 b hb
  |row e t l n=>
   rcases aVs.1 hb with rfl|hb
   .exact⟨h.1,fun h=>by cases h⟩
   .exact LH h.2 b hb
  |map k v l=>
   rcases aVs.1 hb with rfl|hb
   .exact⟨h.1,fun h=>by cases h⟩
   .exact LH h.2 b hb
  |iter s n=>
   rcases aVs.1 hb with rfl|hb
   .exact⟨h.1,fun h=>by cases h⟩
   .exact LH h.2 b hb
  |grow e c n=>
   rcases aVs.1 hb with rfl|hb
   .exact⟨h.1,fun h=>by cases h⟩
   .exact LH h.2 b hb
theorem W3 {g:Gh}{w:pU}: ∀{ss:List qI}{vs:pQ},vV g w ss vs->vs.length=ss.length/\∀(i:Nat) s,ss[i]? =some s->∃v,vs[i]? =some v/\s3 g w s v
 |[],vs,h=>by rw[show vs=[] from h];exact⟨rfl,fun i s h=>by simp at h⟩
 |s::ss,vs,⟨v,vs',e,h1,h2⟩=>by
  subst e;obtain⟨h3,h4⟩:=W3 h2;refine⟨by simp [h3],fun i s' hi=> ?_⟩;cases i with
  |zero=>simp only[aVI,aU9] at hi;subst hi;exact⟨v,rfl,h1⟩
  |succ i=>simp only[aVV] at hi|-;exact h4 i s' hi
theorem W4: ∀(L:List qH),rF L=L.length
 |[]=>rfl
 |_::L=>by simp only[rF,aVd,W4 L]
theorem a1o {g:Gh}{w:pU}{args:List qI}{vals:pQ}{L:List qH}{N:Nat}(hH:sK g w (qW 0 L)) (ha:vV g w args vals) (hs:R9 (vX 0 L) args) (hb:RA (vX 0 L) L) (hN:args.length<=N):
  vK w.heap.size (v7 g 0 (vX 0 L)) w ⟨rQ 0 args,qW 0 L,rF L,N,rF L⟩ {tmps:=vals.toArray++Array.replicate (N-vals.toArray.size) undef,defers:=[]}/\
  (∀i blk,L[i]? =some blk->(v7 g 0 (vX 0 L)).J i=g.J i/\AT (v7 g 0 (vX 0 L)) w i blk/\∀b o,sE (v7 g 0 (vX 0 L)) i blk b o->sE g i blk b o):=by
 have hk:y5 0 (vX 0 L)=true:=VZ;have hmem: ∀i blk,L[i]? =some blk->(i,i)∈vX 0 L:=fun i blk h=>NT.2 ⟨rfl,pJ,by have:=(aVq.1 h).1;omega⟩;have hblk: ∀i blk,L[i]? =some blk->AT (v7 g 0 (vX 0 L)) w i blk/\∀b o,sE (v7 g 0 (vX 0 L)) i blk b o->sE g i blk b o:=by
  intro i blk h;have hr:=(LH hb blk (List.mem_of_getElem? h)).1;have:=LF (g:=g) (w:=w) hk (hmem i blk h) (b:=some blk) (fun c hc=>by cases hc;exact hH.blk i blk (by rw[yH];exact h));rw[hr] at this;exact⟨this.1,fun b o ho=>by obtain⟨c,hc,hco⟩:=this.2 b o ho;cases hc;exact hco⟩
 obtain⟨hl,hv⟩:=W3 ha;refine⟨⟨fun t=> ?_,⟨fun i b h=> ?_,fun i j bi bj b o hij h1 h2 o1 o2=> ?_,hH.sl,hH.tab.1,fun i blk b o hg ho=>hH.tab.2 i blk b o hg ((hblk i blk (by rw[<-yH];exact hg)).2 b o ho)⟩,?_,fun i hi=> ?_,aB5 _ _,aVp _⟩,fun i blk h=>⟨(BQ hk (hmem i blk h)).1,hblk i blk h⟩⟩
 .rw[aCP,aU8 (aVX _),Nat.sub_zero];cases ht:args[t]? with
  |none=>exact⟨trivial,trivial⟩
  |some s=>
   obtain⟨v,hv1,hv2⟩:=hv t s ht;have hlt:t<vals.length:=(aVq.1 hv1).1;have:(vals.toArray++Array.replicate (N-vals.toArray.size) undef).getD t undef=v:=by
    rw[aVK,Array.getElem?_append_left (by simpa using hlt)];simp [hv1]
   simp only[aWz];rw[this];have:=VU hk hv2;rw[aCQ hs s (List.mem_of_getElem? ht)] at this;exact this
 .rw[yH] at h;exact(hblk i b h).1
 .rw[yH] at h1 h2;exact hH.dis i j bi bj b o hij (by rw[yH];exact h1) (by rw[yH];exact h2) ((hblk i bi h1).2 b o o1) ((hblk j bj h2).2 b o o2)
 .simp only[aXk,Array.size_replicate,aV3];omega
 .have hold:AB (vX 0 L) i=none:=by
   cases ho:AB (vX 0 L) i with
   |none=>rfl
   |some o=>
    obtain⟨rfl,_,h2⟩:=NT.1 (a07 ho);have hi:rF L<=i:=hi;rw[W4] at hi;omega
  refine⟨?_,fun n=> ?_⟩
  .show (if i<0 then g.J i else(AB (vX 0 L) i).bind g.J)=none;rw[aVa pJ,hold];rfl
  .show (if i<0 then g.cur i n else(AB (vX 0 L) i).bind fun o=>g.cur o n)=none;rw[aVa pJ,hold];rfl
structure vF (B:Nat) (w w':pU):Prop where
 os:w'.os=w.os
 tape:w'.tape=w.tape
 output:w'.output=w.output
 size:w.heap.size<=w'.heap.size
 blk: ∀b,b<w.heap.size->w'.heap[b]? =w.heap[b]? \/(B<=b/\NG<=b/\∃o o',w.heap[b]? =some o/\w'.heap[b]? =some o'/\HL o=true/\HL o'=true)
theorem aCR {w:pU}{b:Nat}{ob:Obj}(hd:w.heap[b]? =some ob) (hm:HL ob=true) (o:Nat):w.frozen? ⟨b,o,none⟩=false:=by
 unfold World.frozen?;simp only[hd];cases ob<;>first|rfl|cases hm
theorem aMe {w:pU}{b:Nat}{ob:Obj}(hd:w.heap[b]? =some ob) (hm:HL ob=true):w.shape? b=none:=by
 unfold World.shape?;simp only[hd];cases ob<;>first|rfl|cases hm
section
variable {B:Nat}{w w' w'':pU}
theorem vF.refl (B:Nat) (w:pU):vF B w w:=⟨rfl,rfl,rfl,aVp _,fun _ _=> .inl rfl⟩
theorem vF.trans (h:vF B w w') (k:vF B w' w''):vF B w w'':=by
 refine⟨k.os.trans h.os,k.tape.trans h.tape,k.output.trans h.output,aV7 h.size k.size,fun b hb=> ?_⟩;rcases k.blk b (aVP hb h.size) with k1|⟨k0,k1,o,o',k2,k3,k4,k5⟩
 .rcases h.blk b hb with h1|⟨h0,h1,o,o',h2,h3,h4,h5⟩
  .exact .inl (k1.trans h1)
  .exact .inr ⟨h0,h1,o,o',h2,k1.trans h3,h4,h5⟩
 .rcases h.blk b hb with h1|⟨h0,h1,p,p',h2,h3,h4,h5⟩
  .exact .inr ⟨k0,k1,o,o',h1▸k2,k3,k4,k5⟩
  .exact .inr ⟨h0,h1,p,o',h2,k3,h4,k5⟩
theorem vF.cell (t:vF B w w') {b:Nat}(hb:b<w.heap.size) (o:Nat):w'.cell? ⟨b,o,none⟩=w.cell? ⟨b,o,none⟩/\w'.frozen? ⟨b,o,none⟩=w.frozen? ⟨b,o,none⟩:=by
 rcases t.blk b hb with h|⟨_,_,o1,o2,h1,h2,m1,m2⟩
 .exact⟨aVB h,by unfold World.frozen?;simp only[h]⟩
 .exact⟨by rw[a02 h1 m1,a02 h2 m2],by rw[aCR h1 m1,aCR h2 m2]⟩
theorem vF.shape (t:vF B w w') {b:Nat}{s:TypeId×Nat}(h:w.shape? b=some s):w'.shape? b=some s:=by
 have hb:b<w.heap.size:=by
  unfold World.shape? at h;cases hx:w.heap[b]? with
  |none=>rw[hx] at h;cases h
  |some _=>exact(aVz.1 hx).1
 rcases t.blk b hb with k|⟨_,_,o1,o2,h1,h2,m1,m2⟩
 .unfold World.shape? at h|-;rw[k];exact h
 .rw[aMe h1 m1] at h;cases h
theorem vF.le (t:vF B w w') {g:Gh}(hs: ∀b o,g.S b o->b<w.heap.size):Le g w g w':=⟨fun _ _ h=>h,fun b o h=>(t.cell (hs b o h) o).1,fun _ _ h=>h,fun _ _ _ h=>h⟩
theorem vF.heapOk (t:vF B w w') {g:Gh}{H:sD}(h:sK g w H):sK g w' H:=by
 have own: ∀{i blk b o},qM H i=some blk->sE g i blk b o->w'.heap[b]? =w.heap[b]? :=fun hg ho=>by
  rcases t.blk _ (QO (h.blk _ _ hg) ho) with k|⟨_,_,o1,o2,h1,_,m1,_⟩
  .exact k
  .exact(VR (h.blk _ _ hg) ho h1 m1).elim
 refine⟨fun i blk hb=>L8 (h.blk i blk hb) (t.le h.sl) rfl rfl (fun b o ho=>t.cell (QO (h.blk i blk hb) ho) o) (fun b ho=>own hb (ho 0)) (fun _ _ _ x=>x) (fun b o s _ x=>t.shape x),h.dis,fun b o x=>aVP (h.sl b o x) t.size,PY h.tab.1 t.size (fun b hb=> ?_),h.tab.2⟩;rcases t.blk b (aVP hb h.tab.1.1) with k|⟨_,k,_⟩
 .exact k
 .omega
theorem vK.turn {g:Gh}{s:St}{a:Act}{ds:List Deferred}(h:vK B g w s a) (t:vF B w w') (hd:AA B w' ds):vK B g w' s {a with defers:=ds}:=
 ⟨fun x=>CC (t.le h.heap.sl) (h.env x),t.heapOk h.heap,h.size,h.nb,hd,h.np⟩
theorem tM.turn {A:Nat->Nat->Prop}{L:List qH}{g0 g:Gh}{w0:pU}{H:sD}(h:tM A L g0 w0 g w H) (hs: ∀b o,g.S b o->b<w.heap.size) (t:vF w0.heap.size w w'):tM A L g0 w0 g w' H:=by
 refine⟨fun b o x=>⟨(h.shut b o x).1,(t.cell (hs b o (h.shut b o x).1) o).1.trans (h.shut b o x).2⟩,⟨t.os.trans h.fr.os,t.tape.trans h.fr.tape,t.output.trans h.fr.output,aV7 h.fr.size t.size,fun b hb hA=> ?_,fun b o hb hA=> ?_,h.fr.new,fun b s x=> ?_⟩,h.perm,h.J,h.live,h.ty,h.cur⟩
 .rcases t.blk b (aVP hb h.fr.size) with k|⟨k,_⟩
  .exact k.trans (h.fr.blk b hb hA)
  .omega
 .have:=t.cell (aVP hb h.fr.size) o;have k:=h.fr.cell b o hb hA;exact⟨this.1.trans k.1,this.2.trans k.2⟩
 .rcases h.fr.shape b s x with k|k
  .exact .inl (t.shape k)
  .exact .inr k
end
theorem aCS {P:Program}{fn:Func}{R:Ending->pU->Prop}{A:Nat->Nat->Prop}{L:List qH}{g0 g:Gh}{w0:pU}{s:St}{tmps:Array pV}: ∀(ds:List Deferred) (w:pU),vK w0.heap.size g w s {tmps:=tmps,defers:=ds}->tM A L g0 w0 g w s.H->
  (∀w',vK w0.heap.size g w' s {tmps:=tmps,defers:=[]}->tM A L g0 w0 g w' s.H->∃v,(results fn tmps).run P w'= .ok v w'/\R (.returned v) w')->LeavesInM Fence.wide 0 P fn tmps R ds .returning w
 |[],w,hr,hg,h=>h w hr hg
 |d::ds,w,hr,hg,h=>by
  obtain⟨hnd,hall⟩:=hr.def_;obtain⟨D,rfl,h1,h2,h3⟩:=hall d aVw;have hlt:=(aVz.1 h3).1;have t:vF w0.heap.size w (w.putObj D (.deferred none)):=by
   refine⟨rfl,rfl,rfl,by simp [World.putObj],fun b hb=> ?_⟩;by_cases e:b=D
   .subst e;exact .inr ⟨h1,h2,_,_,h3,World.putObj_heap_same hlt,rfl,rfl⟩
   .exact .inl (World.putObj_heap_other e)
  have hd:AA w0.heap.size (w.putObj D (.deferred none)) ds:=by
   refine⟨(List.nodup_cons.1 hnd).2,fun d' hd'=> ?_⟩;obtain⟨D',rfl,k1,k2,k3⟩:=hall d' (aVr _ hd');refine⟨D',rfl,k1,k2,?_⟩;rw[World.putObj_heap_other (fun e:D'=D=>(List.nodup_cons.1 hnd).1 (by subst e;exact hd'))];exact k3
  exact⟨by simp,.inl ⟨D,_,rfl,run_takeDeferred h3,aCS ds _ (hr.turn t hd) (hg.turn hr.heap.sl t) h⟩⟩
def Ev (R:Bool) (P:Program) (c:Code) (s:St) (Q:Ex->St->Prop):Prop:=
 ∀(ro:pS),ro.isSome=R->
 ∀(A:Nat->Nat->Prop) (L:List qH) (g0:Gh) (w0:pU) (g:Gh) (a:Act) (w:pU) (B:Nat),B<=w0.heap.size->vK B g w s a->tM A L g0 w0 g w s.H->s.np=L.length->c.wpIn (G9 ro) 0 P (aCM B A L g0 w0 Q) a w
variable {R:Bool}
theorem aCT {P:Program}{T:sX}{Γ:uW}(hT:xQ P T) (hΓ:F6 P Γ) (hm:P.follows .mixedOrders=true) {c:Code}{s:St}{Q:Ex->St->Prop}(h:wN T Γ c s Q):Ev R P c s Q:=
 fun ro hro A L g0 w0 g a w B hB hr hg hn=>HP hT hΓ hm c s Q g a w h hr hg hn
structure rL (P:Program) (T:sX) (Γ:uW):Prop where
 T:xQ P T
 Γ:F6 P Γ
 m:P.follows .mixedOrders=true
theorem aMf {P:Program}{c:Code}{s:St}{Q Q':Ex->St->Prop}(h:Ev R P c s Q') (hq: ∀e s,Q' e s->Q e s):Ev R P c s Q:=by
 intro ro hro A L g0 w0 g a w B hB hr hg hn;refine aWT (h ro hro A L g0 w0 g a w B hB hr hg hn) fun x a' w' hp=> ?_;obtain⟨e,g',s',h1,h2,h3,h4,h5⟩:=hp;exact⟨e,g',s',h1,hq e s' h2,h3,h4,h5⟩
theorem aCU {P:Program}{c:Code}{s:St}{Q:Ex->St->Prop}(k:wM) (h:Ev R P c (s.keep k) Q):Ev R P c s Q:=by
 intro ro hro A L g0 w0 g a w B hB hr hg hn;obtain⟨g1,k1,k2,k3,_⟩:=HN hr hg hn k;exact h ro hro A L g0 w0 g1 a w B hB k1 k2 k3
section
variable {P:Program}{s:St}{Q:Ex->St->Prop}
theorem rJ (h:Q .normal s):Ev R P .skip s Q:=fun _ _ _ _ _ _ g _ _ _ _ hr hg hn=>wpIn_skip ⟨.normal,g,s,rfl,h,hr,hg,hn⟩
theorem aMg {l:Nat}(h:Q .normal s):Ev R P (.label l) s Q:=fun _ _ _ _ _ _ g _ _ _ _ hr hg hn=>wpIn_label ⟨.normal,g,s,rfl,h,hr,hg,hn⟩
theorem uF {id:Nat}(h:Q (.exit id) s):Ev R P (.exit id) s Q:=fun _ _ _ _ _ _ g _ _ _ _ hr hg hn=>wpIn_exit ⟨.exit id,g,s,rfl,h,hr,hg,hn⟩
theorem qR (h:Q .ret s):Ev R P .ret s Q:=fun _ _ _ _ _ _ g _ _ _ _ hr hg hn=>wpIn_ret ⟨.ret,g,s,rfl,h,hr,hg,hn⟩
theorem qZ {x y:Code}(h:Ev R P x s (QI (fun s'=>Ev R P y s' Q) Q)):Ev R P (.seq x y) s Q:=by
 intro ro hro A L g0 w0 g a w B hB hr hg hn;refine wpIn_seq (aWT (h ro hro A L g0 w0 g a w B hB hr hg hn) fun e a' w' hp=> ?_);obtain⟨e',g',s',h1,h2,h3,h4,h5⟩:=hp;cases e<;>simp only[E9,aU9] at h1
 case normal=>subst h1;exact h2 ro hro A L g0 w0 g' a' w' B hB h3 h4 h5
 case exit id=>subst h1;exact⟨.exit id,g',s',rfl,h2,h3,h4,h5⟩
 case ret=>subst h1;exact⟨.ret,g',s',rfl,h2,h3,h4,h5⟩
 all_goals cases h1
theorem aMh {c:Operand}{x y:Code}{b:Bool}{k:pS}(h:uE s.env c=(.val .bool b,k)) (ht:b=true->Ev R P x s Q) (hf:b=false->Ev R P y s Q):Ev R P (.cond c x y) s Q:=by
 intro ro hro A L g0 w0 g a w B hB hr hg hn;have hc:=AZ hr.env c;rw[h] at hc;exact wpIn_cond_split (xR hc.1) (fun e=>ht e ro hro A L g0 w0 g a w B hB hr hg hn) (fun e=>hf e ro hro A L g0 w0 g a w B hB hr hg hn)
theorem aMi {c:Operand}{x y:Code}{p q:Prop}{k:pS}(h:uE s.env c=(.flag p q,k)) (ht:p->Ev R P x s Q) (hf:q->Ev R P y s Q):Ev R P (.cond c x y) s Q:=by
 intro ro hro A L g0 w0 g a w B hB hr hg hn;have hc:=AZ hr.env c;rw[h] at hc;obtain⟨b,hb,hp,hq⟩:=hc.1;exact wpIn_cond_split hb (fun e=>ht (hp e) ro hro A L g0 w0 g a w B hB hr hg hn) (fun e=>hf (hq e) ro hro A L g0 w0 g a w B hB hr hg hn)
theorem aMj {c:Code}(h:Ev false P c s Q):Ev false P (.scope c) s Q:=by
 intro ro hro A L g0 w0 g a w B hB hr hg hn;have hN:ro=none:=by cases ro<;>first|rfl|cases hro
 subst hN;refine(wpIn_wide (n:=0)).2 (wp_scope_straight ((wpIn_wide (n:=0)).1 (aWT (h none rfl A L g0 w0 g a w B hB hr hg hn) fun e a' w' hp=> ?_)));obtain⟨e',g',s',h1,h2,h3,h4,h5⟩:=hp;cases e<;>simp only[E9,aU9] at h1
 all_goals first|(cases h1;done) |exact⟨e',g',s',by simp only[E9];rw[h1],h2,h3,h4,h5⟩
theorem sA {id:Nat}{c:Code}(h:Ev R P c s (J4 id Q)):Ev R P (.block id c) s Q:=by
 intro ro hro A L g0 w0 g a w B hB hr hg hn;refine wpIn_block (aWT (h ro hro A L g0 w0 g a w B hB hr hg hn) fun e a' w' hp=> ?_);obtain⟨e',g',s',h1,h2,h3,h4,h5⟩:=hp;cases e<;>simp only[E9,aU9] at h1
 case normal=>subst h1;exact⟨.normal,g',s',rfl,h2,h3,h4,h5⟩
 case exit j=>
  subst h1;simp only[J4] at h2;simp only[Exit.inBlock];split
  .rename_i hj;rw[aU8 hj] at h2;exact⟨.normal,g',s',rfl,h2,h3,h4,h5⟩
  .rename_i hj;rw[aVa hj] at h2;exact⟨.exit j,g',s',rfl,h2,h3,h4,h5⟩
 case ret=>subst h1;exact⟨.ret,g',s',rfl,h2,h3,h4,h5⟩
 all_goals cases h1
end
@[go_sem] def W5 (k:Nat) (t:Ty) (l:List t.den):qI->qI
 |(.own j m,x)=>if j=k then(.val (.list t) l,some k) else(.own j m,x)
 |s=>s
@[go_sem] def JA (k:Nat) (t:Ty) (l:List t.den):List (Nat×qI)->List (Nat×qI)
 |[]=>[]
 |(i,s)::r=>(i,W5 k t l s)::JA k t l r
@[go_sem] def aCV (k n:Nat):qI->Prop
 |(.own j m,_)=>j=k->m=n
 |_=>True
@[go_sem] def RB (k n:Nat):List (Nat×qI)->Prop
 |[]=>True
 |(_,s)::r=>aCV k n s/\RB k n r
theorem a1p {k:Nat}{t:Ty}{l:List t.den}: ∀{env:List (Nat×qI)}{i:Nat},lk (JA k t l env) i=W5 k t l (lk env i)
 |[],i=>rfl
 |(j,s)::r,i=>by
  simp only[JA,lk];split
  .rfl
  .exact a1p
theorem a1q {k n:Nat}: ∀{env:List (Nat×qI)}{i:Nat},RB k n env->aCV k n (lk env i)
 |[],i,_=>trivial
 |(j,s)::r,i,⟨h1,h2⟩=>by
  simp only[lk];split
  .exact h1
  .exact a1q h2
theorem a1r {P:Program}{c:Code}{s:St}{Q:Ex->St->Prop}(k:Nat) {e:TypeId}{t:Ty}{l:List t.den}{n:Nat}(hk:qM s.H k=some (.row e t l n)) (hok:RB k n s.env)
  (h:Ev R P c ⟨JA k t l s.env,(k,.grow e t.cells (List.length l))::s.H,s.nb,s.N,s.np⟩ Q):Ev R P c s Q:=by
 intro ro hro A L g0 w0 g a w B hB hr hg hn;obtain⟨hl,v,xs,hv,hown,hF,hnone,hseal⟩:=hr.heap.blk k _ hk
 let g':Gh:={g with S:=fun b o=>g.S b o\/(v.ownBlock=some b/\o<n*t.cells)}
 have le:Le g w g' w:=⟨fun _ _ h=> .inl h,fun _ _ _=>rfl,fun _ _ h=>h,fun _ _ _ h=>h⟩;have hown2: ∀b,v.ownBlock=some b->∀o,sE g k (.row e t l n) b o:=fun b hb o=>⟨v,hv,hb⟩;have hlist: ∀u,g.cur k n=some u->((u= .slice none 0 0/\n=0)\/∃b cap,u= .slice (some ⟨b,0,none⟩) n cap/\n<=cap)->tJ g' w (.list t) l u:=by
  intro u hu hshape;rw[hv] at hu;obtain rfl:=aVe hu;rcases hshape with⟨rfl,h0⟩ |⟨b,cap,rfl,hcap⟩
  .have:l=[]:=aVE (by rw[hl,h0]);subst this;exact .inr ⟨rfl,none,0,rfl,aVp _,.inl rfl⟩
  .refine .inr ⟨rfl,some ⟨b,0,none⟩,cap,by rw[hl],by rw[hl];exact hcap,.inr ⟨b,0,rfl,LB (D8 (fun _ _ h=>wT le h) hF) (fun j u hu=> ?_) (fun j hj=> ?_)⟩⟩
   .have:=hown.cells (g:=b) rfl j u hu;rwa [aWt] at this
   .right;exact⟨rfl,by rw[hl] at hj;omega⟩
 have hget: ∀i b,qM ((k,qH.grow e t.cells (List.length l))::s.H) i=some b->(i=k/\b= .grow e t.cells (List.length l))\/(i≠k/\qM s.H i=some b):=by
  intro i b hb;simp only[qM] at hb;split at hb
  .rename_i e1;exact .inl ⟨e1.symm,(aVe hb).symm⟩
  .rename_i e1;exact .inr ⟨Ne.symm e1,hb⟩
 have howns: ∀i b bb o,qM ((k,qH.grow e t.cells (List.length l))::s.H) i=some b->sE g' i b bb o->∃b0,qM s.H i=some b0/\sE g i b0 bb o:=by
  intro i b bb o hb ho;rcases hget i b hb with⟨rfl,rfl⟩ |⟨_,h1⟩
  .obtain⟨u,hu,hub⟩:=ho;have hu':g.cur i (List.length l)=some u:=hu;rw[hl] at hu';exact⟨_,hk,u,hu',hub⟩
  .exact⟨b,h1,(zJ (g':=g') (g:=g) rfl rfl).1 ho⟩
 have hrel:vK B g' w ⟨JA k t l s.env,(k,.grow e t.cells (List.length l))::s.H,s.nb,s.N,s.np⟩ a:=by
  refine⟨fun i=> ?_,⟨fun i b hb=> ?_,fun i j bi bj b o hij h1 h2 o1 o2=> ?_,fun b o hS=> ?_,hr.heap.tab.1,fun i b bb oo hb ho=>by
   obtain⟨c1,k1,k2⟩:=howns i b bb oo hb ho;exact hr.heap.tab.2 i c1 bb oo k1 k2⟩,hr.size,hr.nb,hr.def_,hr.np⟩
  .rw[a1p];have h1:=hr.env i;have h2:=a1q (i:=i) hok;generalize lk s.env i=sl at h1 h2;obtain⟨d,x⟩:=sl;cases d with
   |own j m=>
    simp only[W5];split
    .rename_i hj;subst hj;have hm:m=n:=h2 rfl;subst hm;refine⟨hlist _ h1.1.1 h1.1.2,?_⟩;show g'.cur j (List.length l)=_;rw[hl];exact h1.1.1
    .exact CC le h1
   |_=>exact CC le h1
  .rcases hget i b hb with⟨rfl,rfl⟩ |⟨hne,h1⟩
   .refine⟨v,xs,by rw[hl];exact hv,by rw[hl];exact hown,fun m hm=>hnone m (by rw[hl] at hm;exact hm),fun b hb o hS=> ?_⟩;rw[hl];rcases hS with hS|hS
    .exact absurd hS (hseal b hb o)
    .exact hS.2
   .exact L8 (hr.heap.blk i b h1) le rfl rfl (fun _ _ _=>⟨rfl,rfl⟩) (fun _ _=>rfl) (fun bb o ho hS=>by
     rcases hS with hS|hS
     .exact hS
     .exact absurd (hown2 bb hS.1 o) (fun h5=>hr.heap.dis i k b _ bb o hne h1 hk ho h5)) (fun _ _ _ _ h=>h)
  .obtain⟨c1,k1,k2⟩:=howns i bi b o h1 o1;obtain⟨c2,k3,k4⟩:=howns j bj b o h2 o2;exact hr.heap.dis i j c1 c2 b o hij k1 k3 k2 k4
  .rcases hS with hS|hS
   .exact hr.heap.sl b o hS
   .exact NH hown hS.1
 have hgood:tM A L g0 w0 g' w ((k,.grow e t.cells (List.length l))::s.H):=by
  refine⟨fun b o h0=>⟨.inl (hg.shut b o h0).1,(hg.shut b o h0).2⟩,⟨hg.fr.os,hg.fr.tape,hg.fr.output,hg.fr.size,hg.fr.blk,hg.fr.cell,fun b o hS=> ?_,hg.fr.shape⟩,fun i b bb o hb ho=> ?_,hg.J,hg.live,fun i u y us hi hb=> ?_,hg.cur⟩
  .rcases hS with hS|hS
   .exact hg.fr.new b o hS
   .exact .inr (hg.perm k _ b o hk (hown2 b hS.1 o))
  .obtain⟨c1,k1,k2⟩:=howns i b bb o hb ho;exact hg.perm i c1 bb o k1 k2
  .rcases hget i _ hb with⟨_,h1⟩ |⟨_,h1⟩
   .cases h1
   .exact hg.ty i u y us hi h1
 exact h ro hro A L g0 w0 g' a w B hB hrel hgood hn
theorem aMk {P:Program}{c:Code}{s:St}{Q:Ex->St->Prop}(k i:Nat) {e:TypeId}{t:Ty}{l:List t.den}{n:Nat}(hk:qM s.H k=some (.row e t l n)) {u:Ty}{x:u.den}{toks:pO}(hi:qM s.H i=some (.cells u x toks)) (hnp:s.np<=i)
  (hok:RB k n s.env) (hxo:QB k n u x)
  (h:Ev R P c ⟨JA k t l s.env,(i,.cells (BO k t l u x).1 (BO k t l u x).2 [])::(k,.grow e t.cells (List.length l))::s.H,s.nb,s.N,s.np⟩ Q):Ev R P c s Q:=by
 intro ro hro A L g0 w0 g a w B hB hr hg hn;obtain⟨hl,v,xs,hv,hown,hF,hnone,hseal⟩:=hr.heap.blk k _ hk
 let g':Gh:={g with S:=fun b o=>g.S b o\/(v.ownBlock=some b/\o<n*t.cells)}
 have le:Le g w g' w:=⟨fun _ _ h=> .inl h,fun _ _ _=>rfl,fun _ _ h=>h,fun _ _ _ h=>h⟩;have hown2: ∀b,v.ownBlock=some b->∀o,sE g k (.row e t l n) b o:=fun b hb o=>⟨v,hv,hb⟩;have hlist: ∀u,g.cur k n=some u->((u= .slice none 0 0/\n=0)\/∃b cap,u= .slice (some ⟨b,0,none⟩) n cap/\n<=cap)->tJ g' w (.list t) l u:=by
  intro u hu hshape;rw[hv] at hu;obtain rfl:=aVe hu;rcases hshape with⟨rfl,h0⟩ |⟨b,cap,rfl,hcap⟩
  .have:l=[]:=aVE (by rw[hl,h0]);subst this;exact .inr ⟨rfl,none,0,rfl,aVp _,.inl rfl⟩
  .refine .inr ⟨rfl,some ⟨b,0,none⟩,cap,by rw[hl],by rw[hl];exact hcap,.inr ⟨b,0,rfl,LB (D8 (fun _ _ h=>wT le h) hF) (fun j u hu=> ?_) (fun j hj=> ?_)⟩⟩
   .have:=hown.cells (g:=b) rfl j u hu;rwa [aWt] at this
   .right;exact⟨rfl,by rw[hl] at hj;omega⟩
 have hik:i≠k:=fun e1=>by rw[e1,hk] at hi;cases hi
 obtain⟨p0,cs0,hp0,hR0,hra0,hth0,hns0,_⟩:=hr.heap.blk i _ hi
 let b':qH:= .cells (BO k t l u x).1 (BO k t l u x).2 []
 let H':sD:=(i,b')::(k,qH.grow e t.cells (List.length l))::s.H
 have hget: ∀i' b,qM H' i'=some b->(i'=i/\b=b')\/(i'=k/\b= .grow e t.cells (List.length l))\/(i'≠k/\i'≠i/\qM s.H i'=some b):=by
  intro i' b hb;simp only[H',qM] at hb;split at hb
  .rename_i e1;exact .inl ⟨e1.symm,(aVe hb).symm⟩
  .rename_i e1;split at hb
   .rename_i e2;exact .inr (.inl ⟨e2.symm,(aVe hb).symm⟩)
   .rename_i e2;exact .inr (.inr ⟨Ne.symm e2,Ne.symm e1,hb⟩)
 have howns: ∀i' b bb o,qM H' i'=some b->sE g' i' b bb o->∃b0,qM s.H i'=some b0/\sE g i' b0 bb o:=by
  intro i' b bb o hb ho;rcases hget i' b hb with⟨rfl,rfl⟩ |⟨rfl,rfl⟩ |⟨_,_,h1⟩
  .obtain⟨p,hp,e1,e2,e3⟩:=ho;rw[QT] at e3;exact⟨_,hi,p,hp,e1,e2,e3⟩
  .obtain⟨u,hu,hub⟩:=ho;have hu':g.cur i' (List.length l)=some u:=hu;rw[hl] at hu';exact⟨_,hk,u,hu',hub⟩
  .exact⟨b,h1,(zJ (g':=g') (g:=g) rfl rfl).1 ho⟩
 have hrel:vK B g' w ⟨JA k t l s.env,H',s.nb,s.N,s.np⟩ a:=by
  refine⟨fun j=> ?_,⟨fun i' b hb=> ?_,fun i' j bi bj b o hij h1 h2 o1 o2=> ?_,fun b o hS=> ?_,hr.heap.tab.1,fun i' b bb oo hb ho=>by
   obtain⟨c1,k1,k2⟩:=howns i' b bb oo hb ho;exact hr.heap.tab.2 i' c1 bb oo k1 k2⟩,hr.size,hr.nb,hr.def_,hr.np⟩
  .rw[a1p];have h1:=hr.env j;have h2:=a1q (i:=j) hok;generalize lk s.env j=sl at h1 h2;obtain⟨d,x⟩:=sl;cases d with
   |own j m=>
    simp only[W5];split
    .rename_i hj;subst hj;have hm:m=n:=h2 rfl;subst hm;refine⟨hlist _ h1.1.1 h1.1.2,?_⟩;show g'.cur j (List.length l)=_;rw[hl];exact h1.1.1
    .exact CC le h1
   |_=>exact CC le h1
  .rcases hget i' b hb with⟨rfl,rfl⟩ |⟨rfl,rfl⟩ |⟨hne,_,h1⟩
   .have hk2: ∀cs,E3 g' (some (k,n)) cs->Rd g' w (.list t) l cs:=by
     rintro cs ⟨v1,q1,q2,q3⟩;rw[q2];exact CD rfl (hlist v1 q1 q3)
    refine⟨p0,cs0,hp0,a0B (n:=n) hk2 hxo (wT le hR0),hra0,?_,?_,fun _ _ hm=>by cases hm⟩
    .rw[QT];exact⟨hth0.1,hth0.2⟩
    .rw[QT];intro j hj hS;rcases hS with hS|hS
     .exact hns0 j hj hS
     .exact hr.heap.dis i' k _ _ p0.1 (p0.2+j) hik hi hk ⟨p0,hp0,rfl,pJ,pJ⟩ (hown2 _ hS.1 _)
   .refine⟨v,xs,by rw[hl];exact hv,by rw[hl];exact hown,fun m hm=>hnone m (by rw[hl] at hm;exact hm),fun b hb o hS=> ?_⟩;rw[hl];rcases hS with hS|hS
    .exact absurd hS (hseal b hb o)
    .exact hS.2
   .exact L8 (hr.heap.blk i' b h1) le rfl rfl (fun _ _ _=>⟨rfl,rfl⟩) (fun _ _=>rfl) (fun bb o ho hS=>by
     rcases hS with hS|hS
     .exact hS
     .exact absurd (hown2 bb hS.1 o) (fun h5=>hr.heap.dis i' k b _ bb o hne h1 hk ho h5)) (fun _ _ _ _ h=>h)
  .obtain⟨c1,k1,k2⟩:=howns i' bi b o h1 o1;obtain⟨c2,k3,k4⟩:=howns j bj b o h2 o2;exact hr.heap.dis i' j c1 c2 b o hij k1 k3 k2 k4
  .rcases hS with hS|hS
   .exact hr.heap.sl b o hS
   .exact NH hown hS.1
 have hgood:tM A L g0 w0 g' w H':=by
  refine⟨fun b o h0=>⟨.inl (hg.shut b o h0).1,(hg.shut b o h0).2⟩,⟨hg.fr.os,hg.fr.tape,hg.fr.output,hg.fr.size,hg.fr.blk,hg.fr.cell,fun b o hS=> ?_,hg.fr.shape⟩,fun i' b bb o hb ho=> ?_,hg.J,hg.live,fun i' u' y us hi' hb=> ?_,hg.cur⟩
  .rcases hS with hS|hS
   .exact hg.fr.new b o hS
   .exact .inr (hg.perm k _ b o hk (hown2 b hS.1 o))
  .obtain⟨c1,k1,k2⟩:=howns i' b bb o hb ho;exact hg.perm i' c1 bb o k1 k2
  .rcases hget i' _ hb with⟨rfl,_⟩ |⟨_,h1⟩ |⟨_,_,h1⟩
   .omega
   .cases h1
   .exact hg.ty i' u' y us hi' h1
 exact h ro hro A L g0 w0 g' a w B hB hrel hgood hn
theorem aMl {P:Program}{c:Code}{s:St}{Q:Ex->St->Prop}(k i:Nat) {e:TypeId}{t:Ty}{l:List t.den}{n:Nat}(hk:qM s.H k=some (.row e t l n)) {u:Ty}{x:u.den}{toks:pO}(hi:qM s.H i=some (.cells u x toks)) (hnp:s.np<=i)
  (hok:RB k n s.env) (hxo:QB k n u x) {u':Ty}{y':u'.den}(hz:BO k t l u x=⟨u',y'⟩)
  (h:Ev R P c ⟨JA k t l s.env,(i,.cells u' y' [])::(k,.grow e t.cells (List.length l))::s.H,s.nb,s.N,s.np⟩ Q):Ev R P c s Q:=
 aMk k i hk hi hnp hok hxo (by rw[hz];exact h)
def iter {σ ρ:Type}(f:σ->Option (σ⊕ρ)):Nat->σ->Option ρ
 |0,_=>none
 |n+1,x=>match f x with
  |none=>none
  |some (.inl y)=>iter f n y
  |some (.inr r)=>some r
theorem aCW {σ ρ:Type}{f:σ->Option (σ⊕ρ)}{r:ρ}: ∀{n:Nat}{x:σ},iter f n x=some r->iter f (n+1) x=some r
 |0,_,h=>by cases h
 |n+1,x,h=>by
  unfold iter at h|-;split
  .rename_i e;rw[e] at h;cases h
  .rename_i y e;rw[e] at h;exact aCW h
  .rename_i r' e;rw[e] at h;exact h
theorem a1s {σ ρ:Type}{f:σ->Option (σ⊕ρ)}{r:ρ}{n:Nat}{x:σ}(h:iter f n x=some r): ∀m,iter f (n+m) x=some r
 |0=>h
 |m+1=>aCW (a1s h m)
theorem aCX {σ ρ:Type}{f:σ->Option (σ⊕ρ)}{r r':ρ}{n m:Nat}{x:σ}(h:iter f n x=some r) (h':iter f m x=some r'):r=r':=by
 have h1:=a1s h m;have h2:=a1s h' n;rw[Nat.add_comm] at h2;exact aVe (h1.symm.trans h2)
noncomputable def RC {σ ρ:Type}(f:σ->Option (σ⊕ρ)) (x:σ):Option ρ:=open Classical in if h: ∃n r,iter f n x=some r then some (Classical.choose (aWP h)) else none
def aMm {ρ:Type}:Option ρ->Option ρ->Option ρ
 |some r,_=>some r
 |none,r=>r
noncomputable def rE {σ ρ:Type}(f:σ->Option (σ⊕ρ)) (x:σ):Option ρ:=aMm (iter f 2000 x) (RC f x)
theorem aMn {σ ρ:Type}{f:σ->Option (σ⊕ρ)}{x:σ}{r:ρ}{n:Nat}(h:iter f n x=some r):RC f x=some r:=by
 have hx: ∃n r,iter f n x=some r:=⟨n,r,h⟩;unfold RC;rw[aXm hx,aCX h (aWP (aWP hx))]
theorem a1t {σ ρ:Type}{f:σ->Option (σ⊕ρ)}{x:σ}{r:ρ}{n:Nat}(h:iter f n x=some r):rE f x=some r:=by
 unfold rE;cases hi:iter f 2000 x with
 |some r'=>rw[aCX h hi];rfl
 |none=>exact aMn h
theorem W6 {σ ρ:Type}{f:σ->Option (σ⊕ρ)}{x:σ}{r:ρ}(h:rE f x=some r): ∃n,iter f n x=some r:=by
 unfold rE at h;cases hi:iter f 2000 x with
 |some r'=>
  rw[hi] at h;cases h;exact⟨_,hi⟩
 |none=>
  rw[hi] at h;have h:RC f x=some r:=h;unfold RC at h;split at h
  .rename_i hx;have:=aWP (aWP hx);rw[aVe h] at this;exact⟨_,this⟩
  .cases h
attribute [irreducible] rE
theorem HR {σ ρ:Type}{f:σ->Option (σ⊕ρ)}{x y:σ}(h:f x=some (.inl y)):rE f x=rE f y:=by
 cases hy:rE f y with
 |some r=>
  obtain⟨n,hn⟩:=W6 hy;exact a1t (n:=n+1) (by unfold iter;rw[h];exact hn)
 |none=>
  cases hx:rE f x with
  |none=>rfl
  |some r=>
   obtain⟨n,hn⟩:=W6 hx;cases n with
   |zero=>cases hn
   |succ n=>
    unfold iter at hn;rw[h] at hn;rw[a1t hn] at hy;cases hy
theorem wW {σ ρ:Type}{f:σ->Option (σ⊕ρ)}{x:σ}{r:ρ}(h:f x=some (.inr r)):rE f x=some r:=a1t (n:=1) (by unfold iter;rw[h])
def Nxt {σ ρ:Type}(f:σ->Option (σ⊕ρ)) (y:ρ) (n:Nat):σ⊕ρ->Prop
 | .inl x=>iter f n x=some y
 | .inr r=>r=y
def qL {σ ρ:Type}(enc:σ->St) (f:σ->Option (σ⊕ρ)) (y:ρ) (n:Nat) (Q:Ex->St->Prop):Ex->St->Prop
 | .normal,s=> ∃(k:wM) (x:σ),s.keep k=enc x/\iter f n x=some y
 | .exit j,s=>Q (.exit j) s
 | .ret,s=>Q .ret s
theorem aMp {P:Program}{c:Code}{s:St}{Q:Ex->St->Prop}(I:Nat->St->Prop) (h0: ∃(k:wM) (n:Nat),I n (s.keep k))
  (h: ∀n s,I n s->Ev R P c s (fun e s'=>match e with| .normal=> ∃(k:wM) (m:Nat),m<n/\I m (s'.keep k) |e=>Q e s')):Ev R P (.loop c) s Q:=by
 intro ro hro A L g0 w0 g a w B hB hr hg hn;obtain⟨k,n0,h0⟩:=h0;obtain⟨g1,k1,k2,k3,_⟩:=HN hr hg hn k
 let R:Act->pU->Nat->Prop:=fun a w n=> ∃g s,I n s/\vK B g w s a/\tM A L g0 w0 g w s.H/\s.np=L.length
 refine wpIn_loop (fun a w=> ∃n,R a w n) (fun a w=>R7 (R a w)) ⟨_,g1,s.keep k,h0,k1,k2,k3⟩ (fun a w hI=> ?_);obtain⟨⟨g2,s2,i1,i3,i4,i5⟩,_⟩:=VY hI;refine aWT (h _ s2 i1 ro hro A L g0 w0 g2 a w B hB i3 i4 i5) fun e a' w' hp=> ?_;obtain⟨e',g',s',h1,h2,h3,h4,h5⟩:=hp;cases e<;>simp only[E9,aU9] at h1
 case normal=>
  subst h1;obtain⟨k',m,j1,j2⟩:=h2;obtain⟨g3,l1,l2,l3,_⟩:=HN h3 h4 h5 k';have hR:R a' w' m:=⟨g3,s'.keep k',j2,l1,l2,l3⟩;exact⟨⟨_,hR⟩,Nat.lt_of_le_of_lt ((VY ⟨_,hR⟩).2 _ hR) j1⟩
 case exit id=>subst h1;exact⟨.exit id,g',s',rfl,h2,h3,h4,h5⟩
 case ret=>subst h1;exact⟨.ret,g',s',rfl,h2,h3,h4,h5⟩
 all_goals cases h1
theorem uR {P:Program}{c:Code}{s:St}{Q:Ex->St->Prop}{σ ρ:Type}{f:σ->Option (σ⊕ρ)}{x0:σ}{y:ρ}(hy:rE f x0=some y) (enc:σ->St) (k:wM) (h0:s.keep k=enc x0)
  (round: ∀x w n,f x=some w->Nxt f y n w->Ev R P c (enc x) (qL enc f y n Q)):Ev R P (.loop c) s Q:=by
 obtain⟨n,hn⟩:=W6 hy;refine aMp (fun n s=> ∃x,s=enc x/\iter f n x=some y) ⟨k,n,x0,h0,hn⟩ fun n s ⟨x,e,hx⟩=> ?_;subst e;cases n with
 |zero=>cases hx
 |succ n=>
  unfold iter at hx;refine aMf (Q':=qL enc f y n Q) ?_ (fun e s' hq=> ?_)
  .split at hx
   .cases hx
   .rename_i x' e;exact round x _ n e hx
   .rename_i r e;exact round x _ n e (aVe hx)
  .cases e with
   |normal=>obtain⟨k,x',h1,h2⟩:=hq;exact⟨k,n,pJ,x',h1,h2⟩
   |exit j=>exact hq
   |ret=>exact hq
def qX (j:Nat) (X:St->Prop) (Q:Ex->St->Prop):Ex->St->Prop
 | .normal,s=>Q .normal s
 | .exit i,s=>if i=j then∃k:wM,X (s.keep k) else Q (.exit i) s
 | .ret,s=>Q .ret s
theorem uS {P:Program}{c:Code}{s:St}{Q:Ex->St->Prop}(j:Nat) (X:St->Prop) (h:Ev R P c s (qX j X Q)) (J: ∀s',X s'->Q (.exit j) s'):Ev R P c s Q:=by
 intro ro hro A L g0 w0 g a w B hB hr hg hn;refine aWT (h ro hro A L g0 w0 g a w B hB hr hg hn) fun x a' w' hp=> ?_;obtain⟨e,g',s',h1,h2,h3,h4,h5⟩:=hp;cases e with
 |normal=>exact⟨.normal,g',s',h1,h2,h3,h4,h5⟩
 |ret=>exact⟨.ret,g',s',h1,h2,h3,h4,h5⟩
 |exit i=>
  have h2:(if i=j then∃k:wM,X (s'.keep k) else Q (.exit i) s'):=h2;by_cases hij:i=j
  .rw[aU8 hij] at h2;obtain⟨k,hk⟩:=h2;obtain⟨g1,k1,k2,k3,_⟩:=HN h3 h4 h5 k;exact⟨.exit i,g1,s'.keep k,h1,by rw[hij];exact J _ hk,k1,k2,k3⟩
  .rw[aVa hij] at h2;exact⟨.exit i,g',s',h1,h2,h3,h4,h5⟩
section
variable {Q:Ex->St->Prop}{s:St}{j i:Nat}{X:St->Prop}{σ ρ:Type}{enc:σ->St}{f:σ->Option (σ⊕ρ)}{y:ρ}{n:Nat}
theorem wE (h:Q .ret s):qX j X Q .ret s:=h
theorem uG (h: ∃k:wM,X (s.keep k)):qX j X Q (.exit j) s:=by show (if j=j then _ else _);rw[aU8 rfl];exact h
theorem tI (h: ∃(k:wM) (x:σ),s.keep k=enc x/\iter f n x=some y):qL enc f y n Q .normal s:=h
theorem uH (h:Q (.exit j) s):qL enc f y n Q (.exit j) s:=h
theorem wF (h:Q .ret s):qL enc f y n Q .ret s:=h
end
def qN (X:St->Prop) (Q:Ex->St->Prop):Ex->St->Prop
 | .normal,s=> ∃k:wM,X (s.keep k)
 | .exit j,s=>Q (.exit j) s
 | .ret,s=>Q .ret s
theorem DA {P:Program}{c:Code}{s:St}{Q:Ex->St->Prop}(X:St->Prop) (h:Ev R P c s (qN X Q)) (J: ∀s',X s'->Q .normal s'):Ev R P c s Q:=by
 intro ro hro A L g0 w0 g a w B hB hr hg hn;refine aWT (h ro hro A L g0 w0 g a w B hB hr hg hn) fun x a' w' hp=> ?_;obtain⟨e,g',s',h1,h2,h3,h4,h5⟩:=hp;cases e with
 |exit j=>exact⟨.exit j,g',s',h1,h2,h3,h4,h5⟩
 |ret=>exact⟨.ret,g',s',h1,h2,h3,h4,h5⟩
 |normal=>
  obtain⟨k,hk⟩:=h2;obtain⟨g1,k1,k2,k3,_⟩:=HN h3 h4 h5 k;exact⟨.normal,g1,s'.keep k,h1,J _ hk,k1,k2,k3⟩
section
variable {Q:Ex->St->Prop}{s:St}{j:Nat}{X:St->Prop}
theorem vO (h: ∃k:wM,X (s.keep k)):qN X Q .normal s:=h
theorem aCY (h:Q .ret s):qN X Q .ret s:=h
end
def val {ρ:Type}[Inhabited ρ] (x:Option ρ):ρ:=x.getD default
theorem s9 {ρ:Type}[Inhabited ρ] {x:Option ρ}{y:ρ}(h:x=some y):val x=y:=by rw[h];rfl
theorem rG {ρ:Type}{x:Option ρ}{y:ρ}(h:x=some y):x.isSome=true:=by rw[h];rfl
theorem qP {ρ:Type}{c:Prop}[Decidable c] {x:Option ρ}{r:ρ}(h:(if c then x else none)=some r):c/\x=some r:=by
 by_cases hc:c
 .rw[aU8 hc] at h;exact⟨hc,h⟩
 .rw[aVa hc] at h;cases h
theorem qK {σ ρ:Type}{x:Option σ}{k:σ->Option ρ}{r:ρ}(h:x.bind k=some r): ∃y,x=some y/\k y=some r:=by
 cases x with
 |none=>cases h
 |some y=>exact⟨y,rfl,h⟩
theorem aMq {ρ:Type}{b:Bool}{x y:ρ}{r:ρ}(h:(if b=true then x else y)=r) (hb:b=true):x=r:=by rw[aU8 hb] at h;exact h
theorem aMr {ρ:Type}{b:Bool}{x y:ρ}{r:ρ}(h:(if b=true then x else y)=r) (hb:b=false):y=r:=by rw[hb,aVa pK] at h;exact h
def sZ {σ ρ:Type}(x:Option (σ⊕ρ)) (k:σ->Option ρ):Option ρ:=x.bind fun y=>match y with
 | .inl v=>k v
 | .inr r=>some r
theorem wG {σ ρ:Type}{x:Option (σ⊕ρ)}{k:σ->Option ρ}{r:ρ}(h:sZ x k=some r): ∃y,x=some y/\(match y with| .inl v=>k v| .inr r=>some r)=some r:=qK h
def sB {σ ρ:Type}(x:Option σ) (k:σ->Option ρ):Option ρ:=x.bind k
def sH {σ ρ:Type}(x:σ) (k:σ->ρ):ρ:=k x
theorem aMs {σ ρ:Type}{x:σ}{k:σ->ρ}{r:ρ}(h:sH x k=r):k x=r:=h
theorem xD {σ ρ:Type}{x:σ}{k:σ->ρ}{r:ρ}(h:sH x k=r): ∃y,x=y/\k y=r:=⟨x,rfl,h⟩
theorem sL {x:Bool}(h:x=true):(x==true)=true:=by rw[h];rfl
theorem GA {G x:Bool}(hG:G=true) (h:x=true):(G&&(x==true))=true:=by rw[hG,h];rfl
theorem HS {G x:Bool}(hG:G=true) (h:x=false):(G&&(x==false))=true:=by rw[hG,h];rfl
theorem u6 {x:Bool}(h:x=false):(x==false)=true:=by rw[h];rfl
section
variable {P:Program}{T:sX}{Γ:uW}(E:rL P T Γ) {s:St}{Q:Ex->St->Prop}
include E
theorem aCZ {id:Nat}{ops:Array Oper}{a:wK}(h:wL T Γ ops.toList ops.toList (some ⟨s,[],[]⟩)=some a) (hp:rO a.side) (hq:Q .normal a.s):Ev R P (.region id ops false) s Q:=
 aCT E.T E.Γ E.m (aKh h hp hq)
theorem aC0 {id:Nat}{ops:Array Oper}{a:wK}(h:wL T Γ ops.toList ops.toList (some ⟨s,[],[]⟩)=some a) (hf:G5 ops s.nb a.es.reverse=true) (hp:rO a.side) (hq:Q .normal a.s):Ev R P (.region id ops true) s Q:=
 aCT E.T E.Γ E.m (aKi h hf hp hq)
end
end Go.Proofs.YtbbpilohihldiaaGreatDoor.Vc
namespace Go.Proofs.YtbbpilohihldiaaGreatDoor.Vc
open Go.RowKit
variable {R:Bool}
attribute [go_sem] Option.map_some Option.map_none
@[go_sem] theorem aTd {H:List (Nat×qH)}{ps:List PK}{b:List qI}{a:Option tH}:xZ H ps ([]++b) a=xZ H ps b a:=rfl
@[go_sem] theorem aTe {H:List (Nat×qH)}{ps:List PK}{x:qI}{l b:List qI}{a:Option tH}:xZ H ps ((x::l)++b) a=xZ H ps (x::(l++b)) a:=rfl
@[go_sem] def aC1:Option qI->Option (List qI)->Option (List qI)
 |some s,some l=>some (s::l)
 |_,_=>none
@[go_sem] def aC2:Option qT->Option qI
 |some e=>some e.slot
 |none=>none
@[go_sem] def W7 (H:List (Nat×qH)):Option TI->qI->Option qT
 |some ti,(.val .ref (some (i,off)),_)=>Q9 ti.ty i off (qM H i)
 |_,_=>none
@[go_sem] def RD (T:sX) (s:St) (m:pO):Nat×Option TypeId->Option qI
 |(t,none)=>some (AR m (lk s.env t))
 |(t,some ty)=>(aC2 (W7 s.H (s8 T ty) (lk s.env t))).map (AR m)
@[go_sem] def JB (T:sX) (s:St) (m:pO):List (Nat×Option TypeId)->Option (List qI)
 |[]=>some []
 |q::r=>aC1 (RD T s m q) (JB T s m r)
def EA:Nat×Option TypeId->ResultVar
 |(t,none)=> .tmp t
 |(t,some ty)=> .cell t ty
@[go_sem] def F7:Nat->Nat->List (Nat×qH)->List (Nat×qH)
 |0,_,H=>H
 |n+1,i,[]=>(i,.dead)::F7 n (i+1) []
 |n+1,i,(j,b)::H=>if j=i then(j,b)::F7 n (i+1) H else(i,.dead)::F7 n (i+1) ((j,b)::H)
theorem LI: ∀{n i:Nat}{H:List (Nat×qH)}{k:Nat}{b:qH},qM (F7 n i H) k=some b->qM H k=some b\/b= .dead
 |0,_,_,_,_,h=> .inl h
 |n+1,i,[],k,b,h=>by
  simp only[F7,qM] at h;split at h
  .exact .inr (aVe h).symm
  .exact LI h
 |n+1,i,(j,c)::H,k,b,h=>by
  unfold F7 at h;split at h
  .simp only[qM] at h|-;split at h
   .rename_i e;rw[aU8 e];exact .inl h
   .rename_i e;rw[aVa e];exact LI h
  .simp only[qM] at h;split at h
   .exact .inr (aVe h).symm
   .exact LI h
theorem sK.pad {g:Gh}{w:pU}{H:sD}(h:sK g w H) (n i:Nat):sK g w (F7 n i H):=by
 have own: ∀{k blk b o},qM (F7 n i H) k=some blk->sE g k blk b o->qM H k=some blk:=fun hg ho=>by
  rcases LI hg with h1|h1
  .exact h1
  .subst h1;exact ho.elim
 refine⟨fun k b hb=> ?_,fun i j bi bj b o hij h1 h2 o1 o2=>h.dis i j bi bj b o hij (own h1 o1) (own h2 o2) o1 o2,h.sl,h.tab.1,fun k blk b o h1 h2=>h.tab.2 k blk b o (own h1 h2) h2⟩;rcases LI hb with h1|h1
 .exact h.blk k b h1
 .subst h1;trivial
theorem tM.pad {A:Nat->Nat->Prop}{L:List qH}{g0 g:Gh}{w0 w:pU}{H:sD}(h:tM A L g0 w0 g w H) (n i:Nat):tM A L g0 w0 g w (F7 n i H):=by
 refine⟨h.shut,h.fr,fun k blk b o hg ho=> ?_,h.J,h.live,fun k u y us hk hg=> ?_,h.cur⟩
 .rcases LI hg with h1|h1
  .exact h.perm k blk b o h1 ho
  .subst h1;exact ho.elim
 .rcases LI hg with h1|h1
  .exact h.ty k u y us hk h1
  .cases h1
def aC3 (T:sX) (ts:List (Nat×Option TypeId)) (r:qQ):Ex->St->Prop
 | .exit _,_=>False
 |_,s=> ∃m:pO,y5 s.np m=true/\F7 (rF r.H) 0 (s.keep ⟨[],m⟩).H=qW 0 r.H/\JB T s m ts=some r.ret
section
variable {P:Program}{o:Oper}{a:Act}{g:Gh}{w:pU}{H:sD}{T:sX}(hT:xQ P T) (hH:sK g w H)
include hT hH
theorem aMt {t:TypeId}{vx:pV}{sx:qI}(hx:s3 g w sx vx) {e:qT}(hr:W7 H (s8 T t) sx=some e): ∃ad v,vx= .pointer (some ad)/\(loadVar t ad).run P w= .ok v w/\s3 g w e.slot v:=by
 generalize hs:s8 T t=ot at hr;replace hx:=hx.1;unfold W7 at hr;split at hr
 .rename_i ti i off k;have hty:=tK hT hs;generalize hb:qM H i=ob at hr;unfold Q9 at hr;split at hr
  .rename_i u z toks;generalize hga:rN ti.ty u z off=oy at hr;cases oy with
   |none=>cases hr
   |some y=>
    cases hr;obtain⟨p,hp,hv⟩:=A0 hx;obtain⟨p',cs,hp',hR,hra,_,_,htk⟩:=hH.blk i _ hb;rw[hp] at hp';obtain rfl:=aVe hp';obtain⟨c1,c2,c3,rfl,rfl,hR2⟩:=F0 hR hga;obtain⟨v,h1,h2,h3⟩:=QU hT hH hty (NJ hT hH hra) hR2;refine⟨_,v,hv,by simpa[Instr.loadAt,Instr.sureAddr] using h1,h2,?_⟩;obtain⟨ty,el,by',ar,ls⟩:=ti;cases ty with
    |list u'=>
     simp only[H8];generalize htt:xO toks c1.length=ok;cases ok with
     |none=>trivial
     |some k=>
      obtain⟨u2,l,v',g1,g2,g3⟩:=htk _ _ (a0D hT hH htt);obtain⟨heq,hl⟩:=aA6 hT hH g1 hga rfl;injection heq with heq'
      subst heq';have hlen:=sY hR2;obtain⟨v2,rfl⟩:=aWA.1 hlen;have e2:v'=v2:=by
       have e:(c1++[v2]++c3)[c1.length]? =some v2:=by simp
       rw[e] at g2;exact(aVe g2).symm
      have e3:v=v2:=by
       have h4:=CD rfl h2;have hone:=BP h4 v pL;have:v.cells= #[v]:=by cases v<;>first|rfl|(simp [Value.oneCell'] at hone)
       rw[this] at h3;simpa using h3
      subst e2;subst e3;have e4:(y:List u'.den)=l:=hl;subst e4;exact g3
    |_=>trivial
  .cases hr
 .cases hr
end
def LJ (tmps:Array pV) (q:Nat×Option TypeId):Sem pV:=match EA q with
 | .tmp t=>pure (tmps.getD t undef)
 | .cell a t=>do loadVar t (<-asAddr (tmps.getD a undef))
theorem aC4 {P:Program}{T:sX}(hT:xQ P T) {B:Nat}{g:Gh}{w:pU}{s:St}{a:Act}{m:pO}(hk:y5 s.np m=true) (hr:vK B g w s a): ∀{ts:List (Nat×Option TypeId)}{l:List qI},JB T s m ts=some l->
  ∃vs:pQ,(ts.mapM (LJ a.tmps)).run P w= .ok vs w/\vV (v7 g s.np m) w l vs
 |[],l,h=>by
  simp only[JB,aU9] at h;subst h;exact⟨[],by simp,rfl⟩
 |q::ts,l,h=>by
  simp only[JB] at h;obtain⟨s1,l1,e1,e2,rfl⟩: ∃s1 l1,RD T s m q=some s1/\JB T s m ts=some l1/\l=s1::l1:=by
   cases h1:RD T s m q<;>cases h2:JB T s m ts<;>rw[h1,h2] at h<;>simp [aC1] at h
   exact⟨_,_,rfl,rfl,h.symm⟩
  obtain⟨vs,v1,v2⟩:=aC4 hT hk hr e2;obtain⟨v,w1,w2⟩: ∃v,(LJ a.tmps q).run P w= .ok v w/\s3 (v7 g s.np m) w s1 v:=by
   obtain⟨t,oty⟩:=q;cases oty with
   |none=>
    simp only[RD,aU9] at e1;subst e1;exact⟨_,by simp [LJ,EA],VU hk (hr.env t)⟩
   |some ty=>
    simp only[RD] at e1;cases he:W7 s.H (s8 T ty) (lk s.env t) with
    |none=>rw[he] at e1;cases e1
    |some e=>
     rw[he] at e1;simp only[aC2,Option.map_some,aU9] at e1;subst e1;obtain⟨ad,v,hv,hl,hs⟩:=aMt hT hr.heap (hr.env t) he;exact⟨v,by simp only[LJ,EA,hv,asAddr,aVn,aVC,aVk,hl],VU hk hs⟩
  exact⟨v::vs,by simp only[List.mapM_cons,aVn,w1,aVk,v1,aVC],v,vs,rfl,w2,v2⟩
def NU (tmps:Array pV):ResultVar->Sem pV
 | .tmp t=>pure (tmps.getD t undef)
 | .cell a t=>do loadVar t (<-asAddr (tmps.getD a undef))
theorem aMu {P:Program}{fn:Func}{w:pU}{tmps:Array pV}{ts:List (Nat×Option TypeId)}(h:fn.results.toList=ts.map EA) {vs:pQ}(hv:(ts.mapM (LJ tmps)).run P w= .ok vs w):(results fn tmps).run P w= .ok (a1n vs) w:=by
 obtain⟨rs,hrs⟩: ∃rs,fn.results=⟨rs⟩:=⟨fn.results.toList,rfl⟩;have hm:rs=ts.map EA:=by rw[hrs] at h;exact h
 have key:Sem.run P (((ts.map EA).toArray).mapM (NU tmps)) w=Result.ok vs.toArray w:=by
  rw[List.mapM_toArray,List.mapM_map];have e:NU tmps∘EA=LJ tmps:=by
   funext q;obtain⟨t,o⟩:=q;cases o<;>rfl
  have e2:(fun q=>NU tmps (EA q))=LJ tmps:=e;show Sem.run P (List.mapM (fun q=>NU tmps (EA q)) ts>>=fun l=>pure l.toArray) w=_;rw[e2,aVn,hv];rfl
 have hu:results fn tmps=(fn.results.mapM (NU tmps) >>=fun vs=>pure (if h:vs.size=1 then vs[0] else .tuple vs)):=by
  unfold results;congr 2
 rw[hu,hrs,hm,aVn];have key2:Sem.run P (Array.mapM (NU tmps) (⟨ts.map EA⟩:Array ResultVar)) w=Result.ok vs.toArray w:=key;rw[key2];simp only[aVk,aVC]
 match vs with
 |[]=>rfl
 |[v]=>rfl
 |v::u::l=>simp [a1n]
theorem aMv {P:Program}{T:sX}(hT:xQ P T) {f:FuncId}{fn:Func}{c:Code}{C:List qI->List qH->Option qQ}{ts:List (Nat×Option TypeId)}(hf:P.funcs[f]? =some fn) (hb:fn.body=some c) {N:Nat}(hN:fn.ntmps=N)
  (hcall: ∀args w,(callFunc f args).run P w= .ok (.enter f args) w) (hres:fn.results.toList=ts.map EA)
  (h: ∀args L r,C args L=some r->(∀p∈r.side,p)->rS L->args.length<=N/\R9 (vX 0 L) args/\RA (vX 0 L) L/\Ev false P c ⟨rQ 0 args,qW 0 L,rF L,N,rF L⟩ (aC3 T ts r)):AX P f C:=by
 subst hN;refine⟨hcall,fun g w args vals L r hH ha hC hs=> ?_⟩;obtain⟨h1,h2,h3,h4⟩:=h args L r hC hs (aCN fun i b hb=>⟨i,hH.blk i b (by rw[yH];exact hb)⟩);obtain⟨hr,hent⟩:=a1o hH ha h2 h3 h1;have hsub: ∀b o,A9 (v7 g 0 (vX 0 L)) (qW 0 L) b o->A9 g (qW 0 L) b o:=fun b o ⟨i,blk,hg,ho⟩=>⟨i,blk,hg,(hent i blk (by rw[<-yH];exact hg)).2.2 b o ho⟩;have hgood:tM (A9 (v7 g 0 (vX 0 L)) (qW 0 L)) L (v7 g 0 (vX 0 L)) w (v7 g 0 (vX 0 L)) w (qW 0 L):=by
  refine⟨fun b o h=>⟨h,rfl⟩,Fr.refl _ _ _,fun i blk b o hg ho=> .inr ⟨i,blk,hg,ho⟩,fun _ _ _ h=>h,fun i hi=> ?_,fun i u y us _ hg=>⟨y,us,by rw[<-yH];exact hg⟩,fun _ _ _ _ h=>h⟩;have hL:L[i]? =some L[i]:=by simp
  obtain⟨_,hbk,_⟩:=hent i L[i] hL;have hnd:=(LH h3 L[i] (aV9 hi)).2;generalize L[i]=blk at hbk hnd;cases blk with
  |cells t x ts=>obtain⟨p,cs,hp,_⟩:=hbk;exact .inl ⟨p,hp⟩
  |grow e c n=>obtain⟨v,xs,hv,_⟩:=hbk;exact .inr ⟨n,v,hv⟩
  |row e t l n=>obtain⟨_,v,xs,hv,_⟩:=hbk;exact .inr ⟨n,v,hv⟩
  |map k v l=>obtain⟨p,es,cl,hp,_⟩:=hbk;exact .inl ⟨p,hp⟩
  |iter s n=>obtain⟨p,hp,_⟩:=hbk;exact .inl ⟨p,hp⟩
  |dead=>exact absurd rfl hnd
 refine callsIn_wide.1 (callsIn_of_wp_marks (F:=Fence.wide) (n:=0) hf hb trivial (aWT (h4 none rfl _ _ _ _ _ _ _ _ (aVp _) hr hgood (W4 L)) fun x a' w' hp=> ?_) rfl);obtain⟨e,g',s',e1,e2,e3,e4,e5⟩:=hp;have vN: ∀m:pO,y5 s'.np m=true->F7 (rF r.H) 0 (s'.keep ⟨[],m⟩).H=qW 0 r.H->JB T s' m ts=some r.ret->LeavesInM Fence.wide 0 P fn a'.tmps (fun e w'=> ∃v' g',e= .returned v'/\LC g w L r g' w' v') a'.defers .returning w':=by
  intro m hk k1 k2;refine aCS a'.defers w' e3 e4 (fun w1 e3 e4=> ?_);obtain⟨l1,l2,l3,_⟩:=a08 e3 e4 e5 ⟨[],m⟩ hk;replace l2:=l2.pad (rF r.H) 0;rw[k1] at l2;obtain⟨vs,q1,q2⟩:=aC4 hT hk e3 k2;have q3:=aMu (P:=P) (w:=w1) (tmps:=a'.tmps) hres q1;refine⟨_,q3,_,_,rfl,⟨fun b o hb=>l2.shut b o hb,by rw[<-k1];exact l1.heap.pad _ _,?_,?_,fun i blk b o hi ho=> ?_,fun i t x us hi=> ?_,fun i t x us u y vs hi hr=> ?_,fun i p hi hp=>l2.J i p hi ((BQ VZ (NT.2 ⟨rfl,aVX _,pJ⟩)).1.trans hp),fun i n u hi hu=>l2.cur i n u hi ((congrFun (BQ VZ (NT.2 ⟨rfl,aVX _,pJ⟩)).2 n).trans hu)⟩⟩
  .unfold QZ;split
   .rename_i s hs;rw[hs] at q2;obtain⟨v,vs',hv,h5,h6⟩:=q2;rw[hv,show vs'=[] from h6];exact h5
   .rename_i hne;refine⟨_,?_,q2⟩;unfold a1n;split
    .rename_i v hv;exfalso;have:=(W3 q2).1;cases hq:r.ret with
     |nil=>rw[hq] at this;simp at this
     |cons s l=>cases l with
      |nil=>exact hne s hq
      |cons _ _=>rw[hq] at this;simp at this
    .rfl
  .exact⟨l2.fr.os,l2.fr.tape,l2.fr.output,l2.fr.size,fun b hb hA=>l2.fr.blk b hb (fun o ho=>hA o (hsub b o ho)),fun b o hb hA=>l2.fr.cell b o hb (fun ho=>hA (hsub b o ho)),fun b o hS=>(l2.fr.new b o hS).imp id (Or.imp id (hsub b o)),fun b s hs=>(l2.fr.shape b s hs).imp id fun h o=>hsub b o (h o)⟩
  .exact(l2.perm i blk b o (by rw[yH];exact hi) ho).imp id (hsub b o)
  .obtain⟨j1,⟨p,cs,j2,_⟩,_⟩:=hent i _ hi;have hil:i<L.length:=(aVq.1 hi).1;rw[l2.J i p hil j2,<-j1,j2]
  .have hil:i<L.length:=(aVq.1 hi).1;obtain⟨x',ts',h5⟩:=l2.ty i u y vs hil (by rw[yH];exact hr);rw[hi] at h5;simp only[aU9,qH.cells.injEq] at h5;exact h5.1.symm
 cases x<;>simp only[E9,aU9] at e1
 case normal=>subst e1;obtain⟨k,k0,k1,k2⟩:=e2;exact vN k k0 k1 k2
 case ret=>subst e1;obtain⟨k,k0,k1,k2⟩:=e2;exact vN k k0 k1 k2
 case exit id=>subst e1;exact e2.elim
 all_goals cases e1
open Classical in
noncomputable def rT {V:Type}(p:V->List qI) (q:V->List qH) (R:V->qQ) (a:List qI) (L:List qH):Option qQ:=
 if h: ∃v,p v=a/\q v=L then some (R h.choose) else none
theorem aMw {V:Type}{p:V->List qI}{q:V->List qH}{R:V->qQ}{a:List qI}{L:List qH}{r:qQ}(h:rT p q R a L=some r): ∃v,p v=a/\q v=L/\R v=r:=by
 unfold rT at h;split at h
 .rename_i e;exact⟨e.choose,e.choose_spec.1,e.choose_spec.2,aVe h⟩
 .cases h
theorem rV {V:Type}{p:V->List qI}{q:V->List qH}{R:V->qQ}(inj: ∀v v',p v=p v'->q v=q v'->v=v') (v:V):rT p q R (p v) (q v)=some (R v):=by
 have h: ∃u,p u=p v/\q u=q v:=⟨v,rfl,rfl⟩;unfold rT;rw[aXm h,inj _ v h.choose_spec.1 h.choose_spec.2]
theorem aC5: ∀{l:List Prop},(∀p∈l,p)->rO l
 |[],_=>trivial
 |[p],h=>h p pL
 |p::q::r,h=>⟨h p pL,aC5 (l:=q::r) fun x hx=>h x (aVr _ hx)⟩
def rP (P:Program) (x:Nat×rI):Prop:=AX P x.1 x.2.C/\∀F,x.2.row=some F->VE P x.1 F
theorem rW {P:Program}{T:sX}{Γ:uW}(hE:rL P T Γ) {f:FuncId}{fn:Func}{c:Code}{V:Type}{p:V->List qI}{q:V->List qH}{R:V->qQ}{ps:List PK}{gs:List (Nat×Nat×PK)}{same:pT}{ts:List (Nat×Option TypeId)}(hf:P.funcs[f]? =some fn) (hb:fn.body=some c) {N:Nat}(hN:fn.ntmps=N)
  (hres:fn.results.toList=ts.map EA) (hcall: ∀args w,(callFunc f args).run P w= .ok (.enter f args) w)
  (h: ∀v,rO (R v).side->rS (q v)->Ev false P c ⟨rQ 0 (p v),qW 0 (q v),rF (q v),N,rF (q v)⟩ (aC3 T ts (R v)))
  (h1: ∀v,Nat.ble (p v).length N=true:=by intro _;rfl)
  (h2: ∀v,R9 (vX 0 (q v)) (p v):=by intro _;repeat (first|exact trivial|refine ⟨rfl,?_⟩))
  (h3: ∀v,RA (vX 0 (q v)) (q v):=by intro _;repeat (first|exact trivial|refine ⟨rfl,?_⟩)):rP P (f,⟨ps,rT p q R,gs,same,none⟩):=
 ⟨aMv hE.T hf hb hN hcall hres fun args L r hC hs hr=>by
  obtain⟨v,rfl,rfl,rfl⟩:=aMw hC;exact⟨aW1 (h1 v),h2 v,h3 v,h v (aC5 hs) hr⟩,fun _ h=>by cases h⟩
abbrev qJ (n:Int):Prop:= -9223372036854775808<=n/\n<=9223372036854775807
@[go_sem] def rK:List (Nat×rI)->uW
 |[],_=>none
 |(k,s)::r,f=>if k=f then some s else rK r f
theorem rX {P:Program}:F6 P (rK []):=fun _ _ h=>by cases h
theorem qU {P:Program}{x:Nat×rI}{r:List (Nat×rI)}(h:rP P x) (hr:F6 P (rK r)):F6 P (rK (x::r)):=fun f s hs=>by
 obtain⟨k,y⟩:=x;simp only[rK] at hs;split at hs
 .rename_i e;subst e;cases hs;exact h
 .exact hr f s hs
section
variable {P:Program}{T:sX}{Γ:uW}(E:rL P T Γ) {s:St}{Q:Ex->St->Prop}
include E
theorem qG {id:Nat}{ops:Array Oper}{a:wK}{y:Code}(hq:Ev R P y a.s Q) (h:wL T Γ ops.toList ops.toList (some ⟨s,[],[]⟩)=some a:=by simp only[go_sem];rfl) (hp:rO a.side:=by exact trivial):Ev R P (.seq (.region id ops false) y) s Q:=
 qZ (aCZ E h hp hq)
theorem xE {id:Nat}{ops:Array Oper}{a:wK}{y:Code}(hq:Ev R P y a.s Q) (h:wL T Γ ops.toList ops.toList (some ⟨s,[],[]⟩)=some a:=by simp only[go_sem];rfl) (hp:rO a.side:=by exact trivial) (hf:G5 ops s.nb a.es.reverse=true:=by kernel_rfl):Ev R P (.seq (.region id ops true) y) s Q:=
 qZ (aC0 E h hf hp hq)
theorem rY {id:Nat}{ops:Array Oper}{a:wK}(hq:Q .normal a.s) (h:wL T Γ ops.toList ops.toList (some ⟨s,[],[]⟩)=some a:=by simp only[go_sem];rfl) (hp:rO a.side:=by exact trivial):Ev R P (.region id ops false) s Q:=
 aCZ E h hp hq
theorem GB {id:Nat}{ops:Array Oper}{a:wK}(hq:Q .normal a.s) (h:wL T Γ ops.toList ops.toList (some ⟨s,[],[]⟩)=some a:=by simp only[go_sem];rfl) (hp:rO a.side:=by exact trivial) (hf:G5 ops s.nb a.es.reverse=true:=by kernel_rfl):Ev R P (.region id ops true) s Q:=
 aC0 E h hf hp hq
end
theorem qY {P:Program}{s:St}{Q:Ex->St->Prop}{c:Operand}{x y:Code}{b b':Bool}{k:pS}{ρ:Type}{X Y r:ρ}(hC:(if b'=true then X else Y)=r) (ht:X=r->b=true->Ev R P x s Q) (hf:Y=r->b=false->Ev R P y s Q)
  (h:uE s.env c=(.val .bool b,k):=by simp only[go_sem];rfl) (hb:b=b':=by first|rfl|simp):Ev R P (.cond c x y) s Q:=
 aMh h (fun e=>ht (aMq hC (hb▸e)) e) (fun e=>hf (aMr hC (hb▸e)) e)
theorem rH {σ ρ:Type}[Inhabited σ] {x:Option σ}{k:σ->Option ρ}{r:ρ}(h:x.bind k=some r): ∃y,x=some y/\val x=y/\k y=some r:=by
 obtain⟨y,h1,h2⟩:=qK h;exact⟨y,h1,s9 h1,h2⟩
attribute [go_sem] true_and and_true false_and and_false Nat.reduceMul List.nil_append List.cons_append List.append_nil List.toList_toArray Nat.reduceEqDiff reduceIte reduceDIte reduceCtorEq Nat.reduceAdd Nat.reduceSub Int.reduceToNat Nat.reduceLT Nat.reduceLeDiff decide_true decide_false Bool.and_self Bool.or_self Bool.or_false Bool.false_or Bool.and_true Bool.true_and Bool.not_true Bool.not_false
end Go.Proofs.YtbbpilohihldiaaGreatDoor.Vc
