/- Packed by a program of mine (wip/tools/pack.py): the same texts with short names and few blanks. -/
import Derived.ChangeKeysEq
import Derived.Laws.BytesArg
import Derived.Laws.StructEq
import Derived.Lib.AppendStr
import Derived.MapKept
import Derived.OrdersIn
import Derived.RangeFuncLeaves
import Derived.RangeFuncNested
import Derived.Scope
import Derived.WalkSpells
import Derived.Test.YtkpflnijijccpaaGreatDoorD000
set_option linter.defProp false
set_option linter.unusedVariables false
set_option linter.unusedSimpArgs false
set_option linter.unusedSectionVars false
set_option maxRecDepth 100000
set_option maxHeartbeats 4000000
namespace Go.Proofs.YtkpflnijijccpaaGreatDoor.Vc
open Go.RowKit
def A9:Ty->TypeDesc
 | .int k=> .int k
 | .str=> .string
 |_=> .bool
theorem a0v {P:Program}{t:TypeId}{ti:TI}(h:tQ P t ti) (hk:DU ti.ty=true):P.underlying t=some (A9 ti.ty):=by
 have h2:=h.2;unfold yJ at h2;obtain⟨ty,el,by',ar,ls⟩:=ti;cases ty<;>simp only[DU,aS0] at hk<;>exact h2
theorem aJj {g:Gh}{w:pQ}{k:Ty}(hk:DU k=true) {a x:k.den}{v u:pR}(ha:tO g w k a v) (hx:tO g w k x u):Instr.sameNow (A9 k) v u=some (GD k a x)/\(GD k a x=true->u=v):=by
 cases k with
 |int k=>
  rw[wM ha,wM hx];simp only[A9,Instr.sameNow,aSU,GD];refine⟨?_,fun h=> ?_⟩
  .congr 1
  .rw[aRU h]
 |str=>
  rw[wU ha,wU hx];simp only[A9,Instr.sameNow,GD];refine⟨?_,fun h=> ?_⟩
  .congr 1;rw[aTe,MapKept.bytes_beq,aRG];constructor
   .intro h;have:=aRx (fun z:ByteArray=>z.data.toList) h;simpa using this
   .intro h;rw[h]
  .rw[aRU h]
 |bool=>
  rw[vY ha,vY hx];simp only[A9,Instr.sameNow,GD];refine⟨trivial,fun h=> ?_⟩;rw[beq_iff_eq.1 h]
 |_=>simp [DU] at hk
theorem a0w {g:Gh}{w:pQ}{k v:Ty}(hk:DU k=true) {a:k.den}{key:pR}(ha:tO g w k a key): ∀{l:List (k.den×v.den)}{es:List MapEntry}(i:Nat),DX g w k v l es->
  (vK k v l a=false->Instr.findNow (A9 k) key es i=some none/\rV k v l a=v.zero/\∀b val born,tO g w v b val->DX g w k v (tJ k v a b l) (es++[⟨key,val,born⟩]))/\
  (vK k v l a=true->∃j e,es[j]? =some e/\Instr.findNow (A9 k) key es i=some (some (i+j,e.val))/\tO g w v (rV k v l a) e.val/\e.key=key/\∀b val,tO g w v b val->DX g w k v (tJ k v a b l) (es.modify j fun e=>{e with key:=key,val:=val}))
 |[],es,i,h=>by
  rw[show es=[] from h];exact⟨fun _=>⟨rfl,rfl,fun b val born hb=>⟨_,[],rfl,ha,hb,rfl⟩⟩,fun h=>by simp [vK] at h⟩
 |(x,y)::l,_,i,⟨e,es',rfl,h1,h2,h3⟩=>by
  obtain⟨s1,s2⟩:=aJj hk ha h1;cases hq:GD k a x with
  |true=>
   rw[hq] at s1;refine⟨fun h=>by simp [vK,hq] at h,fun _=>⟨0,e,rfl,?_,?_,s2 hq,fun b val hb=> ?_⟩⟩
   .simp only[Instr.findNow,s1,aSg]
   .simp only[rV,hq,aSU];exact h2
   .simp only[tJ,hq,aSU];exact⟨_,es',rfl,ha,hb,h3⟩
  |false=>
   rw[hq] at s1;obtain⟨f1,f2⟩:=a0w (v:=v) hk ha (i+1) h3;refine⟨fun h=> ?_,fun h=> ?_⟩
   .simp only[vK,hq] at h;obtain⟨g1,g2,g3⟩:=f1 (by simpa using h);refine⟨by simp only[Instr.findNow,s1];exact g1,by simp only[rV,hq];simpa using g2,fun b val born hb=> ?_⟩;simp only[tJ,hq];exact⟨e,_,rfl,h1,h2,g3 b val born hb⟩
   .simp only[vK,hq] at h;obtain⟨j,e',g1,g2,g3,g4,g5⟩:=f2 (by simpa using h);refine⟨j+1,e',by simpa using g1,by simp only[Instr.findNow,s1];rw[g2];congr 3;omega,by simp only[rV,hq];simpa using g3,g4,fun b val hb=> ?_⟩;simp only[tJ,hq];exact⟨e,_,rfl,h1,h2,g5 b val hb⟩
def KG (ok:Bool) (z:pR):Option (Nat×pR)->pR
 |some (_,v)=>if ok then .tuple #[v,.bool true] else v
 |none=>if ok then .tuple #[z,.bool false] else z
section
variable {P:Program}{o:Oper}{a:Act}{g:Gh}{w:pQ}{H:s7}{T:sK}(hT:xH P T) (hH:sE g w H)
include hT hH
theorem sB.newMap {side:List Prop}{rds:pP}{base:Nat}{k v:Ty}(hf:g.J base=none) (hc:g.cur base=fun _=>none):
  sB g w H ⟨side,(.val .mp (some base),none),[(base,.map k v [])],rds⟩ (g.var base w.heap.size none) (w.alloc (.map #[] 0)) (.map (some w.heap.size)):=by
 have hJ:(g.var base w.heap.size none).J base=some ⟨w.heap.size,0,none⟩:=by simp [Gh.var]
 have le:Le g w (g.var base w.heap.size none) (w.alloc (.map #[] 0)):=⟨fun _ _ h=>h,fun b o h=>aRH (a:=⟨b,o,none⟩) (aRN _ _ _ (hH.sl b o h)),fun i p h=>by
  show (if i=base then _ else _)=_;rw[aRk (fun e1=>by rw[e1,hf] at h;cases h)];exact h,fun _ _ _ h=>h⟩
 have fr:Fr (sX g H (qE [(base,q9.map k v [])])) w (w.alloc (.map #[] 0)) g.S (g.var base w.heap.size none).S:=
  ⟨rfl,rfl,rfl,by simp,fun b hb _=>aRN _ _ _ hb,fun b o hb _=>⟨aRH (a:=⟨b,o,none⟩) (aRN _ _ _ hb),aSb (a:=⟨b,o,none⟩) (aRN _ _ _ hb)⟩,fun b o h=> .inl h,fun b s h=> .inl ((CE (aRN _ _ _ (CD h))).trans h)⟩
 have gho: ∀i,i∉qE [(base,q9.map k v [])]->(g.var base w.heap.size none).J i=g.J i/\(g.var base w.heap.size none).cur i=g.cur i:=fun i hi=>⟨by
  show (if i=base then _ else _)=_;rw[aRk (fun e1=>hi (by simp [qE,e1]))],rfl⟩
 have get: ∀i blk,i∈qE [(base,q9.map k v [])]->qD (qT [(base,q9.map k v [])] H) i=some blk->i=base/\blk= .map k v []:=by
  intro i blk hi hg;simp only[qE,aRv] at hi;subst hi;simp only[qT,qD,aSU,aRd] at hg;exact⟨rfl,hg.symm⟩
 have perm: ∀i blk b o,i∈qE [(base,q9.map k v [])]->qD (qT [(base,q9.map k v [])] H) i=some blk->sA (g.var base w.heap.size none) i blk b o->w.heap.size<=b\/sX g H (qE [(base,q9.map k v [])]) b o:=by
  intro i blk b o hi hg ho;obtain⟨rfl,rfl⟩:=get i blk hi hg;obtain⟨p,hp,h1⟩:=ho;rw[hJ] at hp;obtain rfl:=aRi hp;exact .inl (aSP h1.symm)
 refine⟨le,⟨.inr ⟨rfl,_,hJ,rfl⟩,trivial⟩,hH.upd le fr perm gho (fun i blk hi hg=> ?_) (fun i j bi bj b o hi hj hij hgi hgj _ _=>hij ((get i bi hi hgi).1.trans (get j bj hj hgj).1.symm)) (fun b o h=>aRT (hH.sl b o h) pH),fr,perm,gho,fun i u' y us h=>by
  simp only[qT,qD] at h;split at h
  .cases h
  .exact .inl ⟨y,us,h⟩⟩
 obtain⟨rfl,rfl⟩:=get i blk hi hg;refine⟨⟨w.heap.size,0,none⟩,#[],0,hJ,rfl,?_,rfl,fun o hs=>aSV _ (hH.sl _ _ hs)⟩;show (w.heap.push (.map #[] 0))[w.heap.size]? =_;rw[aTb]
theorem aJk {t:TypeId}{r:Option Operand}(ho:o.op= .makeMap t r) {base:Nat}{e:qJ}(hr:ZN T base (rK T t) r=some e) (hf:yX g base e):rC P o a g w H e:=by
 generalize hst:rK T t=ot at hr;unfold ZN at hr;split at hr
 .rename_i el fl ar ls_;unfold a9J at hr;split at hr
  .split at hr
   .cases hr;have hfr:=hf base (by simp [qE]) (aRE _);refine rC.value (v:= .map (some w.heap.size)) (w':=w.alloc (.map #[] 0)) ?_ (sB.newMap hT hH hfr.1 (funext hfr.2));unfold execOp;rw[ho];simp only[Instr.makeMap,aRy,run_newObj,aRp,aRI,Option.map_none];rfl
   .cases hr
  .cases hr
 .cases hr
theorem aJl {xt el fl:TypeId}{ok:Bool}{r:Nat}{es:Array MapEntry}{cl:Nat}{key z res:pR}{kd:TypeDesc}(hm:P.underlying xt=some (.map el fl)) (hb:w.heap[r]? =some (.map es cl)) (hkd:P.underlying el=some kd) (hsim: ∀ty,kd≠.interface ty) (hna: ∀n t,kd≠.array n t) (hns: ∀f,kd≠.struct f)
  {q:Option (Nat×pR)}(hq:Instr.findNow kd key es.toList 0=some q) (hz:(zeroValue fl).run P w= .ok z w)
  (hres:res=KG ok z q):(Instr.lookup xt (.map (some r)) key ok).run P w= .ok res w:=by
 have hck: ∀em,(Instr.checkKey em 10000 el key).run P w= .ok () w:=by
  intro em;unfold Instr.checkKey;simp only[aRy,aRB hkd,aRp];cases kd<;>first|rfl|(exact absurd rfl (hsim _)) |(exact absurd rfl (hna _ _)) |(exact absurd rfl (hns _))
 have hfk:(Instr.findKey el key es.toList).run P w= .ok q w:=by
  unfold Instr.findKey;simp only[aRy,aRB hkd,aRp,hq,aRI]
 subst hres;unfold Instr.lookup;simp only[aRy,aRB hm,aRp,MapKept.run_getObj_map hb,aRI,hck,hfk];cases q with
 |none=>cases ok<;>simp [hz,aRy,aRp,KG]
 |some q=>cases ok<;>simp [aRy,aRp,KG]
theorem aJm {xt el fl:TypeId}{ok:Bool}{key z:pR}{kd:TypeDesc}(hm:P.underlying xt=some (.map el fl)) (hkd:P.underlying el=some kd) (hsim: ∀ty,kd≠.interface ty) (hna: ∀n t,kd≠.array n t) (hns: ∀f,kd≠.struct f)
  (hz:(zeroValue fl).run P w= .ok z w):(Instr.lookup xt (.map none) key ok).run P w= .ok (KG ok z none) w:=by
 have hck: ∀em,(Instr.checkKey em 10000 el key).run P w= .ok () w:=by
  intro em;unfold Instr.checkKey;simp only[aRy,aRB hkd,aRp];cases kd<;>first|rfl|(exact absurd rfl (hsim _)) |(exact absurd rfl (hna _ _)) |(exact absurd rfl (hns _))
 have hfk:(Instr.findKey el key ([]:List MapEntry)).run P w= .ok none w:=by
  unfold Instr.findKey;simp only[aRy,aRB hkd,aRp,Instr.findNow,aRI]
 unfold Instr.lookup;simp only[aRy,aRB hm,aRp,aRI,hck,hfk];cases ok<;>simp [hz,aRy,aRp,KG,hfk]
theorem sB.updMap {side:List Prop}{rds:pP}{i:Nat}{k v:Ty}{l l':List (k.den×v.den)}{p:Pl}{es es':Array MapEntry}{cl cl':Nat}(hi:qD H i=some (.map k v l)) (hp:g.J i=some p) (hp0:p.2=0) (hb:w.heap[p.1]? =some (.map es cl)) (hS: ∀o,¬g.S p.1 o) (hM:DX g w k v l' es'.toList):
  sB g w H ⟨side,(.any,none),[(i,.map k v l')],rds⟩ g {w with heap:=w.heap.setIfInBounds p.1 (.map es' cl')} undef:=by
 have hlt:p.1<w.heap.size:=(aRC.1 hb).1;have hoth: ∀b,b≠p.1->(w.heap.setIfInBounds p.1 (.map es' cl'))[b]? =w.heap[b]? :=fun b hne=>by rw[aSG (Ne.symm hne)]
 have hown: ∀o,sX g H (qE [(i,q9.map k v l')]) p.1 o:=fun o=>⟨i,_,by simp [qE],hi,p,hp,rfl⟩;have le:Le g w g {w with heap:=w.heap.setIfInBounds p.1 (.map es' cl')}:=⟨fun _ _ h=>h,fun b o h=>aRH (a:=⟨b,o,none⟩) (hoth b (fun e=>hS o (e▸h))),fun _ _ h=>h,fun _ _ _ h=>h⟩
 have fr:Fr (sX g H (qE [(i,q9.map k v l')])) w {w with heap:=w.heap.setIfInBounds p.1 (.map es' cl')} g.S g.S:=
  ⟨rfl,rfl,rfl,by simp,fun b _ hn=>hoth b (fun e=>hn 0 (e▸hown 0)),fun b o _ hn=>⟨aRH (a:=⟨b,o,none⟩) (hoth b (fun e=>hn (e▸hown o))),aSb (a:=⟨b,o,none⟩) (hoth b (fun e=>hn (e▸hown o)))⟩,fun b o h=> .inl h,fun b s h=>(by
   by_cases e:b=p.1
   .exact .inr fun o=>e▸hown o
   .exact .inl ((CE (hoth b e)).trans h))⟩
 have get: ∀j blk,j∈qE [(i,q9.map k v l')]->qD (qT [(i,q9.map k v l')] H) j=some blk->j=i/\blk= .map k v l':=by
  intro j blk hj hg;simp only[qE,aRv] at hj;subst hj;simp only[qT,qD,aSU,aRd] at hg;exact⟨rfl,hg.symm⟩
 have perm: ∀j blk b o,j∈qE [(i,q9.map k v l')]->qD (qT [(i,q9.map k v l')] H) j=some blk->sA g j blk b o->w.heap.size<=b\/sX g H (qE [(i,q9.map k v l')]) b o:=by
  intro j blk b o hj hg ho;obtain⟨rfl,rfl⟩:=get j blk hj hg;obtain⟨q,hq,rfl⟩:=ho;rw[hp] at hq;obtain rfl:=aRi hq;exact .inr (hown o)
 refine⟨le,⟨trivial,trivial⟩,hH.upd le fr perm (fun _ _=>⟨rfl,rfl⟩) (fun j blk hj hg=> ?_) (fun j j' bi bj b o hj hj' hij hgi hgj _ _=>hij ((get j bi hj hgi).1.trans (get j' bj hj' hgj).1.symm)) (fun b o h=>by simpa using hH.sl b o h),fr,perm,fun _ _=>⟨rfl,rfl⟩,fun j u' y us h=>by
  simp only[qT,qD] at h;split at h
  .cases h
  .exact .inl ⟨y,us,h⟩⟩
 obtain⟨rfl,rfl⟩:=get j blk hj hg;exact⟨p,es',cl',hp,hp0,by simp [aS1,hlt],ZX le hM,hS⟩
theorem aAD {i:Nat}{k:pO}{v:pR}(h:rH g w (.val .mp (some i),k) v): ∃p,g.J i=some p/\v= .map (some p.1):=by
 obtain⟨p,h1,e⟩:=AS rfl h.1;simp only[aSc,and_true] at e;exact⟨p,h1,e⟩
theorem a0x {k:Ty}:(∀ty,A9 k≠.interface ty)/\(∀n t,A9 k≠.array n t)/\(∀f,A9 k≠.struct f):=by
 cases k<;>exact⟨fun _ h=>by simp [A9] at h,fun _ _ h=>by simp [A9] at h,fun _ h=>by simp [A9] at h⟩
theorem aJn {t:TypeId}{x y:Operand}{ok:Bool}(ho:o.op= .lookup t x y ok) {sx sy:qB}(hx:rH g w sx (a.eval x)) (hy:rH g w sy (a.eval y)) {e:qJ}(hr:UI T H ok (rK T t) sx sy=some e):rC P o a g w H e:=by
 generalize hst:rK T t=ot at hr;unfold UI at hr;split at hr
 .rename_i el fl ar ls_ i kk;generalize hk:rK T el=ok1 at hr;generalize hv:rK T fl=ok2 at hr;unfold ZO at hr;split at hr
  .rename_i kt vt k a' _;split at hr
   .rename_i hkt;unfold UH at hr;split at hr
    .rename_i k' v' l hb;split at hr
     .rename_i hkv;obtain⟨rfl,rfl⟩:=hkv;split at hr
      .rename_i hkey;obtain⟨p,es,cl,hp,hp0,hh,hM,hS⟩:=hH.blk i _ hb;obtain⟨p',hp',hxv⟩:=aAD hT hH hx;rw[hp] at hp';obtain rfl:=aRi hp';have hm:=(tE hT hst).2;simp only[yJ] at hm;have hkd:=a0v (tE hT hk) (hkt▸hkey);obtain⟨iv,hi1,hi2,hi3⟩:=E2 (tE hT hv);have hz:(zeroValue fl).run P w= .ok (wL vt.ty) w:=by
        simp only[zeroValue,typeInfo,aRy,aSk,hi1,hi3,aRp,aRI]
       obtain⟨f1,f2⟩:=a0w (v:=vt.ty) hkey hy.1 0 hM;rw[<-hkt] at hkd;obtain⟨p1,p2,p3⟩:=a0x hT hH (k:=k);have go: ∀{q res},Instr.findNow (A9 k) (a.eval y) es.toList 0=some q->res=KG ok (wL vt.ty) q->(execOp a.eval o).run P w= .ok (.value res) w:=by
        intro q res h1 h2;unfold execOp;rw[ho];simp only[hxv,aRy,aJl hT hH hm hh hkd p1 p2 p3 h1 hz h2,aRp,aRI]
       cases hmh:vK k vt.ty l a' with
       |false=>
        obtain⟨g1,g2,_⟩:=f1 hmh;cases ok with
        |true=>
         cases hr;refine rC.pure hH (v:= .tuple #[wL vt.ty,.bool false]) (go g1 rfl) ?_;simp only[M7,hmh,g2];exact⟨[_,_],rfl,_,[_],rfl,KD g w _,trivial,_,[],rfl,wV g w false,trivial,rfl⟩
        |false=>
         cases hr;refine rC.pure hH (v:=wL vt.ty) (go g1 rfl) ?_;simp only[M7,g2];exact KD g w _
       |true=>
        obtain⟨j,e',g1,g2,g3,g4,g5⟩:=f2 hmh;cases ok with
        |true=>
         cases hr;refine rC.pure hH (v:= .tuple #[e'.val,.bool true]) (go g2 rfl) ?_;simp only[M7,hmh];exact⟨[_,_],rfl,_,[_],rfl,g3,trivial,_,[],rfl,wV g w true,trivial,rfl⟩
        |false=>
         cases hr;refine rC.pure hH (v:=e'.val) (go g2 rfl) ?_;simp only[M7];exact g3
      .cases hr
     .cases hr
    .cases hr
   .cases hr
  .cases hr
 .rename_i el fl ar ls_ kk;generalize hk:rK T el=ok1 at hr;generalize hv:rK T fl=ok2 at hr;unfold a9K at hr;split at hr
  .rename_i kt vt k a' _;split at hr
   .rename_i hkt;split at hr
    .rename_i hkey;have hxv:a.eval x= .map none:=by
      have e1:=AS rfl hx.1;simpa[Rd,KB] using e1
     have hm:=(tE hT hst).2;simp only[yJ] at hm;have hkd:=a0v (tE hT hk) (hkt▸hkey);obtain⟨iv,hi1,hi2,hi3⟩:=E2 (tE hT hv);have hz:(zeroValue fl).run P w= .ok (wL vt.ty) w:=by
      simp only[zeroValue,typeInfo,aRy,aSk,hi1,hi3,aRp,aRI]
     rw[<-hkt] at hkd;obtain⟨p1,p2,p3⟩:=a0x hT hH (k:=k);have go:(execOp a.eval o).run P w= .ok (.value (KG ok (wL vt.ty) none)) w:=by
      unfold execOp;rw[ho];simp only[hxv,aRy,aJm hT hH hm hkd p1 p2 p3 hz,aRp,aRI]
     cases ok with
     |true=>
      cases hr;exact rC.pure hH (v:= .tuple #[wL vt.ty,.bool false]) go ⟨[_,_],rfl,_,[_],rfl,KD g w _,trivial,_,[],rfl,wV g w false,trivial,rfl⟩
     |false=>
      cases hr;exact rC.pure hH (v:=wL vt.ty) go (KD g w _)
    .cases hr
   .cases hr
  .cases hr
 .cases hr
theorem aJo {g:Gh}{w:pQ}{k:Ty}(hk:DU k=true) {x:k.den}{v:pR}(h:tO g w k x v) (n:Nat):Instr.sameBits n v v=true:=by
 cases k with
 |int k=>rw[wM h];cases n<;>simp [Instr.sameBits]
 |str=>rw[wU h];cases n<;>simp [Instr.sameBits,MapKept.bytes_beq]
 |bool=>rw[vY h];cases n<;>simp [Instr.sameBits]
 |_=>simp [DU] at hk
omit hT hH in
theorem aAE {T:sK}{ti:Option TI}{s:qB}{v:pR}(h:rH g w s v):rH g w (UK T ti s) v:=by
 unfold UK;split
 .unfold a9L;split
  .rename_i f x _;refine⟨.inr ⟨rfl,?_⟩,trivial⟩;rcases h.1 with⟨h1,_⟩ |⟨h1,vs,h2,h3⟩
   .cases h1
   .rw[show vs=[] from h2] at h3;exact h3
  .exact h
 .exact h
theorem aAF {t:TypeId}{m x y:Operand}(ho:o.op= .mapUpdate t m x y\/o.op= .insert t m x y) {sm sx sy:qB}(hm:rH g w sm (a.eval m)) (hx:rH g w sx (a.eval x)) (hy:rH g w sy (a.eval y)) {e:qJ}(hr:MI T H (rK T t) sm sx sy=some e):rC P o a g w H e:=by
 generalize hst:rK T t=ot at hr;unfold MI at hr;split at hr
 .rename_i el fl ar ls_ i kk;generalize hk:rK T el=ok1 at hr;unfold UJ at hr;split at hr
  .rename_i kt k a' _ u b _;split at hr
   .rename_i hkt;unfold MH at hr;split at hr
    .rename_i k' v' l hb;split at hr
     .rename_i hkv;obtain⟨rfl,rfl⟩:=hkv;split at hr
      .rename_i hkey;cases hr;obtain⟨p,es,cl,hp,hp0,hh,hM,hS⟩:=hH.blk i _ hb;obtain⟨p',hp',hxv⟩:=aAD hT hH hm;rw[hp] at hp';obtain rfl:=aRi hp';have hmt:=(tE hT hst).2;simp only[yJ] at hmt;have hkd:=a0v (tE hT hk) (hkt▸hkey);rw[<-hkt] at hkd;obtain⟨p1,p2,p3⟩:=a0x hT hH (k:=k);have hck:(Instr.checkKey false 10000 el (a.eval x)).run P w= .ok () w:=by
        unfold Instr.checkKey;simp only[aRy,aRB hkd,aRp];generalize A9 k=kd at p1 p2 p3;cases kd<;>first|rfl|(exact absurd rfl (p1 _)) |(exact absurd rfl (p2 _ _)) |(exact absurd rfl (p3 _))
       have hfk: ∀{q},Instr.findNow (A9 k) (a.eval x) es.toList 0=some q->(Instr.findKey el (a.eval x) es.toList).run P w= .ok q w:=by
        intro q hq;unfold Instr.findKey;simp only[aRy,aRB hkd,aRp,hq,aRI]
       obtain⟨f1,f2⟩:=a0w (v:=u) hkey hx.1 0 hM;cases hmh:vK k u l a' with
       |false=>
        obtain⟨g1,_,g3⟩:=f1 hmh;refine rC.skip (w':={w with heap:=w.heap.setIfInBounds p.1 (.map (es.push ⟨a.eval x,a.eval y,cl⟩) (cl+1))}) ?_ (sB.updMap hT hH hb hp hp0 hh hS ?_)
        .unfold execOp;rcases ho with ho|ho<;>rw[ho]<;>
          simp only[Instr.mapUpdate,hxv,aRy,aRB hmt,aRp,MapKept.run_getObj_map hh,hck,hfk g1,MapKept.run_setObj_map _ hh,aRI]
        .simp only[M7,Array.toList_push];exact g3 b _ _ hy.1
       |true=>
        obtain⟨j,e',g1,g2,g3,g4,g5⟩:=f2 hmh;rw[aRP] at g2;refine rC.skip (w':={w with heap:=w.heap.setIfInBounds p.1 (.map (es.modify j fun e=>{e with key:=a.eval x,val:=a.eval y}) cl)}) ?_ (sB.updMap hT hH hb hp hp0 hh hS ?_)
        .have hj:es[j]? =some e':=by rw[<-aSn];exact g1
         unfold execOp;rcases ho with ho|ho<;>rw[ho]<;>
          simp only[Instr.mapUpdate,hxv,aRy,aRB hmt,aRp,MapKept.run_getObj_map hh,hck,hfk g2,hj,Option.map_some,aTk,g4,Instr.keyThatStays,aJo hT hH hkey hx.1,aSU,MapKept.run_setObj_map _ hh,aRI]
        .simp only[M7,Array.toList_modify];exact g5 b _ hy.1
      .cases hr
     .cases hr
    .cases hr
   .cases hr
  .cases hr
 .cases hr
end
theorem aAG {P:Program}{w:pQ}{r:Nat}{s:ByteArray}{n:Nat}(hb:w.heap[r]? =some (.stringIter s n)):(getObj r).run P w= .ok (.stringIter s n) w:=by
 simp [getObj,Sem.run,hb]
theorem aJp {P:Program}{w:pQ}{r:Nat}{s:ByteArray}{n:Nat}(o:Obj) (hb:w.heap[r]? =some (.stringIter s n)):(setObj r o).run P w= .ok () {w with heap:=w.heap.setIfInBounds r o}:=by
 simp [setObj,Sem.run,hb]
section
variable {P:Program}{o:Oper}{a:Act}{g:Gh}{w:pQ}{H:s7}{T:sK}(hT:xH P T) (hH:sE g w H)
include hT hH
theorem sB.newIter {side:List Prop}{rds:pP}{base:Nat}{s:pC}(hf:g.J base=none) (hc:g.cur base=fun _=>none):
  sB g w H ⟨side,(.val .ref (some (base,0)),none),[(base,.iter s 0)],rds⟩ (g.var base w.heap.size none) (w.alloc (.stringIter ⟨s.toArray⟩ 0)) (.pointer (some ⟨w.heap.size,0,none⟩)):=by
 have hJ:(g.var base w.heap.size none).J base=some ⟨w.heap.size,0,none⟩:=by simp [Gh.var]
 have le:Le g w (g.var base w.heap.size none) (w.alloc (.stringIter ⟨s.toArray⟩ 0)):=⟨fun _ _ h=>h,fun b o h=>aRH (a:=⟨b,o,none⟩) (aRN _ _ _ (hH.sl b o h)),fun i p h=>by
  show (if i=base then _ else _)=_;rw[aRk (fun e1=>by rw[e1,hf] at h;cases h)];exact h,fun _ _ _ h=>h⟩
 have fr:Fr (sX g H (qE [(base,q9.iter s 0)])) w (w.alloc (.stringIter ⟨s.toArray⟩ 0)) g.S (g.var base w.heap.size none).S:=
  ⟨rfl,rfl,rfl,by simp,fun b hb _=>aRN _ _ _ hb,fun b o hb _=>⟨aRH (a:=⟨b,o,none⟩) (aRN _ _ _ hb),aSb (a:=⟨b,o,none⟩) (aRN _ _ _ hb)⟩,fun b o h=> .inl h,fun b s h=> .inl ((CE (aRN _ _ _ (CD h))).trans h)⟩
 have gho: ∀i,i∉qE [(base,q9.iter s 0)]->(g.var base w.heap.size none).J i=g.J i/\(g.var base w.heap.size none).cur i=g.cur i:=fun i hi=>⟨by
  show (if i=base then _ else _)=_;rw[aRk (fun e1=>hi (by simp [qE,e1]))],rfl⟩
 have get: ∀i blk,i∈qE [(base,q9.iter s 0)]->qD (qT [(base,q9.iter s 0)] H) i=some blk->i=base/\blk= .iter s 0:=by
  intro i blk hi hg;simp only[qE,aRv] at hi;subst hi;simp only[qT,qD,aSU,aRd] at hg;exact⟨rfl,hg.symm⟩
 have perm: ∀i blk b o,i∈qE [(base,q9.iter s 0)]->qD (qT [(base,q9.iter s 0)] H) i=some blk->sA (g.var base w.heap.size none) i blk b o->w.heap.size<=b\/sX g H (qE [(base,q9.iter s 0)]) b o:=by
  intro i blk b o hi hg ho;obtain⟨rfl,rfl⟩:=get i blk hi hg;obtain⟨p,hp,h1⟩:=ho;rw[hJ] at hp;obtain rfl:=aRi hp;exact .inl (aSP h1.symm)
 refine⟨le,⟨.inr ⟨rfl,_,hJ,rfl⟩,trivial⟩,hH.upd le fr perm gho (fun i blk hi hg=> ?_) (fun i j bi bj b o hi hj hij hgi hgj _ _=>hij ((get i bi hi hgi).1.trans (get j bj hj hgj).1.symm)) (fun b o h=>aRT (hH.sl b o h) pH),fr,perm,gho,fun i u' y us h=>by
  simp only[qT,qD] at h;split at h
  .cases h
  .exact .inl ⟨y,us,h⟩⟩
 obtain⟨rfl,rfl⟩:=get i blk hi hg;refine⟨⟨w.heap.size,0,none⟩,hJ,rfl,?_,fun o hs=>aSV _ (hH.sl _ _ hs)⟩;show (w.heap.push (.stringIter ⟨s.toArray⟩ 0))[w.heap.size]? =_;rw[aTb]
theorem sB.updIter {side:List Prop}{rds:pP}{i:Nat}{s:pC}{n n':Nat}{d:qB}{val:pR}{p:Pl}(hi:qD H i=some (.iter s n)) (hp:g.J i=some p) (hp0:p.2=0) (hb:w.heap[p.1]? =some (.stringIter ⟨s.toArray⟩ n)) (hS: ∀o,¬g.S p.1 o) (hd:rH g {w with heap:=w.heap.setIfInBounds p.1 (.stringIter ⟨s.toArray⟩ n')} d val):
  sB g w H ⟨side,d,[(i,.iter s n')],rds⟩ g {w with heap:=w.heap.setIfInBounds p.1 (.stringIter ⟨s.toArray⟩ n')} val:=by
 have hlt:p.1<w.heap.size:=(aRC.1 hb).1;have hoth: ∀b,b≠p.1->(w.heap.setIfInBounds p.1 (.stringIter ⟨s.toArray⟩ n'))[b]? =w.heap[b]? :=fun b hne=>by rw[aSG (Ne.symm hne)]
 have hown: ∀o,sX g H (qE [(i,q9.iter s n')]) p.1 o:=fun o=>⟨i,_,by simp [qE],hi,p,hp,rfl⟩;have le:Le g w g {w with heap:=w.heap.setIfInBounds p.1 (.stringIter ⟨s.toArray⟩ n')}:=⟨fun _ _ h=>h,fun b o h=>aRH (a:=⟨b,o,none⟩) (hoth b (fun e=>hS o (e▸h))),fun _ _ h=>h,fun _ _ _ h=>h⟩
 have fr:Fr (sX g H (qE [(i,q9.iter s n')])) w {w with heap:=w.heap.setIfInBounds p.1 (.stringIter ⟨s.toArray⟩ n')} g.S g.S:=
  ⟨rfl,rfl,rfl,by simp,fun b _ hn=>hoth b (fun e=>hn 0 (e▸hown 0)),fun b o _ hn=>⟨aRH (a:=⟨b,o,none⟩) (hoth b (fun e=>hn (e▸hown o))),aSb (a:=⟨b,o,none⟩) (hoth b (fun e=>hn (e▸hown o)))⟩,fun b o h=> .inl h,fun b s h=>(by
   by_cases e:b=p.1
   .exact .inr fun o=>e▸hown o
   .exact .inl ((CE (hoth b e)).trans h))⟩
 have get: ∀j blk,j∈qE [(i,q9.iter s n')]->qD (qT [(i,q9.iter s n')] H) j=some blk->j=i/\blk= .iter s n':=by
  intro j blk hj hg;simp only[qE,aRv] at hj;subst hj;simp only[qT,qD,aSU,aRd] at hg;exact⟨rfl,hg.symm⟩
 have perm: ∀j blk b o,j∈qE [(i,q9.iter s n')]->qD (qT [(i,q9.iter s n')] H) j=some blk->sA g j blk b o->w.heap.size<=b\/sX g H (qE [(i,q9.iter s n')]) b o:=by
  intro j blk b o hj hg ho;obtain⟨rfl,rfl⟩:=get j blk hj hg;obtain⟨q,hq,rfl⟩:=ho;rw[hp] at hq;obtain rfl:=aRi hq;exact .inr (hown o)
 refine⟨le,hd,hH.upd le fr perm (fun _ _=>⟨rfl,rfl⟩) (fun j blk hj hg=> ?_) (fun j j' bi bj b o hj hj' hij hgi hgj _ _=>hij ((get j bi hj hgi).1.trans (get j' bj hj' hgj).1.symm)) (fun b o h=>by simpa using hH.sl b o h),fr,perm,fun _ _=>⟨rfl,rfl⟩,fun j u' y us h=>by
  simp only[qT,qD] at h;split at h
  .cases h
  .exact .inl ⟨y,us,h⟩⟩
 obtain⟨rfl,rfl⟩:=get j blk hj hg;exact⟨p,hp,hp0,by simp [aS1,hlt],hS⟩
theorem aJq {t:TypeId}{x:Operand}(ho:o.op= .range t x) {sx:qB}(hx:rH g w sx (a.eval x)) {base:Nat}{e:qJ}(hr:ZQ base (rK T t) sx=some e) (hf:yX g base e):rC P o a g w H e:=by
 generalize hst:rK T t=ot at hr;unfold ZQ at hr;split at hr
 .rename_i el b ar ls s k;cases hr;have hfr:=hf base (by simp [qE]) (aRE _);have hv:=wU hx.1;have hu:=(tE hT hst).2;simp only[yJ] at hu;refine rC.value (v:= .pointer (some ⟨w.heap.size,0,none⟩)) (w':=w.alloc (.stringIter ⟨s.toArray⟩ 0)) ?_ (sB.newIter hT hH hfr.1 (funext hfr.2));unfold execOp;rw[ho];simp only[Instr.range,hv,aRy,aRB hu,run_newObj,aRp,aRI];rfl
 .cases hr
theorem aJr {x:Operand}{b:Bool}(ho:o.op= .next x b) {sx:qB}(hx:rH g w sx (a.eval x)) {e:qJ}(hr:UL H b sx=some e):rC P o a g w H e:=by
 unfold UL at hr;split at hr
 .rename_i i k;unfold ZR at hr;split at hr
  .rename_i s n hb;cases hr;obtain⟨p,hp,hp0,hh,hS⟩:=hH.blk i _ hb;obtain⟨q,hq,hv⟩:=zQ hx.1;rw[hp] at hq;obtain rfl:=aRi hq;rw[hp0] at hv;by_cases hl:n<s.length
   .have hsz:n<(⟨s.toArray⟩:ByteArray).size:=by simpa[ByteArray.size] using hl
    refine rC.value (v:= .tuple #[.bool true,.int .i64 (n:Int),.int .i32 (xP s n)]) (w':={w with heap:=w.heap.setIfInBounds p.1 (.stringIter ⟨s.toArray⟩ (AQ s n))}) ?_ (sB.updIter hT hH hb hp hp0 hh hS ⟨⟨fun _=>rfl,fun h=>absurd hl (of_decide_eq_false h)⟩,trivial⟩)
    unfold execOp;rw[ho];have hrn:AQ s n=n+(Utf8.decode ⟨s.toArray⟩ n).2:=by unfold AQ ZP;rw[aRf hl]
    simp only[Instr.next,hv,aRy,aAG hh,aRp,hsz,aSU,aJp _ hh,aRI,hrn];rfl
   .have hsz: ¬n<(⟨s.toArray⟩:ByteArray).size:=by simpa[ByteArray.size] using hl
    have hrn:AQ s n=n:=by unfold AQ;rw[aRk hl]
    have hw:({w with heap:=w.heap.setIfInBounds p.1 (.stringIter ⟨s.toArray⟩ (AQ s n))}:pQ)=w:=by
     rw[hrn];have:w.heap.setIfInBounds p.1 (.stringIter ⟨s.toArray⟩ n)=w.heap:=by
      obtain⟨h1,h2⟩:=aRC.1 hh;apply Array.ext_getElem?;intro j;rw[aS1];split
      .rename_i hj;subst hj;first|rw[hh] |rw[aRf h1,hh]
      .rfl
     rw[this]
    refine rC.value (v:= .tuple #[.bool false]) (w':={w with heap:=w.heap.setIfInBounds p.1 (.stringIter ⟨s.toArray⟩ (AQ s n))}) ?_ (sB.updIter hT hH hb hp hp0 hh hS ⟨⟨fun h=>absurd (aRU h) hl,fun _=>rfl⟩,trivial⟩)
    rw[hw];unfold execOp;rw[ho];simp only[Instr.next,hv,aRy,aAG hh,aRp,hsz,aTn,aRI]
  .cases hr
 .cases hr
end
def qM:Nat->List q9->s7
 |_,[]=>[]
 |c,b::L=>(c,b)::qM (c+1) L
theorem V4: ∀(L:List q9) (c i:Nat),qD (qM c L) i=if c<=i then L[i-c]? else none
 |[],c,i=>by simp [qM,qD]
 |b::L,c,i=>by
  simp only[qM,qD];by_cases h:c=i
  .subst h;simp
  .rw[aRk h,V4 L (c+1) i];by_cases h2:c<=i
   .rw[aRf h2,aRf pF];obtain⟨d,hd⟩: ∃d,i-c=d+1:=⟨i-c-1,pF⟩;rw[hd,aRY];congr 1;omega
   .rw[aRk h2,aRk pF]
theorem x9 (L:List q9) (i:Nat):qD (qM 0 L) i=L[i]? :=by rw[V4];simp
def y8 (g:Gh) (H:s7) (b o:Nat):Prop:= ∃i blk,qD H i=some blk/\sA g i blk b o
def vL (g:Gh) (w:pQ):List qB->pM->Prop
 |[],vs=>vs=[]
 |s::ss,vs=> ∃v vs',vs=v::vs'/\rH g w s v/\vL g w ss vs'
def Q1 (g:Gh) (w:pQ):List qB->pR->Prop
 |[s],v=>rH g w s v
 |l,v=> ∃vs:pM,v= .tuple vs.toArray/\vL g w l vs
structure E4 (g:Gh) (w:pQ) (L:List q9) (r:qH) (g':Gh) (w':pQ) (v:pR):Prop where
 shut: ∀b o,g.S b o->g'.S b o/\w'.cell? ⟨b,o,none⟩=w.cell? ⟨b,o,none⟩
 heap:sE g' w' (qM 0 r.H)
 ret:Q1 g' w' r.ret v
 fr:Fr (y8 g (qM 0 L)) w w' g.S g'.S
 perm: ∀i blk b o,r.H[i]? =some blk->sA g' i blk b o->w.heap.size<=b\/y8 g (qM 0 L) b o
 J: ∀(i:Nat) t x ts,L[i]? =some (.cells t x ts)->g'.J i=g.J i
 ty: ∀(i:Nat) t x ts u y us,L[i]? =some (.cells t x ts)->r.H[i]? =some (.cells u y us)->u=t
 Jt: ∀i p,i<L.length->g.J i=some p->g'.J i=some p
 cur: ∀i n u,i<L.length->g.cur i n=some u->g'.cur i n=some u
def xI (P:Program) (f:FuncId) (C:List qB->List q9->Option qH):Prop:=
 (∀args w,(callFunc f args).run P w= .ok (.enter f args) w)/\
 ∀(g:Gh) (w:pQ) (args:List qB) (vals:pM) (L:List q9) (r:qH),sE g w (qM 0 L)->vL g w args vals->C args L=some r->(∀p∈r.side,p)->
  Calls P f vals.toArray w (fun e w'=> ∃v g',e= .returned v/\E4 g w L r g' w' v)
def V5 (P:Program) (f:FuncId) (F:(t:Ty)->List t.den->Option (List t.den)):Prop:=
 ∀(g:Gh) (w:pQ) (e:TypeId) (t:Ty) (l l':List t.den) (v:pR) (n:Nat) (xs:pM),D0 w->w.ownsRow 0 e t.cells v n xs->tX (Rd g w t) t.cells l xs->l.length=n->n<4611686018427387904->F t l=some l'->
  Calls P f #[v] w (fun en w'=>en= .returned (.tuple #[])/\l'.length=n/\∃xs',w'.ownsRow 0 e t.cells v n xs'/\tX (Rd g w t) t.cells l' xs'/\w.grownBy w' v.ownBlock)
def D6 (P:Program) (Γ:tW):Prop:= ∀f s,f<1000000000->Γ f=some s->xI P f s.C/\∀F,s.row=some F->V5 P f F
theorem aAH {g:Gh}{w:pQ}{t:Ty}{x:t.den}{v:pR}{k:pO}(h:rH g w (.val t x,k) v):rH g w (.val t x,F4 t k) v:=by
 refine⟨h.1,?_⟩;cases t with
 |list u=>exact h.2
 |_=>trivial
theorem aJs {t:Ty}{k:pO}: ∀c,F4 t k=some c->∃u,t= .list u:=by
 cases t with
 |list u=>exact fun _ _=>⟨u,rfl⟩
 |_=>intro c h;cases h
theorem V6 {g g':Gh}{w:pQ}(hS:g'.S=g.S) {t:Ty}(hp:t.pure=true) {x:t.den}{v:pR}{k k':pO}(hl: ∀c,k=some c->∃u,t= .list u) (h:rH g w (.val t x,k) v) (hk: ∀c,k=some c->∃c',k'=some c'/\∀n u,g.cur c n=some u->g'.cur c' n=some u) (hk0:k=none->k'=none):rH g' w (.val t x,k') v:=by
 have hv:tO g' w t x v:=h.1.imp (fun⟨a,cs,e,q⟩=>⟨a,cs,e,wC hS hp q⟩) (fun⟨a,q⟩=>⟨a,wC hS hp q⟩);refine⟨hv,?_⟩;cases k with
 |none=>rw[hk0 rfl];trivial
 |some c=>
  obtain⟨c',rfl,h2⟩:=hk c rfl;have h1:=h.2;cases t with
  |list u=>exact h2 _ _ h1
  |pair a b=>obtain⟨u,e⟩:=hl c rfl;cases e
  |_=>exact h1.elim
section
variable {P:Program}{o:Oper}{a:Act}{g:Gh}{w:pQ}{H:s7}{T:sK}{Γ:tW}(hT:xH P T) (hΓ:D6 P Γ) (hH:sE g w H)
include hT hΓ hH
theorem a0y {ti:Option TI}{s:qB}{v:pR}(h:rH g w s v):rH g w (M8 ti s) v:=by
 unfold M8;split
 .have:v= .slice none 0 0:=h.1;subst this;exact⟨.inr ⟨rfl,none,0,rfl,aRE _,.inl rfl⟩,trivial⟩
 .exact h
theorem aAI {ρ:Operand->qB}: ∀{xs:List Operand}{ts:List TypeId},xs.length=ts.length->(∀x∈xs,rH g w (ρ x) (a.eval x))->vL g w (GC T ρ xs ts) (xs.map a.eval)
 |[],[],_,_=>rfl
 |x::xs,t::ts,h,hx=>⟨_,_,rfl,a0y hT hΓ hH (hx x pH),aAI (by simpa using h) (fun y hy=>hx y (by simp [hy]))⟩
theorem aJt {l m:List qB}{vs us:pM}(h:vL g w l vs) (k:vL g w m us):vL g w (l++m) (vs++us):=by
 induction l generalizing vs with
 |nil=>rw[show vs=[] from h];exact k
 |cons s l ih=>
  obtain⟨v,vs',rfl,h1,h2⟩:=h;exact⟨v,_,rfl,h1,ih h2⟩
theorem aAJ: ∀{caps:pK}{vs:pM},yI g caps vs->vL g w (ZK caps) vs
 |[],_,h=>h
 |(i,o)::caps,_,⟨p,vs',h1,h2,h3⟩=>⟨_,_,h2,⟨.inr ⟨rfl,p,h1,rfl⟩,trivial⟩,aAJ h3⟩
end
theorem aAK {P:Program}{o:Oper}{a:Act}{f:FuncId}{fop:Operand}{args:Array Operand}{tys:Array TypeId}(ho:o.op= .call ⟨.value fop,args,tys⟩) {caps:pM}(hf:a.eval fop= .func (.func f) #[] caps.toArray)
  (hen: ∀args w,(callFunc f args).run P w= .ok (.enter f args) w) {w:pQ}{K:Act->pQ->Prop}{Q:Exit->Act->pQ->Prop}
  (h:Calls P f ((args.toList.map a.eval)++caps).toArray w (fun e w'=> ∃v,e= .returned v/\K (a.put o.dst v) w')):o.wp P a w K Q:=by
 unfold Oper.wp;have:(execOp a.eval o).run P w= .ok (.enter f ((args.toList.map a.eval)++caps).toArray) w:=by
  unfold execOp;rw[ho];simp only[resolve,hf,Deferred.ofValue,aRy,aRI,aRp,invoke];rw[hen];congr 2;apply aSp.1;simp
 rw[this];unfold Oper.upon;refine h.mono fun e w' ⟨v,he,hk⟩=> ?_;subst he;exact hk
def wO (g:Gh):Option rG->Option Pl
 |some (.box i _ _ _ o)=>(g.J i).map fun p=>⟨p.1,p.2+o,p.3⟩
 |some (.tok k)=>g.J k
 |none=>none
def BE (g:Gh):Option rG->Nat->Option pR
 |some (.tok k),n=>g.cur k n
 |_,_=>none
def vP (g:Gh) (ws:List rG):Gh:=⟨g.S,fun c=>wO g ws[c]?,fun c n=>BE g ws[c]? n⟩
def V7 (H:s7) (ws:List rG):rG->q9->Prop
 | .box i u x toks o,.cells t y ts=>qD H i=some (.cells u x toks)/\r9 t u x o=some y/\∀q n,(q,n)∈ts->∃k,ws[n]? =some (.tok k)/\xO toks (o+q)=some k/\q<t.cells
 | .tok k,.grow e c m=>qD H k=some (.grow e c m)
 | .tok k,.map s t l=>qD H k=some (.map s t l)/\s.pure=true/\t.pure=true
 | .tok k,.row e t l n=>qD H k=some (.row e t l n)/\t.pure=true
 |_,_=>False
structure GH (H:s7) (ws:List rG) (L:List q9):Prop where
 len:ws.length=L.length
 ok: ∀(c:Nat) wh b,ws[c]? =some wh->L[c]? =some b->V7 H ws wh b
 nodup:(sD ws).Nodup
def a0z (ws:List rG) (t:Ty) (x y:t.den):Prop:=(t.pure=true/\y=x)\/D2 ws t x=some y
def V8 (H:s7) (ws:List rG):rG->q9->Prop
 | .box i u x toks o,.cells t y ts=>qD H i=some (.cells u x toks)/\(∃y0,r9 t u x o=some y0/\a0z ws t y0 y)/\∀q n,(q,n)∈ts->∃k,ws[n]? =some (.tok k)/\xO toks (o+q)=some k/\q<t.cells
 | .tok k,.grow e c m=>qD H k=some (.grow e c m)
 | .tok k,.map s t l=>qD H k=some (.map s t l)/\s.pure=true/\t.pure=true
 | .tok k,.row e t l n=>qD H k=some (.row e t l n)/\t.pure=true
 |_,_=>False
theorem V9 {i o:Nat}: ∀{ws:List rG}{c0:Nat}{c q:Nat},G8 i o ws c0=some (c,q)->∃d u x toks oc,c=c0+d/\ws[d]? =some (.box i u x toks oc)/\o=oc+q
 |[],_,_,_,h=>by simp [G8] at h
 | .box j u x toks oc::r,c0,c,q,h=>by
  simp only[G8] at h;split at h
  .rename_i hc;simp only[aRd,aRR] at h;obtain⟨rfl,rfl⟩:=h;obtain⟨rfl,h2⟩:=hc;exact⟨0,u,x,toks,oc,rfl,rfl,pF⟩
  .obtain⟨d,u',x',toks',oc',h1,h2,h3⟩:=V9 h;exact⟨d+1,u',x',toks',oc',pF,by simpa using h2,h3⟩
 | .tok k::r,c0,c,q,h=>by
  simp only[G8] at h;obtain⟨d,u',x',toks',oc',h1,h2,h3⟩:=V9 h;exact⟨d+1,u',x',toks',oc',pF,by simpa using h2,h3⟩
theorem MW {i:Nat}: ∀{ws:List rG}{c0 c:Nat},wS i ws c0=some c->∃d,c=c0+d/\ws[d]? =some (.tok i)
 |[],_,_,h=>by simp [wS] at h
 | .tok j::r,c0,c,h=>by
  simp only[wS] at h;split at h
  .rename_i hc;simp only[aRd] at h;subst h;subst hc;exact⟨0,rfl,rfl⟩
  .obtain⟨d,h1,h2⟩:=MW h;exact⟨d+1,pF,by simpa using h2⟩
 | .box _ _ _ _ _::r,c0,c,h=>by
  simp only[wS] at h;obtain⟨d,h1,h2⟩:=MW h;exact⟨d+1,pF,by simpa using h2⟩
theorem a0A {α β:Type}{a:Option α}{b:Option β}{p:α×β}(h:JX a b=some p):a=some p.1/\b=some p.2:=by
 cases a<;>cases b<;>simp [JX] at h
 subst h;exact⟨rfl,rfl⟩
theorem aJu {x y:Option (Nat×pK)}(h:OZ x=some y):y=x/\∀f l,x=some (f,l)->l=[]:=by
 unfold OZ at h;split at h
 .cases h;exact⟨rfl,fun _ _ h=>by cases h⟩
 .cases h;exact⟨rfl,fun _ _ h=>by cases h;rfl⟩
 .cases h
theorem aJv {g g':Gh}{x:Option (Nat×pK)}{cs:pM}(hx: ∀f l,x=some (f,l)->l=[]) (h:PO g x cs):PO g' x cs:=by
 cases x with
 |none=>exact h
 |some q=>
  obtain⟨f,l⟩:=q;obtain rfl:=hx f l rfl;exact h
theorem VA {g g':Gh}{w:pQ}(hS:g'.S=g.S) (f:(t:Ty)->t.den->Option t.den)
  (hp: ∀a b x,f (.pair a b) x=JX (if a.pure=true then some x.1 else f a x.1) (if b.pure=true then some x.2 else f b x.2))
  (hl: ∀t x,f (.list t) x=if t.pure=true then some x else none) (hb: ∀x,f .bool x=some x) (hi: ∀k x,f (.int k) x=some x) (hs: ∀x,f .str x=some x) (hu: ∀x,f .unit x=some x) (hfn: ∀x,f .fn x=some x) (hrl: ∀e t x y cs,f (.rl e t) x=some y->FA g x cs->FA g' y cs) (hmr: ∀x y cs,f .mref x=some y->PP g x cs->PP g' y cs)
  (hr: ∀x y cs,f .ref x=some y->PN g x cs->PN g' y cs) (hm: ∀x y cs,f .mp x=some y->KB g x cs->KB g' y cs) (hc: ∀x,f .clo x=OZ x):
  ∀{t:Ty}{x y:t.den}{cs:pM},Rd g w t x cs->f t x=some y->Rd g' w t y cs
 | .bool,_,_,_,r,h=>by rw[hb] at h;cases h;exact r
 | .int _,_,_,_,r,h=>by rw[hi] at h;cases h;exact r
 | .str,_,_,_,r,h=>by rw[hs] at h;cases h;exact r
 | .unit,_,_,_,r,h=>by rw[hu] at h;cases h;exact r
 | .rl e t,x,y,_,r,h=>hrl e t x y _ h r
 | .fn,_,_,_,r,h=>by rw[hfn] at h;cases h;exact r
 | .mref,x,y,_,r,h=>hmr x y _ h r
 | .list t,x,y,_,r,h=>by
  rw[hl] at h;split at h
  .rename_i hpu;cases h;exact wC hS (t:= .list t) (by simpa[Ty.pure] using hpu) r
  .cases h
 | .ref,x,y,_,r,h=>hr x y _ h r
 | .clo,x,y,_,r,h=>by
  rw[hc] at h;obtain⟨rfl,h2⟩:=aJu h;exact aJv h2 r
 | .mp,x,y,_,r,h=>hm x y _ h r
 | .pair a b,x,y,_,⟨c1,c2,e,r1,r2⟩,h=>by
  rw[hp] at h;obtain⟨h1,h2⟩:=a0A h;refine⟨c1,c2,e,?_,?_⟩
  .split at h1
   .rename_i hpu;exact(aRi h1)▸wC hS hpu r1
   .exact VA hS f hp hl hb hi hs hu hfn hrl hmr hr hm hc r1 h1
  .split at h2
   .rename_i hpu;exact(aRi h2)▸wC hS hpu r2
   .exact VA hS f hp hl hb hi hs hu hfn hrl hmr hr hm hc r2 h2
theorem a0B (f:(t:Ty)->t.den->Option t.den)
  (hp: ∀a b x,f (.pair a b) x=JX (if a.pure=true then some x.1 else f a x.1) (if b.pure=true then some x.2 else f b x.2))
  (hl: ∀t x,f (.list t) x=if t.pure=true then some x else none) {u:Ty}: ∀{t:Ty}{x y:t.den}{o:Nat}{l:List u.den},f t x=some y->r9 (.list u) t x o=some l->r9 (.list u) t y o=some l:=by
 intro t
 induction t with
 |pair a b iha ihb=>
  intro x y o l h hg;rw[hp] at h;obtain⟨h1,h2⟩:=a0A h;have key: ∀z:(Ty.pair a b).den,∀q,r9 (.list u) (.pair a b) z q=if q<a.cells then r9 (.list u) a z.1 q else r9 (.list u) b z.2 (q-a.cells):=by
   intro z q;cases q with
   |zero=>
    conv=>lhs;unfold r9
    rw[aSY (by intro e;cases e),Nat.zero_sub]
   |succ q=>simp [r9]
  rw[key] at hg|-;split
  .rename_i ho;rw[aRf ho] at hg;split at h1
   .rw[<-aRi h1];exact hg
   .exact iha h1 hg
  .rename_i ho;rw[aRk ho] at hg;split at h2
   .rw[<-aRi h2];exact hg
   .exact ihb h2 hg
 |list v=>
  intro x y o l h hg;rw[hl] at h;split at h
  .cases h;exact hg
  .cases h
 |_=>
  intro x y o l h hg;cases o with
  |zero=>
   unfold r9 at hg;split at hg
   .rename_i e;cases e
   .cases hg
  |succ o=>simp [r9] at hg
theorem aJw {g:Gh}{w:pQ}{ws:List rG}{t:Ty}{x y:t.den}{cs:pM}(r:Rd g w t x cs) (h:D2 ws t x=some y):Rd (vP g ws) w t y cs:=by
 refine VA (g:=g) (g':=vP g ws) rfl (D2 ws) (fun a b x=>rfl) (fun t x=>rfl) (fun _=>rfl) (fun _ _=>rfl) (fun _=>rfl) (fun _=>rfl) (fun _=>rfl) (fun _ _ x y cs h r=> ?_) (fun x y cs h r=> ?_) (fun x y cs h r=> ?_) (fun x y cs h r=> ?_) (fun _=>rfl) r h
 .cases x with
  |none=>cases h;exact r
  |some q=>
   obtain⟨k,n⟩:=q;simp only[D2,a9n] at h;cases hc:wS k ws 0 with
   |none=>rw[hc] at h;cases h
   |some c=>
    rw[hc] at h;cases h;obtain⟨d,rfl,h2⟩:=MW hc;obtain⟨v,hv,hs⟩:=r;refine⟨v,?_,hs⟩;show BE g ws[0+d]? n=_;rw[aRP,h2];exact hv
 .cases x with
  |none=>cases h;exact r
  |some q=>
   obtain⟨i,o⟩:=q;simp only[D2,TJ] at h;cases hc:G8 i o ws 0 with
   |none=>rw[hc] at h;cases h
   |some q=>
    obtain⟨c,q⟩:=q;rw[hc] at h;cases h;obtain⟨d,u,x,toks,oc,rfl,h2,rfl⟩:=V9 hc;obtain⟨p,hp,hv⟩:=r;refine⟨⟨p.1,p.2+oc,p.3⟩,?_,by have:=hv.1;rwa [<-aRZ] at this,hv.2.imp id fun hv=>by rw[hv];simp [aRZ]⟩;show wO g ws[0+d]? =_;rw[aRP,h2];simp [wO,hp]
 .cases x with
  |none=>cases h;exact r
  |some q=>
   obtain⟨i,o⟩:=q;simp only[D2,TJ] at h;cases hc:G8 i o ws 0 with
   |none=>rw[hc] at h;cases h
   |some q=>
    obtain⟨c,q⟩:=q;rw[hc] at h;cases h;obtain⟨d,u,x,toks,oc,rfl,h2,rfl⟩:=V9 hc;obtain⟨p,hp,hv⟩:=r;refine⟨⟨p.1,p.2+oc,p.3⟩,?_,by rw[hv];simp [aRZ]⟩;show wO g ws[0+d]? =_;rw[aRP,h2];simp [wO,hp]
 .cases x with
  |none=>cases h;exact r
  |some i=>
   simp only[D2,a9m] at h;cases hc:wS i ws 0 with
   |none=>rw[hc] at h;cases h
   |some c=>
    rw[hc] at h;cases h;obtain⟨d,rfl,h2⟩:=MW hc;obtain⟨p,hp,hv⟩:=r;refine⟨p,?_,hv⟩;show wO g ws[0+d]? =_;rw[aRP,h2];exact hp
theorem aJx {g:Gh}{w:pQ}{ws:List rG}{t:Ty}{x y:t.den}{cs:pM}(h:a0z ws t x y) (r:Rd g w t x cs):Rd (vP g ws) w t y cs:=by
 rcases h with⟨hp,rfl⟩ |h
 .exact wC (g:=g) (g':=vP g ws) rfl hp r
 .exact aJw r h
theorem aJy {ws:List rG}{t u:Ty}{x y:t.den}{o:Nat}{l:List u.den}(h:a0z ws t x y) (hg:r9 (.list u) t x o=some l):r9 (.list u) t y o=some l:=by
 rcases h with⟨_,rfl⟩ |h
 .exact hg
 .exact a0B (D2 ws) (fun _ _ _=>rfl) (fun _ _=>rfl) h hg
structure Q2 (H:s7) (ws:List rG) (L:List q9):Prop where
 len:ws.length=L.length
 ok: ∀(c:Nat) wh b,ws[c]? =some wh->L[c]? =some b->V8 H ws wh b
 nodup:(sD ws).Nodup
theorem a0C: ∀(ws:List rG) (c:Nat),(sD ws)[c]? =(ws[c]?).map rG.id
 |[],c=>by simp [sD]
 |w::ws,0=>rfl
 |w::ws,c+1=>by simpa[sD] using a0C ws c
theorem ID: ∀ws ws':List rG,sD (ws++ws')=sD ws++sD ws'
 |[],_=>rfl
 |w::ws,ws'=>by simp [sD,ID ws ws']
theorem IE: ∀{i:Nat}{l:pP},C1 i l=true↔i∈l
 |i,[]=>by simp [C1]
 |i,j::r=>by
  simp only[C1,aRu];by_cases h:i=j
  .simp [h]
  .rw[aRk h,IE];simp [h]
theorem VB {ws:List rG}(h:(sD ws).Nodup) {c c':Nat}{x y:rG}(hx:ws[c]? =some x) (hy:ws[c']? =some y) (he:x.id=y.id):c=c':=by
 have h1:(sD ws)[c]? =some x.id:=by rw[a0C,hx];rfl
 have h2:(sD ws)[c']? =some x.id:=by rw[a0C,hy,he];rfl
 obtain⟨l1,e1⟩:=aRs.1 h1;obtain⟨l2,e2⟩:=aRs.1 h2;have hp:=aSq.1 h;rcases Nat.lt_trichotomy c c' with h3|h3|h3
 .exact absurd (e1.trans e2.symm) (hp c c' l1 l2 h3)
 .exact h3
 .exact absurd (e2.trans e1.symm) (hp c' c l2 l1 h3)
theorem aAL: ∀{toks:pK}{q k:Nat},xO toks q=some k->(q,k)∈toks
 |[],_,_,h=>by simp [xO] at h
 |(q',k')::r,q,k,h=>by
  simp only[xO] at h;split at h
  .rename_i e;subst e;simp only[aRd] at h;subst h;simp
  .exact aRo _ (aAL h)
theorem aJz {v t:Ty}: ∀{u:Ty}{x:u.den}{o q:Nat}{y:t.den}{l:(Ty.list v).den},r9 t u x o=some y->r9 (.list v) u x (o+q)=some l->q<t.cells->r9 (.list v) t y q=some l:=by
 intro u
 induction u with
 |pair a b iha ihb=>
  intro x o q y l h g hq;by_cases hu:o=0/\t= .pair a b
  .obtain⟨rfl,rfl⟩:=hu;unfold r9 at h;rw[aTj rfl] at h;simp only[uY,aRd] at h;subst h;simpa using g
  .have keyh:(if o<a.cells then r9 t a x.1 o else r9 t b x.2 (o-a.cells))=some y:=by
    cases o with
    |zero=>
     unfold r9 at h;rw[aSY (fun e=>hu ⟨rfl,e.symm⟩)] at h;simpa using h
    |succ o=>simpa[r9] using h
   have keyg: ∀z,r9 (.list v) (.pair a b) x z=(if z<a.cells then r9 (.list v) a x.1 z else r9 (.list v) b x.2 (z-a.cells)):=by
    intro z;cases z with
    |zero=>
     conv=>lhs;unfold r9
     rw[aSY (by intro e;cases e),Nat.zero_sub]
    |succ z=>simp [r9]
   rw[keyg] at g;by_cases ho:o<a.cells
   .rw[aRf ho] at keyh;have hfit:o+t.cells<=a.cells:=by
     have: ∀{u:Ty}{x:u.den}{o:Nat}{y:t.den},r9 t u x o=some y->o+t.cells<=u.cells:=by
      intro u
      induction u with
      |pair a b iha ihb=>
       intro x o y h;have key: ∀o,(if o<a.cells then r9 t a x.1 o else r9 t b x.2 (o-a.cells))=some y->o+t.cells<=a.cells+b.cells:=by
        intro o h;by_cases ho:o<a.cells
        .rw[aRf ho] at h;have:=iha h;omega
        .rw[aRk ho] at h;have:=ihb h;omega
       cases o with
       |zero=>
        unfold r9 at h;split at h
        .rename_i e;subst e;simp
        .exact key 0 (by simpa using h)
       |succ o=>exact key (o+1) (by simpa[r9] using h)
      |_=>
       intro x o y h;cases o with
       |zero=>
        unfold r9 at h;split at h
        .rename_i e;subst e;simp
        .simp at h
       |succ o=>simp [r9] at h
     exact this keyh
    rw[aRf pF] at g;exact iha keyh g hq
   .rw[aRk ho] at keyh;rw[aRk pF,show o+q-a.cells=o-a.cells+q from by omega] at g;exact ihb keyh g hq
 |_=>
  intro x o q y l h g hq;cases o with
  |zero=>
   unfold r9 at h;split at h
   .rename_i e;subst e;simp only[uY,aRd] at h
    try subst h
    simpa using g
   .simp at h
  |succ o=>simp [r9] at h
theorem aJA {g:Gh}{w:pQ}{H:s7}{ws:List rG}{L:List q9}(hH:sE g w H) (hm:Q2 H ws L):sE (vP g ws) w (qM 0 L):=by
 have wsL: ∀c b,qD (qM 0 L) c=some b->∃wh,ws[c]? =some wh/\V8 H ws wh b:=by
  intro c b h;rw[x9] at h;have hlt:c<ws.length:=hm.len▸(aRs.1 h).1;exact⟨ws[c],aRr hlt,hm.ok c _ b (aRr hlt) h⟩
 have own: ∀c b wh,ws[c]? =some wh->V8 H ws wh b->∀bb oo,sA (vP g ws) c b bb oo->∃blk,qD H wh.id=some blk/\sA g wh.id blk bb oo:=by
  intro c b wh hwh hw bb oo ho;cases wh with
  |box i u x toks off=>
   cases b with
   |cells t y ts=>
    obtain⟨h1,⟨y0,h2,h3⟩,h4⟩:=hw;obtain⟨p,hp,e1,e2,e3⟩:=ho;have hp':wO g ws[c]? =some p:=hp;rw[hwh] at hp';obtain⟨p0,hp0,rfl⟩:=aRn.1 hp';obtain⟨p1,cs,hp1,hR,_⟩:=hH.blk i _ h1;obtain⟨c1,c2,c3,hcs,hl,hR2⟩:=DY hR h2;have l1:=sR hR;have l2:=sR hR2;rw[hcs] at l1;simp only[aRg] at l1;exact⟨_,h1,p0,hp0,e1,by simp at e2;omega,by simp at e3;omega⟩
   |_=>exact hw.elim
  |tok k=>
   cases b with
   |grow e cc m=>
    obtain⟨v,hv,hb⟩:=ho;have hv':BE g ws[c]? m=some v:=hv;rw[hwh] at hv';exact⟨_,hw,v,hv',hb⟩
   |map s t l=>
    obtain⟨p,hp,hb⟩:=ho;have hp':wO g ws[c]? =some p:=hp;rw[hwh] at hp';exact⟨_,hw.1,p,hp',hb⟩
   |row e t l m=>
    obtain⟨v,hv,hb⟩:=ho;have hv':BE g ws[c]? m=some v:=hv;rw[hwh] at hv';exact⟨_,hw.1,v,hv',hb⟩
   |_=>exact hw.elim
 refine⟨fun c b h=> ?_,fun c c' b b' bb oo hne h1 h2 o1 o2=> ?_,hH.sl,hH.tab.1,fun c b bb oo h ho=> ?_⟩
 rotate_right
 .obtain⟨wh,hwh,hw⟩:=wsL c b h;obtain⟨k1,g1,p1⟩:=own c b wh hwh hw bb oo ho;exact hH.tab.2 _ _ bb oo g1 p1
 .obtain⟨wh,hwh,hw⟩:=wsL c b h;cases wh with
  |box i u x toks off=>
   cases b with
   |cells t y ts=>
    obtain⟨h1,⟨y0,h2,h3⟩,h4⟩:=hw;obtain⟨p,cs,hp,hR,hra,hth,hns,htk⟩:=hH.blk i _ h1;obtain⟨c1,c2,c3,rfl,rfl,hR2⟩:=DY hR h2;have l1:=sR hR;have l2:=sR hR2;simp only[aRg] at l1;refine⟨⟨p.1,p.2+c1.length,p.3⟩,c2,?_,aJx h3 hR2,fun j v hv=> ?_,⟨fun j hj=> ?_,fun h0 s hs=>hth.2 pF s hs⟩,fun j hj hs=> ?_,fun q n hm'=> ?_⟩
    .show wO g ws[c]? =_;rw[hwh];simp [wO,hp]
    .have:=hra (c1.length+j) v (by
      have hj':=(aRs.1 hv).1;rw[aRl,aRt pF,aR5,aRz hj'];exact hv)
     rw[aRZ];exact this
    .have:=hth.1 (c1.length+j) pF;rw[aRZ];exact this
    .exact hns (c1.length+j) pF (by rw[<-aRZ];exact hs)
    .obtain⟨k,k1,k2,k3⟩:=h4 q n hm';have hmem:(c1.length+q,k)∈toks:=aAL k2;obtain⟨u',l,v,g1,g2,g3⟩:=htk _ _ hmem;refine⟨u',l,v,aJy h3 (aJz h2 g1 k3),?_,?_⟩
     .rw[aRl,aRt pF,aR5,aRz pF] at g2;exact g2
     .show BE g ws[n]? _=_;rw[k1];exact g3
   |_=>exact hw.elim
  |tok k=>
   cases b with
   |grow e cc m=>
    have e1:(vP g ws).cur c=g.cur k:=by
     funext n;show BE g ws[c]? n=_;rw[hwh];rfl
    obtain⟨v,xs,hv,hr,hn,hs⟩:=hH.blk k _ hw;exact⟨v,xs,by rw[e1];exact hv,hr,fun m hm'=>by rw[e1];exact hn m hm',hs⟩
   |map s t l=>
    obtain⟨p,es,cl,hp,hp0,hh,hM,hS⟩:=hH.blk k _ hw.1;refine⟨p,es,cl,?_,hp0,hh,PQ (g:=g) (g':=vP g ws) rfl hw.2.1 hw.2.2 hM,hS⟩;show wO g ws[c]? =_;rw[hwh];exact hp
   |row e t l m=>
    have e1:(vP g ws).cur c=g.cur k:=by
     funext n;show BE g ws[c]? n=_;rw[hwh];rfl
    obtain⟨hl,v,xs,hv,hr,hF,hn,hs⟩:=hH.blk k _ hw.1;exact⟨hl,v,xs,by rw[e1];exact hv,hr,D4 (fun _ _ h=>wC (g:=g) (g':=vP g ws) rfl hw.2 h) hF,fun m hm'=>by rw[e1];exact hn m hm',hs⟩
   |_=>exact hw.elim
 .obtain⟨wh,hwh,hw⟩:=wsL c b h1;obtain⟨wh',hwh',hw'⟩:=wsL c' b' h2;obtain⟨k1,g1,p1⟩:=own c b wh hwh hw bb oo o1;obtain⟨k2,g2,p2⟩:=own c' b' wh' hwh' hw' bb oo o2;exact hH.dis wh.id wh'.id k1 k2 bb oo (fun e=>hne (VB hm.nodup hwh hwh' e)) g1 g2 p1 p2
theorem aAM {H:s7}{ws more:List rG}: ∀{wh:rG}{b:q9},V7 H ws wh b->V7 H (ws++more) wh b
 | .box _ _ _ _ _,.cells _ _ _,⟨h1,h2,h4⟩=>⟨h1,h2,fun q n h=>let ⟨k,k1,k2⟩:=h4 q n h;⟨k,by rw[aRz (aRs.1 k1).1];exact k1,k2⟩⟩
 | .box _ _ _ _ _,.grow _ _ _,h=>h.elim
 | .box _ _ _ _ _,.dead,h=>h.elim
 | .box _ _ _ _ _,.row _ _ _ _,h=>h.elim
 | .box _ _ _ _ _,.map _ _ _,h=>h.elim
 | .box _ _ _ _ _,.iter _ _,h=>h.elim
 | .tok _,.iter _ _,h=>h.elim
 | .tok _,.row _ _ _ _,h=>h
 | .tok _,.grow _ _ _,h=>h
 | .tok _,.map _ _ _,h=>h
 | .tok _,.cells _ _ _,h=>h.elim
 | .tok _,.dead,h=>h.elim
theorem MX (g:Gh) (w:pQ) (ws more:List rG):Le (vP g ws) w (vP g (ws++more)) w:=by
 refine⟨fun _ _ h=>h,fun _ _ _=>rfl,fun c p h=> ?_,fun c n v h=> ?_⟩
 .have h':wO g ws[c]? =some p:=h;show wO g (ws++more)[c]? =some p;cases hc:ws[c]? with
  |none=>rw[hc] at h';cases h'
  |some wh=>rw[aRz (aRs.1 hc).1];exact h'
 .have h':BE g ws[c]? n=some v:=h;show BE g (ws++more)[c]? n=some v;cases hc:ws[c]? with
  |none=>rw[hc] at h';cases h'
  |some wh=>rw[aRz (aRs.1 hc).1];exact h'
theorem MY {g g':Gh}{w w':pQ}(h:Le g w g' w'): ∀{ss:List qB}{vs:pM},vL g w ss vs->vL g' w' ss vs
 |[],_,r=>r
 |_::_,_,⟨v,vs',e,r1,r2⟩=>⟨v,vs',e,BC h r1,MY h r2⟩
theorem GI {g:Gh}{w:pQ}: ∀{ss:List qB}{vs:pM}{s:qB}{v:pR},vL g w ss vs->rH g w s v->vL g w (ss++[s]) (vs++[v])
 |[],_,_,_,h,k=>by rw[show _=[] from h];exact⟨_,_,rfl,k,rfl⟩
 |_::_,_,_,_,⟨v,vs',e,r1,r2⟩,k=>⟨v,vs'++_,by rw[e];rfl,r1,GI r2 k⟩
theorem GH.tok {H:s7}{ws:List rG}{L:List q9}(h:GH H ws L) {k:Nat}{b0:q9}(hk:V7 H (ws++[.tok k]) (.tok k) b0) (hn:k∉sD ws):GH H (ws++[.tok k]) (L++[b0]):=by
 refine⟨by simp [h.len],fun i wh b h1 h2=> ?_,?_⟩
 .by_cases hi:i<ws.length
  .rw[aRz hi] at h1;rw[aRz (h.len▸hi)] at h2;exact aAM (h.ok i wh b h1 h2)
  .rw[aRt pF] at h1;rw[aRt (by rw[<-h.len];omega),<-h.len] at h2;obtain⟨d,hd⟩: ∃d,i-ws.length=d:=⟨_,rfl⟩;rw[hd] at h1 h2;cases d with
   |zero=>
    simp only[aRM,aRd] at h1 h2;subst h1;subst h2;exact hk
   |succ d=>simp at h1
 .rw[ID];exact List.nodup_append.2 ⟨h.nodup,by simp [sD],fun a ha b hb=>by
   simp only[sD,rG.id,aRv] at hb;subst hb;intro e;exact hn (e▸ha)⟩
theorem aAN: ∀{os:pP}{n q m:Nat},(q,m)∈JV os n->∃j:Nat,os[j]? =some q/\m=n+j
 |[],_,_,_,h=>by simp [JV] at h
 |q'::os,n,q,m,h=>by
  simp only[JV,aRu,aRR] at h;rcases h with⟨rfl,rfl⟩ |h
  .exact⟨0,rfl,rfl⟩
  .obtain⟨j,h1,h2⟩:=aAN h;exact⟨j+1,by simpa using h1,pF⟩
theorem aAO {n:Nat}: ∀{os:pP}{j q:Nat},M9 n os=true->os[j]? =some q->q<n
 |[],_,_,_,h=>by simp at h
 |q'::os,0,q,h,h2=>by
  simp only[M9,aRw,aRG] at h;simp only[aRM,aRd] at h2;exact h2▸h.1
 |q'::os,j+1,q,h,h2=>by
  simp only[M9,aRw] at h;exact aAO h.2 (by simpa using h2)
theorem VC {H:s7}{toks:pK}{o:Nat}: ∀{os:pP}{a a':t7},yU H toks o os (some a)=some a'->
  ∃(ks:pP) (bs:List q9),ks.length=os.length/\bs.length=os.length/\a'.args=a.args/\a'.H.reverse=a.H.reverse++bs/\a'.ws.reverse=a.ws.reverse++ks.map rG.tok/\a'.n=a.n+os.length/\
   (∀(j:Nat) q k,os[j]? =some q->ks[j]? =some k->xO toks (o+q)=some k)/\(∀(j:Nat) k b,ks[j]? =some k->bs[j]? =some b->qD H k=some b/\∃e c m,b= .grow e c m)/\(∀k∈ks,k∉sD a.ws.reverse)/\ks.Nodup
 |[],a,a',h=>by
  simp only[yU,aRd] at h;subst h;exact⟨[],[],rfl,rfl,rfl,by simp,by simp,rfl,by simp,by simp,by simp,by simp⟩
 |q::os,a,a',h=>by
  simp only[yU] at h;have none_no: ∀os,yU H toks o os none=none:=by
   intro os
   induction os with
   |nil=>rfl
   |cons q os ih=>
    have:zK H (xO toks (o+q)) none=none:=by
     cases xO toks (o+q) with
     |none=>rfl
     |some k=>simp only[zK];cases qD H k with
      |none=>rfl
      |some b=>cases b<;>rfl
    simp only[yU,this,ih]
  cases hk:xO toks (o+q) with
  |none=>rw[hk] at h;simp only[zK,none_no] at h;cases h
  |some k=>
   rw[hk] at h;simp only[zK] at h;cases hb:qD H k with
   |none=>rw[hb] at h;simp only[C2,none_no] at h;cases h
   |some b=>
    rw[hb] at h;cases b with
    |grow e c m=>
     simp only[C2] at h;by_cases hm:C1 k (sD a.ws)=true
     .rw[aRf hm,none_no] at h;cases h
     .rw[aRk hm] at h;obtain⟨ks,bs,h1,h2,h3,h4,h5,h6,h7,h8,h9,h10⟩:=VC h;simp only[aR4] at h4 h5 h9;have hrev: ∀ws:List rG,∀i,i∈sD ws.reverse↔i∈sD ws:=by
       intro ws i
       induction ws with
       |nil=>simp
       |cons x r ih=>rw[aR4,ID];simp [sD,ih,or_comm]
      refine⟨k::ks,.grow e c m::bs,by simp [h1],by simp [h2],h3,by rw[h4];simp,by rw[h5];simp,by rw[h6];simp;omega,fun j q' k'=> ?_,fun j k' b'=> ?_,fun k' hk'=> ?_,?_⟩
      .cases j with
       |zero=>intro e1 e2;simp only[aRM,aRd] at e1 e2;subst e1;subst e2;exact hk
       |succ j=>intro e1 e2;exact h7 j q' k' (by simpa using e1) (by simpa using e2)
      .cases j with
       |zero=>intro e1 e2;simp only[aRM,aRd] at e1 e2;subst e1;subst e2;exact⟨hb,_,_,_,rfl⟩
       |succ j=>intro e1 e2;exact h8 j k' b' (by simpa using e1) (by simpa using e2)
      .rcases aRu.1 hk' with rfl|hk'
       .rw[hrev];exact fun hmem=>hm (IE.2 hmem)
       .intro hmem;exact h9 k' hk' (by rw[ID];exact List.mem_append_left _ hmem)
      .refine List.nodup_cons.2 ⟨fun hmem=>h9 k hmem (by rw[ID];simp [sD,rG.id]),h10⟩
    |cells t y ts=>simp only[C2,none_no] at h;cases h
    |row=>simp only[C2,none_no] at h;cases h
    |map=>simp only[C2,none_no] at h;cases h
    |iter=>simp only[C2,none_no] at h;cases h
    |dead=>simp only[C2,none_no] at h;cases h
theorem aAP: ∀ks:pP,sD (ks.map rG.tok)=ks
 |[]=>rfl
 |k::ks=>by simp [sD,rG.id,aAP ks]
theorem GH.box {H:s7}{ws:List rG}{L:List q9}(h:GH H ws L) {t u:Ty}{x:u.den}{y:t.den}{toks:pK}{i o:Nat}{os ks:pP}{bs:List q9}(hi:qD H i=some (.cells u x toks)) (hy:r9 t u x o=some y) (hlt:M9 t.cells os=true) (hn:i∉sD ws)
  (h1:ks.length=os.length) (h2:bs.length=os.length) (h7: ∀(j:Nat) q k,os[j]? =some q->ks[j]? =some k->xO toks (o+q)=some k) (h8: ∀(j:Nat) k b,ks[j]? =some k->bs[j]? =some b->qD H k=some b/\∃e c m,b= .grow e c m) (h9: ∀k∈ks,k∉sD (ws++[.box i u x toks o])) (h10:ks.Nodup):
  GH H ((ws++[.box i u x toks o])++ks.map rG.tok) ((L++[.cells t y (JV os (ws.length+1))])++bs):=by
 have hlen1:(ws++[rG.box i u x toks o]).length=ws.length+1:=by simp
 have hlen2:(L++[q9.cells t y (JV os (ws.length+1))]).length=ws.length+1:=by simp [h.len]
 refine⟨by simp [h.len,h1,h2],fun c wh b e1 e2=> ?_,?_⟩
 .by_cases hc:c<ws.length
  .rw[aRz pF,aRz hc] at e1;rw[aRz pF,aRz (h.len▸hc)] at e2;rw[aRl];exact aAM (h.ok c wh b e1 e2)
  .by_cases hc2:c=ws.length
   .subst hc2;rw[aRz pF,aRt (aRE _),aTi] at e1;rw[aRz pF,aRt (by rw[h.len];exact aRE _),h.len,aTi] at e2;simp only[aRM,aRd] at e1 e2;subst e1;subst e2;refine⟨hi,hy,fun q n hm=> ?_⟩;rw[<-h.len] at hm;obtain⟨j,hj,rfl⟩:=aAN hm;have hjl:j<ks.length:=by rw[h1];exact(aRs.1 hj).1
    refine⟨ks[j],?_,h7 j q _ hj (aRr hjl),aAO hlt hj⟩;rw[aRt pF,hlen1,show ws.length+1+j- (ws.length+1)=j from by omega];simp [hjl]
   .rw[aRt pF,hlen1] at e1;rw[aRt pF,hlen2] at e2;rw[List.getElem?_map] at e1;obtain⟨k,hk,rfl⟩:=aRn.1 e1;obtain⟨hg,e,cc,m,rfl⟩:=h8 _ k b hk e2;exact hg
 .rw[ID,aAP];refine List.nodup_append.2 ⟨?_,h10,fun a ha b hb e=>h9 b hb (e▸ha)⟩;rw[ID];exact List.nodup_append.2 ⟨h.nodup,by simp [sD],fun a ha b hb=>by
   simp only[sD,rG.id,aRv] at hb;subst hb;intro e;exact hn (e▸ha)⟩
theorem VD (ws:List rG) (i:Nat):i∈sD ws.reverse↔i∈sD ws:=by
 induction ws with
 |nil=>simp
 |cons x r ih=>rw[aR4,ID];simp [sD,ih,or_comm]
structure BF (g:Gh) (w:pQ) (H:s7) (vals:pM) (a:t7):Prop where
 n:a.n=a.ws.reverse.length
 m:GH H a.ws.reverse a.H.reverse
 args:vL (vP g a.ws.reverse) w a.args.reverse vals
theorem aJB {g:Gh}{w:pQ}{ws:List rG}{t:Ty}(hp:t.pure=true) {x:t.den}{v:pR}{k:pO}(h:rH g w (.val t x,k) v):rH (vP g ws) w (.val t x,none) v:=
 ⟨h.1.imp (fun⟨a,cs,e,q⟩=>⟨a,cs,e,wC (g:=g) (g':=vP g ws) rfl hp q⟩) (fun⟨a,q⟩=>⟨a,wC (g:=g) (g':=vP g ws) rfl hp q⟩),trivial⟩
theorem aJC {H:s7}{k:pO}{a b:t7}{l m:List qB}(h:zK H k (some ⟨l,a.H,a.ws,a.n⟩)=some b):b.args=l/\zK H k (some ⟨m,a.H,a.ws,a.n⟩)=some ⟨m,b.H,b.ws,b.n⟩:=by
 cases k with
 |none=>cases h
 |some k=>
  simp only[zK] at h|-;cases hb:qD H k with
  |none=>rw[hb] at h;simp [C2] at h
  |some bl=>
   rw[hb] at h;cases bl with
   |grow e c n=>
    simp only[C2] at h|-;split at h
    .cases h
    .rename_i hc;rw[aRk hc];cases h;exact⟨rfl,rfl⟩
   |_=>simp [C2] at h
theorem aAQ {H:s7}{toks:pK}{o:Nat}{m:List qB}: ∀{os:pP}{a b:t7},yU H toks o os (some a)=some b->b.args=a.args/\yU H toks o os (some ⟨m,a.H,a.ws,a.n⟩)=some ⟨m,b.H,b.ws,b.n⟩
 |[],a,b,h=>by simp only[yU,aRd] at h;subst h;exact⟨rfl,rfl⟩
 |q::os,a,b,h=>by
  simp only[yU] at h|-;have none_no: ∀os,yU H toks o os none=none:=by
   intro os
   induction os with
   |nil=>rfl
   |cons q os ih=>
    have:zK H (xO toks (o+q)) none=none:=by
     cases xO toks (o+q) with
     |none=>rfl
     |some k=>simp only[zK];cases qD H k with
      |none=>rfl
      |some b=>cases b<;>rfl
    simp only[yU,this,ih]
  cases hm:zK H (xO toks (o+q)) (some a) with
  |none=>rw[hm,none_no] at h;cases h
  |some c=>
   rw[hm] at h;obtain⟨h1,h2⟩:=aJC (a:=a) (l:=a.args) (m:=m) hm;obtain⟨h3,h4⟩:=aAQ (m:=m) h;rw[h2];exact⟨h3.trans h1,h4⟩
theorem aJD {H:s7}{t:Ty}{os:pP}{i o:Nat}{a b:t7}{m:List qB}(h:wB H t os i o a (qD H i)=some b):wB H t os i o ⟨m,a.H,a.ws,a.n⟩ (qD H i)=some ⟨(.val .ref (some (a.n,0)),none)::m,b.H,b.ws,b.n⟩:=by
 cases hb:qD H i with
 |none=>rw[hb] at h;simp [wB] at h
 |some bl=>
  rw[hb] at h;cases bl with
  |cells u x toks=>
   simp only[wB] at h|-;cases hy:r9 t u x o with
   |none=>rw[hy] at h;simp [F5] at h
   |some y=>
    rw[hy] at h;simp only[F5] at h|-;split at h
    .rename_i hc;rw[aRf hc];exact(aAQ (m:=(.val .ref (some (a.n,0)),none)::m) h).2
    .cases h
  |_=>simp [wB] at h
theorem aAR {g:Gh}{i o:Nat}{p:Pl}{v:pR}: ∀{l:pK}{vs:pM},yI g l vs->g.J i=some p->v= .pointer (some ⟨p.1,p.2+o,none⟩)->yI g (l++[(i,o)]) (vs++[v])
 |[],vs,h,hp,hv=>by rw[show vs=[] from h];exact⟨p,[],hp,by rw[hv];rfl,rfl⟩
 |(_,_)::l,vs,⟨q,vs',h1,h2,h3⟩,hp,hv=>⟨q,vs'++[v],h1,by rw[h2];rfl,aAR h3 hp hv⟩
theorem aAS {α:Type}: ∀(l acc:List α),zJ l acc=l.reverse++acc
 |[],_=>rfl
 |x::l,acc=>by simp [zJ,aAS l]
theorem aAT {g:Gh}{w:pQ}{H:s7}(hH:sE g w H) {t:Ty}{os:pP}{i o:Nat}{vals:pM}{a a':t7}(ha:BF g w H vals a) {p:Pl}(hp:g.J i=some p) (h:wB H t os i o a (qD H i)=some a'):
  BF g w H vals ⟨a.args,a'.H,a'.ws,a'.n⟩/\∃more,a'.ws.reverse=a.ws.reverse++more/\a'.args=(.val .ref (some (a.n,0)),none)::a.args/\(vP g a'.ws.reverse).J a.n=some ⟨p.1,p.2+o,p.3⟩:=by
 cases hb:qD H i with
 |none=>rw[hb] at h;simp [wB] at h
 |some b=>
  rw[hb] at h;cases b with
  |cells u x toks=>
   simp only[wB] at h;cases hy:r9 t u x o with
   |none=>rw[hy] at h;simp [F5] at h
   |some y=>
    rw[hy] at h;simp only[F5] at h;split at h
    .rename_i hc;simp only[aRw,aRK] at hc;obtain⟨ks,bs,h1,h2,h3,h4,h5,h6,h7,h8,h9,h10⟩:=VC h;simp only[aR4] at h3 h4 h5 h6 h9;have hnm:i∉sD a.ws.reverse:=fun hmem=>by
      have:=IE.2 ((VD _ _).1 hmem);rw[hc.2] at this;cases this
     have e5:a'.ws.reverse=a.ws.reverse++([rG.box i u x toks o]++ks.map rG.tok):=by rw[h5];simp only[aRl]
     refine⟨⟨by rw[h6];simp only;rw[h5,ha.n];simp [h1];omega,?_,?_⟩,_,e5,h3,?_⟩
     .simp only;rw[h4,h5,ha.n];exact ha.m.box hb hy hc.1 hnm h1 h2 h7 h8 h9 h10
     .simp only;rw[e5];exact MY (MX g w _ _) ha.args
     .show wO g a'.ws.reverse[a.n]? =_;rw[e5,ha.n,aRt (aRE _),aTi];show (g.J i).map _=_;rw[hp];rfl
    .cases h
  |grow=>simp [wB] at h
  |row=>simp [wB] at h
  |map=>simp [wB] at h
  |iter=>simp [wB] at h
  |dead=>simp [wB] at h
theorem aAU {H:s7}{f:FuncId}{args0:List qB}: ∀{ks:List (Ty×pP)}{cs ids:pK}{a a':t7},y3 H f args0 ks cs ids (some a)=some a'->∃s more,a'.args=s::args0/\a'.ws.reverse=a.ws.reverse++more
 |[],[],ids,a,a',h=>by
  simp only[y3,aRd] at h;subst h;exact⟨_,[],rfl,by simp⟩
 |[],_::_,_,_,_,h=>by simp [y3] at h
 |_::_,[],_,_,_,h=>by simp [y3] at h
 |(t,os)::ks,(i,o)::cs,ids,a,a',h=>by
  simp only[y3] at h;cases hb:wB H t os i o a (qD H i) with
  |none=>rw[hb] at h;cases ks<;>cases cs<;>simp [y3] at h
  |some b=>
   rw[hb] at h;obtain⟨s,more,h1,h2⟩:=aAU h;obtain⟨more0,h3⟩: ∃more0,b.ws.reverse=a.ws.reverse++more0:=by
    unfold wB at hb;split at hb
    .unfold F5 at hb;split at hb
     .split at hb
      .obtain⟨ks,bs,_,_,_,_,h5,_⟩:=VC hb;exact⟨_,by rw[h5];simp only[aR4];exact aRl ..⟩
      .cases hb
     .cases hb
    .cases hb
   exact⟨s,more0++more,h1,by rw[h2,h3,aRl]⟩
theorem aAV {g:Gh}{w:pQ}{H:s7}(hH:sE g w H) {f:FuncId}{args0:List qB}{vals:pM}: ∀{ks:List (Ty×pP)}{cs:pK}{ids:pK}{vs us:pM}{a a':t7},BF g w H vals ⟨args0,a.H,a.ws,a.n⟩->
  yI g cs vs->yI (vP g a.ws.reverse) ids.reverse us->y3 H f args0 ks cs ids (some a)=some a'->
  BF g w H vals ⟨args0,a'.H,a'.ws,a'.n⟩/\∃ids',a'.args=(.val .clo (some (f,ids')),none)::args0/\(∃more,a'.ws.reverse=a.ws.reverse++more)/\yI (vP g a'.ws.reverse) ids' (us++vs)
 |[],[],ids,vs,us,a,a',ha,hv,hu,h=>by
  simp only[y3,aAS,List.append_nil,aRd] at h;subst h;rw[show vs=[] from hv,List.append_nil];exact⟨ha,_,rfl,⟨[],by simp⟩,hu⟩
 |[],_::_,_,_,_,_,_,_,_,_,h=>by simp [y3] at h
 |_::_,[],_,_,_,_,_,_,_,_,h=>by simp [y3] at h
 |(t,os)::ks,(i,o)::cs,ids,vs,us,a,a',ha,⟨p,vs',hp,hv1,hv2⟩,hu,h=>by
  simp only[y3] at h;cases hb:wB H t os i o a (qD H i) with
  |none=>rw[hb] at h;cases ks<;>cases cs<;>simp [y3] at h
  |some b=>
   rw[hb] at h;have hb':wB H t os i o ⟨args0,a.H,a.ws,a.n⟩ (qD H i)=some ⟨(.val .ref (some (a.n,0)),none)::args0,b.H,b.ws,b.n⟩:=aJD hb;obtain⟨q1,more,q2,q3,q4⟩:=aAT hH ha hp hb';simp only at q1 q2 q3 q4;have hmono:=MX g w a.ws.reverse more;rw[<-q2] at hmono;have hu2:yI (vP g b.ws.reverse) ((a.n,0)::ids).reverse (us++[.pointer (some ⟨p.1,p.2+o,none⟩)]):=by
    simp only[aR4];exact aAR (ZV hmono.J hu) q4 pH
   obtain⟨z1,ids',z2,⟨more',z3⟩,z4⟩:=aAV hH (a:=b) q1 hv2 hu2 h;refine⟨z1,ids',z2,⟨more++more',by rw[z3,q2,aRl]⟩,?_⟩;rw[hv1];rw[aRl] at z4;exact z4
theorem aAW {g:Gh}{w:pQ}{H:s7}(hH:sE g w H) {p:PK}{s:qB}{v:pR}{vals:pM}{a a':t7}(ha:BF g w H vals a) (hs:rH g w s v) (h:yF H a p s=some a'):BF g w H (vals++[v]) a':=by
 unfold yF at h;split at h
 .rename_i f k;simp only[TG,aRd] at h;subst h;refine⟨ha.n,ha.m,?_⟩;simp only[aR4];refine GI ha.args ⟨?_,trivial⟩;rcases hs.1 with⟨h1,_⟩ |⟨h1,vs,h2,h3⟩
  .cases h1
  .rw[show vs=[] from h2] at h3;exact .inr ⟨rfl,[],rfl,h3⟩
 .rename_i t x k _;simp only[TF] at h;split at h
  .rename_i hp;simp only[aRd] at h;subst h;refine⟨ha.n,ha.m,?_⟩;simp only[aR4];exact GI ha.args (aJB hp hs)
  .cases h
 .simp only[TH,aRd] at h;subst h;refine⟨ha.n,ha.m,?_⟩;simp only[aR4];exact GI ha.args ⟨hs.1,trivial⟩
 .rename_i t x k;cases hb:qD H k with
  |none=>rw[hb] at h;simp [C3] at h
  |some b=>
   rw[hb] at h;cases b with
   |grow e c m=>
    simp only[C3] at h;split at h
    .rename_i hc;simp only[aRw,aRK] at hc;simp only[aRd] at h;subst h;have hnm:k∉sD a.ws.reverse:=fun hmem=>by
      have:=IE.2 ((VD _ _).1 hmem);rw[hc.2] at this;cases this
     refine⟨by simp [ha.n],by simpa using ha.m.tok (b0:= .grow e c m) hb hnm,?_⟩;simp only[aR4];refine GI (MY (MX g w _ _) ha.args) (V6 (g:=g) (g':=vP g (a.ws.reverse++[.tok k])) (k':=some a.n) rfl hc.1 (fun _ _=>⟨_,rfl⟩) hs (fun c' e1=> ?_) (fun e1=>by cases e1));cases e1;refine⟨_,rfl,fun n u hu=> ?_⟩;show BE g (a.ws.reverse++[rG.tok k])[a.n]? n=some u;rw[ha.n,aRt (aRE _),aTi];exact hu
    .cases h
   |cells=>simp [C3] at h
   |row=>simp [C3] at h
   |map=>simp [C3] at h
   |iter=>simp [C3] at h
   |dead=>simp [C3] at h
 .rename_i t os i o k;obtain⟨p,hp,hv⟩:=zQ hs.1;obtain⟨h1,more,h2,h3,h4⟩:=aAT hH ha hp h;refine⟨h1.n,h1.m,?_⟩;rw[h3];simp only[aR4];exact GI h1.args ⟨.inr ⟨rfl,_,h4,by rw[hv];rfl⟩,trivial⟩
 .rename_i i k;cases hb:qD H i with
  |none=>rw[hb] at h;simp [C5] at h
  |some b=>
   rw[hb] at h;cases b with
   |map s t l=>
    simp only[C5] at h;split at h
    .rename_i hc;simp only[aRw,aRK] at hc;simp only[aRd] at h;subst h;have hnm:i∉sD a.ws.reverse:=fun hmem=>by
      have:=IE.2 ((VD _ _).1 hmem);rw[hc.2] at this;cases this
     refine⟨by simp [ha.n],by simpa using ha.m.tok (b0:= .map s t l) ⟨hb,hc.1.1,hc.1.2⟩ hnm,?_⟩;simp only[aR4];obtain⟨p,hp,hv⟩: ∃p,g.J i=some p/\v= .map (some p.1):=by
      obtain⟨p,h1,e⟩:=AS rfl hs.1;simp only[aSc,and_true] at e;exact⟨p,h1,e⟩
     refine GI (MY (MX g w _ _) ha.args) ⟨.inr ⟨rfl,p,?_,by rw[hv]⟩,trivial⟩;show wO g (a.ws.reverse++[rG.tok i])[a.n]? =_;rw[ha.n,aRt (aRE _),aTi];exact hp
    .cases h
   |cells=>simp [C5] at h
   |row=>simp [C5] at h
   |grow=>simp [C5] at h
   |iter=>simp [C5] at h
   |dead=>simp [C5] at h
 .rename_i k n k';cases hb:qD H k with
  |none=>rw[hb] at h;simp [C6] at h
  |some b=>
   rw[hb] at h;cases b with
   |row e t l m=>
    simp only[C6] at h;split at h
    .rename_i hc;simp only[aRw,aRK] at hc;simp only[aRd] at h;subst h;have hnm:k∉sD a.ws.reverse:=fun hmem=>by
      have:=IE.2 ((VD _ _).1 hmem);rw[hc.2] at this;cases this
     refine⟨by simp [ha.n],by simpa using ha.m.tok (b0:= .row e t l m) ⟨hb,hc.1⟩ hnm,?_⟩;simp only[aR4];obtain⟨h1,h2⟩:=hs.1;refine GI (MY (MX g w _ _) ha.args) ⟨⟨?_,h2⟩,trivial⟩;show BE g (a.ws.reverse++[rG.tok k])[a.n]? n=_;rw[ha.n,aRt (aRE _),aTi];exact h1
    .cases h
   |cells=>simp [C6] at h
   |grow=>simp [C6] at h
   |map=>simp [C6] at h
   |iter=>simp [C6] at h
   |dead=>simp [C6] at h
 .rename_i ks f cs k';obtain⟨vs,hv1,hv2⟩: ∃vs,yI g cs vs/\v= .func (.func f) #[] vs.toArray:=by
   rcases hs.1 with⟨h1,_⟩ |⟨_,vs,h2,h3⟩
   .cases h1
   .simp only[aSc,and_true] at h3;exact⟨vs,h2,h3⟩
  obtain⟨z1,ids',z2,_,z4⟩:=aAV hH (ids:=[]) (a:=a) (us:=[]) ha hv1 rfl h;refine⟨z1.n,z1.m,?_⟩;rw[z2];simp only[aR4];exact GI z1.args ⟨.inr ⟨rfl,vs,by simpa using z4,by rw[hv2]⟩,trivial⟩
 .cases h
theorem aAX {g:Gh}{w:pQ}{H:s7}(hH:sE g w H): ∀{ps:List PK}{ss:List qB}{vs vals:pM}{a a':t7},BF g w H vals a->vL g w ss vs->y4 H ps ss (some a)=some a'->BF g w H (vals++vs) a'
 |[],[],vs,vals,a,a',ha,hs,h=>by
  simp only[y4,aRd] at h;subst h;rw[show vs=[] from hs,List.append_nil];exact ha
 |p::ps,s::ss,vs,vals,a,a',ha,⟨v,vs',e,h1,h2⟩,h=>by
  simp only[y4] at h;cases ho:yF H a p s with
  |none=>rw[ho] at h;cases ps<;>cases ss<;>simp [y4] at h
  |some a1=>
   rw[ho] at h;have:=aAX hH (aAW hH ha h1 ho) h2 h;rw[e];simpa using this
 |[],_::_,_,_,_,_,_,_,h=>by simp [y4] at h
 |_::_,[],_,_,_,_,_,_,h=>by simp [y4] at h
theorem BF.nil (g:Gh) (w:pQ) (H:s7):BF g w H [] ⟨[],[],[],0⟩:=
 ⟨rfl,⟨rfl,fun c wh b h _=>by simp at h,by simp [sD]⟩,rfl⟩
theorem aAY: ∀(l:List q9) (n:Nat),HY l n=l[n]?
 |[],_=>by simp [HY]
 |_::_,0=>rfl
 |_::r,n+1=>by simpa[HY] using aAY r n
theorem aJE {g:Gh}{w:pQ}: ∀{t:Ty}{x:t.den}{cs:pM}{o:Nat}{y:pN},Rd g w t x cs->G7 t x o=some y->∃cs',FA g y cs':=by
 intro t
 induction t with
 |pair a b iha ihb=>
  intro x cs o y r h;obtain⟨c1,c2,_,r1,r2⟩:=r;simp only[G7] at h;split at h
  .exact iha r1 h
  .exact ihb r2 h
 |rl e u=>
  intro x cs o y r h;cases o with
  |zero=>simp only[G7,aRd] at h;subst h;exact⟨cs,r⟩
  |succ o=>simp [G7] at h
 |_=>intro x cs o y r h;cases o<;>simp [G7] at h
theorem aJF {g:Gh}{w:pQ}{H:s7}(hH:sE g w H) {vals:pM}{a:t7}(ha:BF g w H vals a) (c q:Nat) (pk:PK): ∃v,rH g w (JW q pk (HY a.H c)) v:=by
 rw[aAY];have any: ∃v,rH g w (.any,none) v:=⟨undef,trivial,trivial⟩;cases hb:a.H[c]? with
 |none=>cases pk<;>exact any
 |some b=>
  cases b with
  |cells t y ts=>
   have hlt:c<a.H.length:=(aRs.1 hb).1;have hb':a.H.reverse[a.H.length-1-c]? =some (.cells t y ts):=by
    rw[List.getElem?_reverse pF,show a.H.length-1- (a.H.length-1-c)=c by omega];exact hb
   obtain⟨wh,hwh⟩: ∃wh,a.ws.reverse[a.H.length-1-c]? =some wh:=by
    have hl:=ha.m.len;simp only[List.length_reverse] at hl;exact⟨_,aRr (by rw[List.length_reverse];omega)⟩
   have hw:=ha.m.ok _ wh _ hwh hb';cases wh with
   |tok k=>exact hw.elim
   |box i u x toks off=>
    obtain⟨h1,h2,_⟩:=hw;obtain⟨p,cs,hp,hR,_⟩:=hH.blk i _ h1;obtain⟨c1,c2,c3,hcs,hl,hR2⟩:=DY hR h2;cases pk with
    |p t' os=>
     simp only[JW];cases hg:r9 .ref t y q with
     |none=>exact any
     |some z=>
      cases z with
      |none=>exact any
      |some z=>
       obtain⟨d1,d2,d3,_,_,hR3⟩:=DY hR2 hg;obtain⟨p',hp',e⟩:=hR3;exact⟨_,.inr ⟨rfl,p',hp',rfl⟩,trivial⟩
    |m=>
     simp only[JW];cases hg:r9 .mp t y q with
     |none=>exact any
     |some z=>
      cases z with
      |none=>exact any
      |some z=>
       obtain⟨d1,d2,d3,_,_,hR3⟩:=DY hR2 hg;obtain⟨p',hp',e⟩:=hR3;exact⟨_,.inr ⟨rfl,p',hp',rfl⟩,trivial⟩
    |v=>exact any
    |own=>exact any
    |f ks=>exact any
    |r=>
     simp only[JW];cases hg:G7 t y q with
     |none=>exact any
     |some z=>
      cases z with
      |none=>exact any
      |some z=>
       obtain⟨cs',hR3⟩:=aJE hR2 hg;obtain⟨v,hv,_,hsh⟩:=hR3;exact⟨v,⟨hv,hsh⟩,trivial⟩
  |_=>cases pk<;>exact any
theorem aAZ {g:Gh}{w:pQ}{H:s7}(hH:sE g w H) {vals:pM}: ∀{gs:List (Nat×Nat×PK)}{a a':t7},BF g w H vals a->B9 H gs (some a)=some a'->BF g w H vals a'
 |[],a,a',ha,h=>by
  simp only[B9,aRd] at h;subst h;exact ha
 |(c,q,pk)::gs,a,a',ha,h=>by
  simp only[B9] at h;obtain⟨v,hv⟩:=aJF hH ha (a.n-1-c) q pk;cases hp:yF H a pk (JW q pk (HY a.H (a.n-1-c))) with
  |none=>
   rw[hp] at h;simp only[MA] at h;cases gs<;>simp [B9] at h
  |some b=>
   rw[hp] at h;simp only[MA] at h;have hb:=aAW hH ha hv hp;refine aAZ hH (a:=⟨a.args,b.H,b.ws,b.n⟩) ⟨hb.n,hb.m,?_⟩ h;obtain⟨s,more,e1,e2⟩: ∃s more,b.args=s::a.args/\b.ws.reverse=a.ws.reverse++more:=by
    have hp':=hp;unfold yF at hp';split at hp'
    .simp only[TG,aRd] at hp';subst hp';exact⟨_,[],rfl,by simp⟩
    .simp only[TF] at hp';split at hp'
     .simp only[aRd] at hp';subst hp';exact⟨_,[],rfl,by simp⟩
     .cases hp'
    .simp only[TH,aRd] at hp';subst hp';exact⟨_,[],rfl,by simp⟩
    .unfold C3 at hp';split at hp'
     .split at hp'
      .simp only[aRd] at hp';subst hp';exact⟨_,[_],rfl,aR4 ..⟩
      .cases hp'
     .cases hp'
    .unfold wB at hp';split at hp'
     .unfold F5 at hp';split at hp'
      .split at hp'
       .obtain⟨ks,bs,_,_,h3,_,h5,_⟩:=VC hp';exact⟨_,_,h3,by rw[h5];simp only[aR4];exact aRl ..⟩
       .cases hp'
      .cases hp'
     .cases hp'
    .unfold C5 at hp';split at hp'
     .split at hp'
      .simp only[aRd] at hp';subst hp';exact⟨_,[_],rfl,aR4 ..⟩
      .cases hp'
     .cases hp'
    .unfold C6 at hp';split at hp'
     .split at hp'
      .simp only[aRd] at hp';subst hp';exact⟨_,[_],rfl,aR4 ..⟩
      .cases hp'
     .cases hp'
    .exact aAU hp'
    .cases hp'
   rw[e2];exact MY (MX g w _ _) ha.args
theorem aJG {b:Option q9}{l:Option (List q9)}{r:List q9}(h:YP b l=some r): ∃b' l',b=some b'/\l=some l'/\r=b'::l':=by
 cases b<;>cases l<;>simp [YP] at h
 exact⟨_,_,rfl,rfl,h.symm⟩
theorem aA0 {W:List rG}: ∀{L0 L:List q9},HZ W L0=some L->L.length=L0.length/\∀(c:Nat) (b:q9),L[c]? =some b->∃b0,L0[c]? =some b0/\TK W b0=some b
 |[],L,h=>by
  simp only[HZ,aRd] at h;subst h;exact⟨rfl,fun c b h=>by simp at h⟩
 |b0::L0,L,h=>by
  simp only[HZ] at h;obtain⟨b',l',h1,h2,rfl⟩:=aJG h;obtain⟨k1,k2⟩:=aA0 h2;refine⟨by simp [k1],fun c b hc=> ?_⟩;cases c with
  |zero=>simp only[aRM,aRd] at hc;subst hc;exact⟨b0,rfl,h1⟩
  |succ c=>obtain⟨b1,q1,q2⟩:=k2 c b (by simpa using hc);exact⟨b1,by simpa using q1,q2⟩
theorem GH.ren {H:s7}{ws:List rG}{L0 L:List q9}(h:GH H ws L0) (hc:HZ ws L0=some L):Q2 H ws L:=by
 obtain⟨k1,k2⟩:=aA0 hc;refine⟨h.len.trans k1.symm,fun c wh b hw hb=> ?_,h.nodup⟩;obtain⟨b0,q1,q2⟩:=k2 c b hb;have hok:=h.ok c wh b0 hw q1;cases b0 with
 |cells t y ts=>
  cases wh with
  |tok k=>exact hok.elim
  |box i u x toks o=>
   obtain⟨h1,h2,h3⟩:=hok;simp only[TK] at q2;split at q2
   .rename_i hp;obtain rfl:=aRi q2;exact⟨h1,⟨y,h2,.inl ⟨hp,rfl⟩⟩,h3⟩
   .cases hy:D2 ws t y with
    |none=>rw[hy] at q2;cases q2
    |some z=>
     rw[hy] at q2;obtain rfl:=aRi q2;exact⟨h1,⟨y,h2,.inr hy⟩,h3⟩
 |_=>
  simp only[TK,aRd] at q2;subst q2;cases wh<;>exact hok
theorem AA: ∀(W:List rG) (c:Nat),AN W c=W[c]?
  |[],c=>by simp [AN]
  |_::_,0=>rfl
  |_::W,c+1=>by simpa[AN] using AA W c
theorem aA1: ∀L:List q9,qY L=L.length
  |[]=>rfl
  |_::L=>by simp [qY,aA1 L]
theorem aA2 {α:Type}: ∀(l acc:List α),zJ l acc=l.reverse++acc
  |[],_=>rfl
  |x::l,acc=>by simp [zJ,aA2 l]
theorem a0D {a:Option (Nat×q9)}{b:Option (List (Nat×q9))}{l:List (Nat×q9)}(h:P0 a b=some l): ∃q r,a=some q∧b=some r∧l=q::r:=by
  cases a<;>cases b<;>simp [P0] at h
  exact⟨_,_,rfl,rfl,h.symm⟩
def IF (base n:Nat) (W ws:List rG) (R:List q9) (c0:Nat) (id:Nat) (b:q9):Prop:=
  (∃(c:Nat) (i:Nat) (u:Ty) (x:u.den) (toks:pK) (o:Nat) (b0:q9),ws[c]? =some (.box i u x toks o)∧id=i∧R[c]? =some b0∧y5 base n i o W u x toks b0=some (i,b))∨
  (∃(c k:Nat) (b0:q9),ws[c]? =some (.tok k)∧id=k∧R[c]? =some b0∧A3 k b0=some (k,b))∨
  (∃(c:Nat) (b0:q9),R[c]? =some b0∧id=base+(c0+c)∧ws[c]? =none∧DS base n (c0+c) W b0=some (id,b))
theorem IF.succ {base n:Nat}{W:List rG}{wh:rG}{ws:List rG}{b0:q9}{R:List q9}{c0 id:Nat}{b:q9}(h:IF base n W ws R (c0+1) id b):IF base n W (wh::ws) (b0::R) c0 id b:=by
  rcases h with⟨c,i,u,x,toks,o,b1,h1,h2,h3,h4⟩ |⟨c,k,b1,h1,h2,h3,h4⟩ |⟨c,b1,h1,h2,h3,h4⟩
  .exact .inl ⟨c+1,i,u,x,toks,o,b1,by simpa using h1,h2,by simpa using h3,h4⟩
  .exact .inr (.inl ⟨c+1,k,b1,by simpa using h1,h2,by simpa using h3,h4⟩)
  .exact .inr (.inr ⟨c+1,b1,by simpa using h1,by rw[h2];omega,by simpa using h3,by rw[show c0+(c+1)=c0+1+c from by omega];exact h4⟩)
theorem IF.succ0 {base n:Nat}{W:List rG}{b0:q9}{R:List q9}{c0 id:Nat}{b:q9}(h:IF base n W [] R (c0+1) id b):IF base n W [] (b0::R) c0 id b:=by
  rcases h with⟨c,i,u,x,toks,o,b1,h1,_⟩ |⟨c,k,b1,h1,_⟩ |⟨c,b1,h1,h2,h3,h4⟩
  .simp at h1
  .simp at h1
  .exact .inr (.inr ⟨c+1,b1,by simpa using h1,by rw[h2];omega,by simp,by rw[show c0+(c+1)=c0+1+c from by omega];exact h4⟩)
theorem aA3 {i:Nat}{t:Ty}{ts:pK}{o:Option t.den}{q:Nat×q9}(h:a9r i t ts o=some q): ∃y,o=some y∧q=(i,.cells t y ts):=by
  cases o with
  |none=>cases h
  |some y=>exact⟨y,rfl,(aRi h).symm⟩
theorem aJH {base n c:Nat}{W:List rG}{b:q9}{q:Nat×q9}(h:DS base n c W b=some q):q.1=base+c:=by
  cases b<;>simp only[DS] at h
  · split at h
    .exact(aRi h)▸rfl
    .obtain⟨y,_,rfl⟩:=aA3 h;rfl
  .exact(aRi h)▸rfl
  · split at h
    .exact(aRi h)▸rfl
    .cases h
  · split at h
    .exact(aRi h)▸rfl
    .cases h
  .cases h
  .exact(aRi h)▸rfl
def bY (base n:Nat) (W:List rG) (t:Ty) (x y:t.den):Prop:=(t.pure=true∧y=x)∨C7 base n W t x=some y
theorem a0E {base n i o:Nat}{W:List rG}{u t:Ty}{x:u.den}{y:t.den}{toks ts:pK}{q:Nat×q9}(h:y5 base n i o W u x toks (.cells t y ts)=some q):
    ∃y2 z,bY base n W t y y2∧sQ t y2 u x o=some z∧q=(i,.cells u z (qT (DR base n W o ts) (vW toks o t.cells))):=by
  simp only[y5] at h;split at h
  · rename_i hp
    cases hs:sQ t y u x o with
    |none=>rw[hs] at h;simp [TM] at h
    |some z=>rw[hs] at h;exact⟨y,z,.inl ⟨hp,rfl⟩,hs,(aRi h).symm⟩
  · cases hy:C7 base n W t y with
    |none=>rw[hy] at h;cases h
    | some y2=>
      rw[hy] at h;simp only[a9s] at h;cases hs:sQ t y2 u x o with
      |none=>rw[hs] at h;simp [TM] at h
      |some z=>rw[hs] at h;exact⟨y2,z,.inr hy,hs,(aRi h).symm⟩
theorem aJI {k:Nat}{b:q9}{q:Nat×q9}(h:A3 k b=some q):q.1=k:=by
  cases b<;>simp only[A3] at h
  .cases h
  .exact(aRi h)▸rfl
  · split at h
    .exact(aRi h)▸rfl
    .cases h
  · split at h
    .exact(aRi h)▸rfl
    .cases h
  .cases h
  .exact(aRi h)▸rfl
theorem aJJ {base n i o:Nat}{W:List rG}{u:Ty}{x:u.den}{toks:pK}{b:q9}{q:Nat×q9}(h:y5 base n i o W u x toks b=some q):q.1=i:=by
  cases b with
  |cells t y ts=>obtain⟨y2,z,_,_,rfl⟩:=a0E h;rfl
  |grow=>simp [y5] at h
  |row=>simp [y5] at h
  |map=>simp [y5] at h
  |iter=>simp [y5] at h
  |dead=>simp only[y5,aRd] at h;exact h▸rfl
theorem MZ {base n:Nat}{W:List rG}: ∀{ws:List rG}{R:List q9}{c0:Nat}{upd:List (Nat×q9)},BA base n W c0 ws R=some upd→
    ws.length≤R.length∧(∀id b,qD upd id=some b→IF base n W ws R c0 id b)∧(∀id,id∈qE upd→∃b,qD upd id=some b)∧
    (∀(c:Nat) wh,ws[c]? =some wh→wh.id∈qE upd)∧(∀(c:Nat) b,R[c]? =some b→ws[c]? =none→base+(c0+c)∈qE upd)
  | [],[],_,upd,h=>by
    simp only[BA,aRd] at h;subst h;exact⟨aRE _,fun _ _ h=>by simp [qD] at h,fun _ h=>by simp [qE] at h,fun _ _ h=>by simp at h,fun _ _ h=>by simp at h⟩
  | [],b::R,c0,upd,h=>by
    simp only[BA] at h;obtain⟨q,r,h1,h2,rfl⟩:=a0D h;obtain⟨k1,k2,k3,k4,k5⟩:=MZ h2;have hq:=aJH h1;obtain⟨q1,q2⟩:=q;simp only at hq;subst hq;refine⟨by simp,fun id b' hg=> ?_,fun id hi=> ?_,fun c wh hw=>by simp at hw,fun c b' hb hn=> ?_⟩
    · simp only[qD] at hg
      split at hg
      · rename_i e
        obtain rfl:=aRi hg;subst e;exact .inr (.inr ⟨0,b,rfl,rfl,by simp,h1⟩)
      .exact(k2 id b' hg).succ0
    · simp only[qD]
      by_cases e:base+c0=id
      .rw[aRf e];exact⟨_,rfl⟩
      · rw[aRk e]
        simp only[qE,aRu] at hi;exact k3 id (hi.resolve_left (Ne.symm e))
    · cases c with
      |zero=>simp [qE]
      | succ c=>
        have:=k5 c b' (by simpa using hb) pH;simp only[qE,aRu];right;rw[show base+(c0+(c+1))=base+(c0+1+c) from by omega];exact this
  | .box i u x toks o::ws,[],c0,upd,h=>by simp [BA] at h
  | .tok k::ws,[],c0,upd,h=>by simp [BA] at h
  | .box i u x toks o::ws,b::R,c0,upd,h=>by
    simp only[BA] at h;obtain⟨q,r,h1,h2,rfl⟩:=a0D h;obtain⟨k1,k2,k3,k4,k5⟩:=MZ h2;have hq:=aJJ h1;obtain⟨q1,q2⟩:=q;simp only at hq;subst hq;refine⟨by simp;omega,fun id b' hg=> ?_,fun id hi=> ?_,fun c wh hw=> ?_,fun c b' hb hn=> ?_⟩
    · simp only[qD] at hg
      split at hg
      · rename_i e
        obtain rfl:=aRi hg;subst e;exact .inl ⟨0,q1,u,x,toks,o,b,rfl,rfl,rfl,h1⟩
      .exact(k2 id b' hg).succ
    · simp only[qD]
      by_cases e:q1=id
      .rw[aRf e];exact⟨_,rfl⟩
      · rw[aRk e]
        simp only[qE,aRu] at hi;exact k3 id (hi.resolve_left (Ne.symm e))
    · cases c with
      |zero=>simp only[aRM,aRd] at hw;subst hw;simp [qE,rG.id]
      |succ c=>simp only[qE,aRu];exact .inr (k4 c wh (by simpa using hw))
    · cases c with
      |zero=>simp at hn
      | succ c=>
        have:=k5 c b' (by simpa using hb) (by simpa using hn);simp only[qE,aRu];right;rw[show base+(c0+(c+1))=base+(c0+1+c) from by omega];exact this
  | .tok k::ws,b::R,c0,upd,h=>by
    simp only[BA] at h;obtain⟨q,r,h1,h2,rfl⟩:=a0D h;obtain⟨k1,k2,k3,k4,k5⟩:=MZ h2;have hq:=aJI h1;obtain⟨q1,q2⟩:=q;simp only at hq;subst hq;refine⟨by simp;omega,fun id b' hg=> ?_,fun id hi=> ?_,fun c wh hw=> ?_,fun c b' hb hn=> ?_⟩
    · simp only[qD] at hg
      split at hg
      · rename_i e
        obtain rfl:=aRi hg;subst e;exact .inr (.inl ⟨0,q1,b,rfl,rfl,rfl,h1⟩)
      .exact(k2 id b' hg).succ
    · simp only[qD]
      by_cases e:q1=id
      .rw[aRf e];exact⟨_,rfl⟩
      · rw[aRk e]
        simp only[qE,aRu] at hi;exact k3 id (hi.resolve_left (Ne.symm e))
    · cases c with
      |zero=>simp only[aRM,aRd] at hw;subst hw;simp [qE,rG.id]
      |succ c=>simp only[qE,aRu];exact .inr (k4 c wh (by simpa using hw))
    · cases c with
      |zero=>simp at hn
      | succ c=>
        have:=k5 c b' (by simpa using hb) (by simpa using hn);simp only[qE,aRu];right;rw[show base+(c0+(c+1))=base+(c0+1+c) from by omega];exact this
def u6 (g g':Gh) (base:Nat) (W:List rG) (ids:pP):Gh:=
  ⟨g'.S,fun i=>if base≤i∧i∈ids then g'.J (i-base) else match wS i W 0 with|some c=>g'.J c|none=>g.J i,
   fun i=>if base≤i∧i∈ids then g'.cur (i-base) else match wS i W 0 with|some c=>g'.cur c|none=>g.cur i⟩
theorem VE {n c:Nat}{wh:Option rG}:MB n c wh=true↔c<n∧wh=none:=by
  cases wh with
  |none=>simp [MB]
  |some wh=>simp [MB]
theorem aJK {base n c i:Nat}{wh:Option rG}(h:AO base n c wh=some i):wh=some (.tok i)∨(wh=none∧c<n∧i=base+c):=by
  cases wh with
  | none=>
    simp only[AO] at h;split at h
    .rename_i hc;exact .inr ⟨rfl,hc,(aRi h).symm⟩
    .cases h
  | some wh=>
    cases wh with
    |box=>cases h
    |tok k=>simp only[AO,aRd] at h;subst h;exact .inl rfl
theorem VF {i:Nat}: ∀{ws:List rG}{c0:Nat},(∀c:Nat,ws[c]? ≠some (.tok i))→wS i ws c0=none
  |[],_,_=>rfl
  | .tok j::r,c0,h=>by
    simp only[wS];split
    .rename_i e;subst e;exact absurd rfl (h 0)
    .exact VF (fun c=>by have:=h (c+1);simpa using this)
  | .box _ _ _ _ _::r,c0,h=>by
    simp only[wS];exact VF (fun c=>by have:=h (c+1);simpa using this)
theorem aJL {i c:Nat}{ws:List rG}(hnd:(sD ws).Nodup) (h:ws[c]? =some (.tok i)):wS i ws 0=some c:=by
  cases hc:wS i ws 0 with
  | none=>
    exfalso
    have: ∀{ws:List rG}{c0 c:Nat},ws[c]? =some (.tok i)→wS i ws c0≠none:=by
      intro ws
      induction ws with
      |nil=>intro c0 c h;simp at h
      | cons wh r ih=>
        intro c0 c h;cases c with
        | zero=>
          simp only[aRM,aRd] at h;subst h;simp [wS]
        | succ c=>
          simp only[aRY] at h;cases wh with
          |box=>exact ih h
          | tok j=>
            simp only[wS];split
            .simp
            .exact ih h
    exact this h hc
  | some d=>
    obtain⟨d',e1,h2⟩:=MW hc;rw[aRP] at e1;subst e1;rw[VB hnd h h2 rfl]
theorem Fr.mono {A B:Nat→Nat→Prop}{w w':pQ}{S S':Nat→Nat→Prop}(h:Fr A w w' S S') (hAB: ∀b o,A b o→B b o):Fr B w w' S S':=
  ⟨h.os,h.tape,h.output,h.size,fun b hb hn=>h.blk b hb (fun o ho=>hn o (hAB b o ho)),fun b o hb hn=>h.cell b o hb (fun ho=>hn (hAB b o ho)),fun b o hs=>(h.new b o hs).imp id (Or.imp id (hAB b o)),fun b s hs=>(h.shape b s hs).imp id fun h o=>hAB b o (h o)⟩
theorem VG {base n:Nat}{W:List rG}{o:Nat}: ∀{ts:pK}{q k:Nat},(q,k)∈DR base n W o ts→∃q' c,(q',c)∈ts∧AO base n c (AN W c)=some k∧q=o+q'
  |[],_,_,h=>by simp [DR] at h
  | (q',c)::r,q,k,h=>by
    simp only[DR] at h;cases hn:AO base n c (AN W c) with
    | none=>
      rw[hn] at h;obtain⟨a,b,h1,h2⟩:=VG h;exact⟨a,b,aRo _ h1,h2⟩
    | some k'=>
      rw[hn] at h;rcases aRu.1 h with h|h
      · simp only[aRR] at h
        obtain⟨rfl,rfl⟩:=h;exact⟨q',c,by simp,hn,rfl⟩
      · obtain⟨a,b,h1,h2⟩:=VG h
        exact⟨a,b,aRo _ h1,h2⟩
theorem xJ {α:Type}{x:α}: ∀{l m:List α},x∈qT l m↔x∈l∨x∈m
  |[],m=>by simp [qT]
  |y::l,m=>by simp [qT,xJ (l:=l),or_assoc]
theorem a0F: ∀{toks:pK}{off n q k:Nat},(q,k)∈vW toks off n→(q,k)∈toks∧¬(off≤q∧q<off+n)
  |[],_,_,_,_,h=>by simp [vW] at h
  | (q',k')::r,off,n,q,k,h=>by
    simp only[vW] at h;split at h
    · obtain⟨h1,h2⟩:=a0F h
      exact⟨aRo _ h1,h2⟩
    · rename_i hn
      rcases aRu.1 h with h|h
      · cases h
        exact⟨by simp,hn⟩
      · obtain⟨h1,h2⟩:=a0F h
        exact⟨aRo _ h1,h2⟩
section
variable {g g':Gh}{w w':pQ}{H:s7}{W:List rG}{L:List q9}{r:qH}{v:pR}{base:Nat}{upd:List (Nat×q9)}
variable (hH:sE g w H) (hm:Q2 H W L) (hr:E4 (vP g W) w L r g' w' v) (hb:BA base r.H.length W 0 W r.H=some upd) (hf: ∀i,i∈qE upd→base≤i→g.J i=none∧∀n,g.cur i n=none)
include hH hm hr hb hf
theorem FC {c:Nat}{wh:rG}(hw:W[c]? =some wh):wh.id∈qE upd∧wh.id<base∧∃b,L[c]? =some b∧V8 H W wh b:=by
  have hin:=(MZ hb).2.2.2.1 c wh hw;have hlt:c<L.length:=hm.len▸(aRs.1 hw).1;have hok:=hm.ok c wh _ hw (aRr hlt);refine⟨hin,Nat.lt_of_not_le fun hle=> ?_,_,aRr hlt,hok⟩;have hfr:=hf _ hin hle;cases wh with
  | box i u x toks o=>
    cases hL:L[c] with
    | cells t y ts=>
      rw[hL] at hok;obtain⟨p,cs,hp,_⟩:=hH.blk i _ hok.1;rw[show (rG.box i u x toks o).id=i from rfl] at hfr;rw[hfr.1] at hp;cases hp
    |_=>rw[hL] at hok;exact hok.elim
  | tok k=>
    cases hL:L[c] with
    | grow e cc m=>
      rw[hL] at hok;obtain⟨v,xs,hv,_⟩:=hH.blk k _ hok;rw[show (rG.tok k).id=k from rfl] at hfr;rw[hfr.2] at hv;cases hv
    | map s t l=>
      rw[hL] at hok;obtain⟨p,es,cl,hp,_⟩:=hH.blk k _ hok.1;rw[show (rG.tok k).id=k from rfl] at hfr;rw[hfr.1] at hp;cases hp
    | row e t l m=>
      rw[hL] at hok;obtain⟨_,v,xs,hv,_⟩:=hH.blk k _ hok.1;rw[show (rG.tok k).id=k from rfl] at hfr;rw[hfr.2] at hv;cases hv
    |_=>rw[hL] at hok;exact hok.elim
theorem aJM {c:Nat}(hc:c<r.H.length) (hn:W[c]? =none):base+c∈qE upd:=by
  have:=(MZ hb).2.2.2.2 c _ (aRr hc) hn;simpa using this
theorem N0 {c:Nat}(hc:c<r.H.length) (hn:W[c]? =none):(u6 g g' base W (qE upd)).J (base+c)=g'.J c∧(u6 g g' base W (qE upd)).cur (base+c)=g'.cur c:=by
  have hin:=aJM hH hm hr hb hf hc hn;refine⟨?_,?_⟩
  · show (if base≤base+c∧base+c∈qE upd then _ else _)=_
    rw[aRf ⟨pF,hin⟩,aR5]
  · show (if base≤base+c∧base+c∈qE upd then _ else _)=_
    rw[aRf ⟨pF,hin⟩,aR5]
theorem aA4 {i:Nat}(hi: ¬(base≤i∧i∈qE upd)) (hn:wS i W 0=none):(u6 g g' base W (qE upd)).J i=g.J i∧(u6 g g' base W (qE upd)).cur i=g.cur i:=by
  refine⟨?_,?_⟩
  · show (if base≤i∧i∈qE upd then _ else _)=_
    rw[aRk hi,hn]
  · show (if base≤i∧i∈qE upd then _ else _)=_
    rw[aRk hi,hn]
theorem aA5 {c k:Nat}(hw:W[c]? =some (.tok k)):(u6 g g' base W (qE upd)).J k=g'.J c∧(u6 g g' base W (qE upd)).cur k=g'.cur c:=by
  have hlt:=(FC hH hm hr hb hf hw).2.1;simp only[rG.id] at hlt;have hc:=aJL hm.nodup hw;refine⟨?_,?_⟩
  · show (if base≤k∧k∈qE upd then _ else _)=_
    rw[aRk pF,hc]
  · show (if base≤k∧k∈qE upd then _ else _)=_
    rw[aRk pF,hc]
theorem Q3 {c i:Nat}{u:Ty}{x:u.den}{toks:pK}{o:Nat}(hw:W[c]? =some (.box i u x toks o)):(u6 g g' base W (qE upd)).J i=g.J i∧(u6 g g' base W (qE upd)).cur i=g.cur i:=by
  have hlt:=(FC hH hm hr hb hf hw).2.1;simp only[rG.id] at hlt;refine aA4 hH hm hr hb hf pF (VF fun d hd=> ?_);have:=VB hm.nodup hw hd rfl;subst this;rw[hw] at hd;cases hd
theorem KH {c i:Nat}(hi:AO base r.H.length c W[c]? =some i):(u6 g g' base W (qE upd)).J i=g'.J c∧(u6 g g' base W (qE upd)).cur i=g'.cur c:=by
  rcases aJK hi with h|⟨h1,h2,rfl⟩
  .exact aA5 hH hm hr hb hf h
  .exact N0 hH hm hr hb hf h2 h1
theorem aA6:Le g w (u6 g g' base W (qE upd)) w':=by
  have len: ∀{i c:Nat},wS i W 0=some c→W[c]? =some (.tok i)∧c<L.length:=by
    intro i c h;obtain⟨d,e1,h2⟩:=MW h;rw[aRP] at e1;subst e1;exact⟨h2,hm.len▸(aRs.1 h2).1⟩
  refine⟨fun b o h=>(hr.shut b o h).1,fun b o h=>(hr.shut b o h).2,fun i p h=> ?_,fun i n u h=> ?_⟩
  · show (if base≤i∧i∈qE upd then _ else _)=_
    rw[aRk (fun⟨h1,h2⟩=>by rw[(hf i h2 h1).1] at h;cases h)];cases hc:wS i W 0 with
    |none=>exact h
    | some c=>
      obtain⟨h1,h2⟩:=len hc;refine hr.Jt c p h2 ?_;show wO g W[c]? =_;rw[h1];exact h
  · show (if base≤i∧i∈qE upd then g'.cur (i-base) else match wS i W 0 with|some c=>g'.cur c|none=>g.cur i) n=_
    rw[aRk (fun⟨h1,h2⟩=>by rw[(hf i h2 h1).2] at h;cases h)];cases hc:wS i W 0 with
    |none=>exact h
    | some c=>
      obtain⟨h1,h2⟩:=len hc;refine hr.cur c n u h2 ?_;show BE g W[c]? n=_;rw[h1];exact h
theorem aJN {t:Ty}{x y:t.den}{cs:pM}(hx:Rd g' w' t x cs) (h:C7 base r.H.length W t x=some y):Rd (u6 g g' base W (qE upd)) w' t y cs:=by
  refine VA (g:=g') (g':=u6 g g' base W (qE upd)) rfl (C7 base r.H.length W) (fun a b x=>rfl) (fun t x=>rfl) (fun _=>rfl) (fun _ _=>rfl) (fun _=>rfl) (fun _=>rfl) (fun _=>rfl) (fun _ _ x y cs h hx=> ?_) (fun x y cs h hx=> ?_) (fun x y cs h hx=> ?_) (fun x y cs h hx=> ?_) (fun _=>rfl) hx h
  · cases x with
    |none=>cases h;exact hx
    | some q=>
      obtain⟨c,n⟩:=q;simp only[C7,a9q,AA] at h;obtain⟨i,hi,rfl⟩:=aRn.1 h;obtain⟨v,hv,hs⟩:=hx;exact⟨v,by rw[(KH hH hm hr hb hf hi).2];exact hv,hs⟩
  · cases x with
    |none=>cases h;exact hx
    | some q=>
      obtain⟨c,o⟩:=q;simp only[C7,JZ] at h;obtain⟨p,hp,hv⟩:=hx;unfold JZ.back2 at h;split at h
      · rename_i i uu x toks o' hwh
        cases h;rw[AA] at hwh;obtain⟨_,hlt,b,hL,hok⟩:=FC hH hm hr hb hf hwh;cases b with
        | cells t y ts=>
          have hJ:=hr.J c t y ts hL;rw[hp] at hJ;have hJ':wO g W[c]? =some p:=hJ.symm;rw[hwh] at hJ';obtain⟨p0,hp0,rfl⟩:=aRn.1 hJ';exact⟨p0,by rw[(Q3 hH hm hr hb hf hwh).1];exact hp0,by have:=hv.1;rwa [aRZ] at this,hv.2.imp id fun hv=>by rw[hv];simp [aRZ]⟩
        |_=>exact hok.elim
      · split at h
        · rename_i hn
          cases h;obtain⟨h1,h2⟩:=VE.1 hn;rw[AA] at h2;exact⟨p,by rw[(N0 hH hm hr hb hf h1 h2).1];exact hp,hv⟩
        .cases h
  · cases x with
    |none=>cases h;exact hx
    | some q=>
      obtain⟨c,o⟩:=q;simp only[C7,JZ] at h;obtain⟨p,hp,hv⟩:=hx;unfold JZ.back2 at h;split at h
      · rename_i i uu x toks o' hwh
        cases h;rw[AA] at hwh;obtain⟨_,hlt,b,hL,hok⟩:=FC hH hm hr hb hf hwh;cases b with
        | cells t y ts=>
          have hJ:=hr.J c t y ts hL;rw[hp] at hJ;have hJ':wO g W[c]? =some p:=hJ.symm;rw[hwh] at hJ';obtain⟨p0,hp0,rfl⟩:=aRn.1 hJ';exact⟨p0,by rw[(Q3 hH hm hr hb hf hwh).1];exact hp0,by rw[hv];simp [aRZ]⟩
        |_=>exact hok.elim
      · split at h
        · rename_i hn
          cases h;obtain⟨h1,h2⟩:=VE.1 hn;rw[AA] at h2;exact⟨p,by rw[(N0 hH hm hr hb hf h1 h2).1];exact hp,hv⟩
        .cases h
  · cases x with
    |none=>cases h;exact hx
    | some c=>
      simp only[C7,a9p,AA] at h;obtain⟨i,hi,rfl⟩:=aRn.1 h;obtain⟨p,hp,hv⟩:=hx;exact⟨p,by rw[(KH hH hm hr hb hf hi).1];exact hp,hv⟩
theorem aA7 {t:Ty}{x y:t.den}{cs:pM}(hx:Rd g' w' t x cs) (h:bY base r.H.length W t x y):Rd (u6 g g' base W (qE upd)) w' t y cs:=by
  rcases h with⟨hp,rfl⟩ |h
  .exact wC (g:=g') (g':=u6 g g' base W (qE upd)) rfl hp hx
  .exact aJN hH hm hr hb hf hx h
omit hH hm hr hb hf in
theorem aA8 {n:Nat}{t u:Ty}{x y:t.den}{o:Nat}{l:List u.den}(h:bY base n W t x y) (hg:r9 (.list u) t x o=some l):r9 (.list u) t y o=some l:=by
  rcases h with⟨_,rfl⟩ |h
  .exact hg
  .exact a0B (C7 base n W) (fun _ _ _=>rfl) (fun _ _=>rfl) h hg
theorem aA9: ∀(cs:pK) {l:pK}{vs:pM},yI g' cs vs→MC base r.H.length W cs=some l→yI (u6 g g' base W (qE upd)) l vs
  |[],l,vs,h,e=>by cases e;exact h
  | (c,o)::cs,l,vs,⟨p,vs',hp,hv,hr'⟩,e=>by
    unfold MC at e;cases h1:YQ base r.H.length c o (AN W c) with
    |none=>rw[h1] at e;cases e
    | some q=>
      cases h2:MC base r.H.length W cs with
      |none=>rw[h1,h2] at e;cases e
      | some l'=>
        rw[h1,h2] at e;cases e;refine(?_ : ∃p vs',_);have ih:=aA9 cs hr' h2;unfold YQ at h1;split at h1
        · rename_i i uu x toks o' hwh
          cases h1;rw[AA] at hwh;obtain⟨_,hlt,b,hL,hok⟩:=FC hH hm hr hb hf hwh;cases b with
          | cells t y ts=>
            have hJ:=hr.J c t y ts hL;rw[hp] at hJ;have hJ':wO g W[c]? =some p:=hJ.symm;rw[hwh] at hJ';obtain⟨p0,hp0,rfl⟩:=aRn.1 hJ';exact⟨p0,vs',by rw[(Q3 hH hm hr hb hf hwh).1];exact hp0,by rw[hv];simp [aRZ],ih⟩
          |_=>exact hok.elim
        · split at h1
          · rename_i hn
            cases h1;obtain⟨h3,h4⟩:=VE.1 hn;rw[AA] at h4;exact⟨p,vs',by rw[(N0 hH hm hr hb hf h3 h4).1];exact hp,hv,ih⟩
          .cases h1
theorem aJO {s:qB}{u:pR}(h:rH g' w' s u):rH (u6 g g' base W (qE upd)) w' (TL base r.H.length W s) u:=by
  obtain⟨d,k⟩:=s
  have tokk: ∀{t:Ty}(hp:t.pure=true) {x:t.den}{k:pO},(∀c,k=some c→∃u,t= .list u)→rH g' w' (.val t x,k) u→rH (u6 g g' base W (qE upd)) w' (.val t x,JY base r.H.length W k) u:=by
    intro t hp x k hl h;cases k with
    |none=>exact V6 (g:=g') (g':=u6 g g' base W (qE upd)) (k:=none) (k':=none) rfl hp (fun c e=>by cases e) h (fun c e=>by cases e) (fun _=>rfl)
    | some c=>
      simp only[JY,AA];cases hn:AO base r.H.length c W[c]? with
      | some i=>
        refine V6 (g:=g') (g':=u6 g g' base W (qE upd)) (k:=some c) (k':=some i) rfl hp hl h (fun c' e=> ?_) (fun e=>by cases e);cases e;refine⟨_,rfl,fun n u hu=> ?_⟩;rw[(KH hH hm hr hb hf hn).2];exact hu
      | none=>
        exact V6 (g:=g') (g':=u6 g g' base W (qE upd)) (k:=none) (k':=none) rfl hp (fun c e=>by cases e) ⟨h.1,trivial⟩ (fun c e=>by cases e) (fun _=>rfl)
  unfold TL;split
  · rename_i c m k' heq
    simp only[aRR] at heq;obtain⟨rfl,rfl⟩:=heq;simp only[JY,AA];cases hn:AO base r.H.length c W[c]? with
    | some i=>
      obtain⟨h3,h4⟩:=h.1;exact⟨⟨by rw[(KH hH hm hr hb hf hn).2];exact h3,h4⟩,trivial⟩
    |none=>exact⟨trivial,trivial⟩
  · rename_i c o k' heq
    simp only[aRR] at heq;obtain⟨rfl,rfl⟩:=heq;obtain⟨p,hp,hv⟩:=zQ h.1;unfold a9o;split
    · rename_i i uu x toks o' hwh
      rw[AA] at hwh;obtain⟨_,hlt,b,hL,hok⟩:=FC hH hm hr hb hf hwh;cases b with
      | cells t y ts=>
        have hJ:=hr.J c t y ts hL;rw[hp] at hJ;have hJ':wO g W[c]? =some p:=hJ.symm;rw[hwh] at hJ';obtain⟨p0,hp0,rfl⟩:=aRn.1 hJ';refine⟨.inr ⟨rfl,p0,by rw[(Q3 hH hm hr hb hf hwh).1];exact hp0,?_⟩,trivial⟩;rw[hv];simp [aRZ]
      |_=>exact hok.elim
    · split
      · rename_i hn
        obtain⟨h1,h2⟩:=VE.1 hn;rw[AA] at h2;exact⟨.inr ⟨rfl,p,by rw[(N0 hH hm hr hb hf h1 h2).1];exact hp,by rw[hv]⟩,trivial⟩
      .exact⟨trivial,trivial⟩
  · rename_i k' heq
    simp only[aRR] at heq;obtain⟨rfl,rfl⟩:=heq;rcases h.1 with⟨h1,_⟩ |⟨h1,h2⟩
    .cases h1
    .exact⟨.inr ⟨h1,h2⟩,trivial⟩
  · rename_i c k' heq
    simp only[aRR] at heq;obtain⟨rfl,rfl⟩:=heq;simp only[JY,AA];cases hn:AO base r.H.length c W[c]? with
    | some i=>
      obtain⟨p,hp,hv⟩:KB g' (some c) [u]:=AS rfl h.1;exact⟨.inr ⟨rfl,p,by rw[(KH hH hm hr hb hf hn).1];exact hp,hv⟩,trivial⟩
    |none=>exact⟨trivial,trivial⟩
  · rename_i k' heq
    simp only[aRR] at heq;obtain⟨rfl,rfl⟩:=heq;rcases h.1 with⟨h1,_⟩ |⟨h1,h2⟩
    .cases h1
    .exact⟨.inr ⟨h1,h2⟩,trivial⟩
  · rename_i f cs k' heq
    simp only[aRR] at heq;obtain⟨rfl,rfl⟩:=heq;cases hc:MC base r.H.length W cs with
    |none=>exact⟨trivial,trivial⟩
    | some l=>
      rcases h.1 with⟨h1,_⟩ |⟨_,vs,h2,h3⟩
      .cases h1
      .exact⟨.inr ⟨rfl,vs,aA9 hH hm hr hb hf cs h2 hc,h3⟩,trivial⟩
  · rename_i t x k' hno hno0 hno2 hno3 hno4 heq
    simp only[aRR] at heq;obtain⟨rfl,rfl⟩:=heq;split
    · rename_i hp
      exact tokk hp aJs (aAH h)
    .exact⟨trivial,trivial⟩
  .exact⟨trivial,trivial⟩
end
theorem aBa {g:Gh}{w:pQ}{H:s7}{W:List rG}{L:List q9}(hH:sE g w H) (hm:Q2 H W L) {bb oo:Nat}(h:y8 (vP g W) (qM 0 L) bb oo):
  ∃(c:Nat) (wh:rG) (b blk:q9),W[c]? =some wh/\L[c]? =some b/\sA (vP g W) c b bb oo/\qD H wh.id=some blk/\sA g wh.id blk bb oo:=by
 obtain⟨c,b,hc,ho⟩:=h;rw[x9] at hc;have hlt:c<W.length:=hm.len▸(aRs.1 hc).1;have hwh:W[c]? =some W[c]:=aRr hlt;have hw:=hm.ok c _ b hwh hc;refine⟨c,W[c],b,?_⟩;generalize W[c]=wh at hwh hw;cases wh with
 |box i u x toks off=>
  cases b with
  |cells t y ts=>
   obtain⟨h1,⟨y0,h2,h3⟩,h4⟩:=hw;obtain⟨p,hp,e1,e2,e3⟩:=ho;have hp':wO g W[c]? =some p:=hp;rw[hwh] at hp';obtain⟨p0,hp0,rfl⟩:=aRn.1 hp';obtain⟨p1,cs,hp1,hR,_⟩:=hH.blk i _ h1;obtain⟨c1,c2,c3,hcs,hl,hR2⟩:=DY hR h2;have l1:=sR hR;have l2:=sR hR2;rw[hcs] at l1;simp only[aRg] at l1;exact⟨_,hwh,hc,⟨_,hp,e1,e2,e3⟩,h1,p0,hp0,e1,by simp at e2;omega,by simp at e3;omega⟩
  |_=>exact hw.elim
 |tok k=>
  cases b with
  |grow e cc m=>
   obtain⟨v,hv,hb⟩:=ho;have hv':BE g W[c]? m=some v:=hv;rw[hwh] at hv';exact⟨_,hwh,hc,⟨v,hv,hb⟩,hw,v,hv',hb⟩
  |map s t l=>
   obtain⟨p,hp,hb⟩:=ho;have hp':wO g W[c]? =some p:=hp;rw[hwh] at hp';exact⟨_,hwh,hc,⟨p,hp,hb⟩,hw.1,p,hp',hb⟩
  |row e t l m=>
   obtain⟨v,hv,hb⟩:=ho;have hv':BE g W[c]? m=some v:=hv;rw[hwh] at hv';exact⟨_,hwh,hc,⟨v,hv,hb⟩,hw.1,v,hv',hb⟩
  |_=>exact hw.elim
section
variable {g g':Gh}{w w':pQ}{H:s7}{W:List rG}{L:List q9}{r:qH}{v:pR}{base:Nat}{upd:List (Nat×q9)}
variable (hH:sE g w H) (hm:Q2 H W L) (hr:E4 (vP g W) w L r g' w' v) (hb:BA base r.H.length W 0 W r.H=some upd) (hf: ∀i,i∈qE upd->base<=i->g.J i=none/\∀n,g.cur i n=none)
include hH hm hr hb hf
theorem a0G {b o:Nat}(h:y8 (vP g W) (qM 0 L) b o):sX g H (qE upd) b o:=by
 obtain⟨c,wh,b0,blk,h1,h2,h3,h4,h5⟩:=aBa hH hm h;exact⟨wh.id,blk,(FC hH hm hr hb hf h1).1,h4,h5⟩
theorem aJP:Fr (sX g H (qE upd)) w w' g.S (u6 g g' base W (qE upd)).S:=hr.fr.mono fun _ _ h=>a0G hH hm hr hb hf h
theorem VH {id:Nat}{b:q9}(hi:id∈qE upd) (hg:qD (qT upd H) id=some b):IF base r.H.length W W r.H 0 id b:=by
 obtain⟨_,k2,k3,_⟩:=MZ hb;obtain⟨b',hb'⟩:=k3 id hi;have:qD (qT upd H) id=some b':=by
  have: ∀{u:List (Nat×q9)},qD u id=some b'->qD (qT u H) id=some b':=by
   intro u
   induction u with
   |nil=>intro h;cases h
   |cons q u ih=>
    intro h;simp only[qT,qD] at h|-;split
    .rename_i e;rw[aRf e] at h;exact h
    .rename_i e;rw[aRk e] at h;exact ih h
  exact this hb'
 rw[this] at hg;obtain rfl:=aRi hg;exact k2 id b' hb'
theorem a0H {c i o:Nat}{u:Ty}{x:u.den}{toks:pK}{b0 b:q9}(hW:W[c]? =some (.box i u x toks o)) (hR:r.H[c]? =some b0) (hbb:y5 base r.H.length i o W u x toks b0=some (i,b)):
  A8 (u6 g g' base W (qE upd)) w' i b/\(∀bb oo,sA (u6 g g' base W (qE upd)) i b bb oo->sA g i (.cells u x toks) bb oo/\qD H i=some (.cells u x toks))/\
   ∀bb oo,sA (u6 g g' base W (qE upd)) i b bb oo->sA g' c b0 bb oo\/(bb<w.heap.size/\¬y8 (vP g W) (qM 0 L) bb oo):=by
 obtain⟨hin,hlt,bL,hL,hok⟩:=FC hH hm hr hb hf hW;have hJi:=(Q3 hH hm hr hb hf hW).1;have hle:=aA6 hH hm hr hb hf;cases bL with
 |grow=>exact hok.elim
 |row=>exact hok.elim
 |map=>exact hok.elim
 |iter=>exact hok.elim
 |dead=>exact hok.elim
 |cells tL yL tsL=>
  obtain⟨h1,h2,h4⟩:=hok;obtain⟨p,cs,hp,hRd,hra,hth,hns,htk⟩:=hH.blk i _ h1;cases b0 with
  |grow=>simp [y5] at hbb
  |row=>simp [y5] at hbb
  |map=>simp [y5] at hbb
  |iter=>simp [y5] at hbb
  |dead=>
   simp only[y5,aRd,aRR,true_and] at hbb;subst hbb;exact⟨trivial,fun _ _ h=>h.elim,fun _ _ h=>h.elim⟩
  |cells t y ts=>
   have htt:=hr.ty c _ _ _ _ _ _ hL hR;subst htt;obtain⟨y2,z,hbY,hset,hq⟩:=a0E hbb
   .simp only[aRR,true_and] at hq;subst hq;have hblk:=hr.heap.blk c _ (by rw[x9];exact hR);obtain⟨p',cs',hp',hRd',hra',hth',hns',htk'⟩:=hblk;have hJc:=hr.J c _ _ _ hL;have hpc:g'.J c=some ⟨p.1,p.2+o,p.3⟩:=by
     rw[hJc];show wO g W[c]? =_;rw[hW];simp [wO,hp]
    rw[hpc] at hp';obtain rfl:=aRi hp';have hRdx:Rd (u6 g g' base W (qE upd)) w' u x cs:=xR hle hRd;have hRdy:Rd (u6 g g' base W (qE upd)) w' t y2 cs':=aA7 hH hm hr hb hf hRd' hbY;obtain⟨c1,c2,c3,hcs,hl1,hl2,hz⟩:=UV hRdy hRdx hset;subst hcs;subst hl1;have l0:=sR hRd;have l1:=sR hRd';simp only[aRg] at l0;have hfar: ∀q,q<u.cells->¬(c1.length<=q/\q<c1.length+t.cells)->¬y8 (vP g W) (qM 0 L) p.1 (p.2+q):=by
     intro q hq hno hown;obtain⟨c',wh',b',blk',k1,k2,k3,k4,k5⟩:=aBa hH hm hown;by_cases hcc:c'=c
     .subst hcc;rw[hW] at k1;obtain rfl:=aRi k1;rw[hL] at k2;obtain rfl:=aRi k2;obtain⟨pp,hpp,e1,e2,e3⟩:=k3;have hpp':wO g W[c']? =some pp:=hpp;rw[hW] at hpp';simp only[wO,hp,Option.map_some,aRd] at hpp';subst hpp';simp only at e2 e3;exact hno ⟨pF,pF⟩
     .have hid:wh'.id≠i:=fun e=>hcc (VB hm.nodup k1 hW e);exact hH.dis wh'.id i blk' _ p.1 (p.2+q) hid k4 h1 k5 ⟨p,hp,rfl,pF,pF⟩
    have hlt': ∀q,q<u.cells->p.1<w.heap.size:=fun q hq=>KC (hH.blk i _ h1) (b:=p.1) (o:=p.2+q) ⟨p,hp,rfl,pF,pF⟩;have hkeep: ∀q,q<u.cells->¬(c1.length<=q/\q<c1.length+t.cells)->w'.cell? ⟨p.1,p.2+q,none⟩=w.cell? ⟨p.1,p.2+q,none⟩/\w'.frozen? ⟨p.1,p.2+q,none⟩=w.frozen? ⟨p.1,p.2+q,none⟩:=fun q hq hno=>hr.fr.cell _ _ (hlt' q hq) (hfar q hq hno);refine⟨⟨p,c1++cs'++c3,by rw[hJi];exact hp,hz,fun q vv hv=> ?_,⟨fun q hq=> ?_,fun h0 s hs=> ?_⟩,fun q hq hs=> ?_,?_⟩,fun bb oo ho=>⟨?_,h1⟩,fun bb oo ho=> ?_⟩
    .by_cases a1:q<c1.length
     .rw[(hkeep q pF pF).1];refine hra q vv ?_;rw[aRl,aRz a1] at hv|-;exact hv
     .by_cases a2:q<c1.length+t.cells
      .rw[aRl,aRt pF,aRz pF] at hv;have:=hra' (q-c1.length) vv hv;rwa [show p.2+c1.length+(q-c1.length)=p.2+q from by omega] at this
      .rw[aRl,aRt pF,aRt pF] at hv;have hq:q<u.cells:=by
        have:=(aRs.1 hv).1;omega
       rw[(hkeep q hq pF).1];refine hra q vv ?_;rw[aRl,aRt pF,aRt pF,hl2];rw[l1] at hv;exact hv
    .by_cases a1:c1.length<=q/\q<c1.length+t.cells
     .have:=hth'.1 (q-c1.length) pF;rwa [show p.2+c1.length+(q-c1.length)=p.2+q from by omega] at this
     .rw[(hkeep q hq a1).1,(hkeep q hq a1).2];exact hth.1 q hq
    .by_cases ht0:0<t.cells
     .exact hth'.2 ht0 s hs
     .exact(hr.fr.shape p.1 s (hth.2 h0 s hs)).resolve_right fun h=>hfar 0 h0 pF (h (p.2+0))
    .by_cases a1:c1.length<=q/\q<c1.length+t.cells
     .exact hns' (q-c1.length) pF (by rw[show p.2+c1.length+(q-c1.length)=p.2+q from by omega];exact hs)
     .rcases hr.fr.new _ _ hs with k|k|k
      .exact hns q hq k
      .have:=hlt' q hq;omega
      .exact hfar q hq a1 k
    .intro q kk hmem;rcases xJ.1 hmem with hmem|hmem
     .obtain⟨q',c',k1,k2,rfl⟩:=VG hmem;rw[AA] at k2;obtain⟨u',l,vv,g1,g2,g3⟩:=htk' q' c' k1;have hq':=aAA g1;refine⟨u',l,vv,aAz hset (aA8 hbY g1) hq',?_,?_⟩
      .rw[aRl,aRt pF,aR5,aRz pF];exact g2
      .rw[(KH hH hm hr hb hf k2).2];exact g3
     .obtain⟨k1,k2⟩:=a0F hmem;obtain⟨u',l,vv,g1,g2,g3⟩:=htk q kk k1;refine⟨u',l,vv,aAp hH hset g1 k2,?_,hle.cur _ _ _ g3⟩;rcases aSr q c1.length with a1|a1
      .rw[aRl,aRz a1] at g2|-;exact g2
      .rw[aRl,aRt pF,aRt pF] at g2|-;rw[l1];rw[hl2] at g2;exact g2
    .obtain⟨pp,hpp,e1,e2,e3⟩:=ho;rw[hJi,hp] at hpp;obtain rfl:=aRi hpp;exact⟨p,hp,e1,e2,e3⟩
    .obtain⟨pp,hpp,e1,e2,e3⟩:=ho;rw[hJi,hp] at hpp;obtain rfl:=aRi hpp;subst e1;by_cases a1:c1.length<=oo-p.2/\oo-p.2<c1.length+t.cells
     .exact .inl ⟨_,hpc,rfl,by simp only;omega,by simp only;omega⟩
     .right;refine⟨hlt' (oo-p.2) pF,?_⟩;have:=hfar (oo-p.2) pF a1;rwa [show p.2+(oo-p.2)=oo from by omega] at this
theorem a0I {c:Nat}{b0 b:q9}(hn:W[c]? =none) (hR:r.H[c]? =some b0) (hbn:DS base r.H.length c W b0=some (base+c,b)):
  A8 (u6 g g' base W (qE upd)) w' (base+c) b/\∀bb oo,sA (u6 g g' base W (qE upd)) (base+c) b bb oo->sA g' c b0 bb oo:=by
 have hc:=(aRs.1 hR).1;obtain⟨hJ,hcur⟩:=N0 hH hm hr hb hf hc hn;have hblk:=hr.heap.blk c _ (by rw[x9];exact hR);cases b0 with
 |dead=>
  simp only[DS,aRd,aRR,true_and] at hbn;subst hbn;exact⟨trivial,fun _ _ h=>h.elim⟩
 |grow e m k=>
  simp only[DS,aRd,aRR,true_and] at hbn;subst hbn;obtain⟨u,xs,hv,h1,h2,h3⟩:=hblk;exact⟨⟨u,xs,by rw[hcur];exact hv,h1,fun m hm'=>by rw[hcur];exact h2 m hm',h3⟩,fun bb oo ⟨v',hv',hb'⟩=>⟨v',by rw[hcur] at hv';exact hv',hb'⟩⟩
 |row e t l n=>
  simp only[DS] at hbn;split at hbn
  .rename_i hp;simp only[aRd,aRR,true_and] at hbn;subst hbn;obtain⟨h0,u,xs,hv,h1,h4,h2,h3⟩:=hblk;exact⟨⟨h0,u,xs,by rw[hcur];exact hv,h1,D4 (fun _ _ h=>wC (g:=g') (g':=u6 g g' base W (qE upd)) rfl hp h) h4,fun m hm'=>by rw[hcur];exact h2 m hm',h3⟩,fun bb oo ⟨v',hv',hb'⟩=>⟨v',by rw[hcur] at hv';exact hv',hb'⟩⟩
  .cases hbn
 |iter s n=>simp [DS] at hbn
 |map k v l=>
  simp only[DS] at hbn;split at hbn
  .rename_i hp;rw[aRw] at hp;simp only[aRd,aRR,true_and] at hbn;subst hbn;obtain⟨p,es,cl,hp1,hp0,hh,hM,hS⟩:=hblk;exact⟨⟨p,es,cl,by rw[hJ];exact hp1,hp0,hh,PQ (g:=g') (g':=u6 g g' base W (qE upd)) rfl hp.1 hp.2 hM,hS⟩,fun bb oo ⟨pp,hpp,e⟩=>⟨pp,by rw[hJ] at hpp;exact hpp,e⟩⟩
  .cases hbn
 |cells t y ts=>
  have fin: ∀y2,bY base r.H.length W t y y2->A8 (u6 g g' base W (qE upd)) w' (base+c) (.cells t y2 (DR base r.H.length W 0 ts))/\∀bb oo,sA (u6 g g' base W (qE upd)) (base+c) (.cells t y2 (DR base r.H.length W 0 ts)) bb oo->sA g' c (.cells t y ts) bb oo:=by
   intro y2 hbY;obtain⟨p,cs,hp1,hR1,h1,h2,h3,h4⟩:=hblk;refine⟨⟨p,cs,by rw[hJ];exact hp1,aA7 hH hm hr hb hf hR1 hbY,h1,h2,h3,fun q kk hmem=> ?_⟩,fun bb oo ⟨pp,hpp,e⟩=>⟨pp,by rw[hJ] at hpp;exact hpp,e⟩⟩;obtain⟨q',c',k1,k2,rfl⟩:=VG hmem;rw[AA] at k2;obtain⟨u',l,vv,g1,g2,g3⟩:=h4 q' c' k1;exact⟨u',l,vv,by rw[aRP];exact aA8 hbY g1,by rw[aRP];exact g2,by rw[(KH hH hm hr hb hf k2).2];exact g3⟩
  simp only[DS] at hbn;split at hbn
  .rename_i hp;simp only[aRd,aRR,true_and] at hbn;subst hbn;exact fin y (.inl ⟨hp,rfl⟩)
  .obtain⟨y2,hy,hq⟩:=aA3 hbn;simp only[aRR,true_and] at hq;subst hq;exact fin y2 (.inr hy)
theorem a0J {c k:Nat}{b0 b:q9}(hW:W[c]? =some (.tok k)) (hR:r.H[c]? =some b0) (hbk:A3 k b0=some (k,b)):
  A8 (u6 g g' base W (qE upd)) w' k b/\∀bb oo,sA (u6 g g' base W (qE upd)) k b bb oo->sA g' c b0 bb oo:=by
 obtain⟨hJ,hcur⟩:=aA5 hH hm hr hb hf hW;have hblk:=hr.heap.blk c _ (by rw[x9];exact hR);cases b0 with
 |dead=>
  simp only[A3,aRd,aRR,true_and] at hbk;subst hbk;exact⟨trivial,fun _ _ h=>h.elim⟩
 |grow e m n=>
  simp only[A3,aRd,aRR,true_and] at hbk;subst hbk;obtain⟨u,xs,hv,h1,h2,h3⟩:=hblk;exact⟨⟨u,xs,by rw[hcur];exact hv,h1,fun m hm'=>by rw[hcur];exact h2 m hm',h3⟩,fun bb oo ⟨v',hv',hb'⟩=>⟨v',by rw[hcur] at hv';exact hv',hb'⟩⟩
 |row e t l n=>
  simp only[A3] at hbk;split at hbk
  .rename_i hp;simp only[aRd,aRR,true_and] at hbk;subst hbk;obtain⟨h0,u,xs,hv,h1,h4,h2,h3⟩:=hblk;exact⟨⟨h0,u,xs,by rw[hcur];exact hv,h1,D4 (fun _ _ h=>wC (g:=g') (g':=u6 g g' base W (qE upd)) rfl hp h) h4,fun m hm'=>by rw[hcur];exact h2 m hm',h3⟩,fun bb oo ⟨v',hv',hb'⟩=>⟨v',by rw[hcur] at hv';exact hv',hb'⟩⟩
  .cases hbk
 |iter s n=>simp [A3] at hbk
 |map s v l=>
  simp only[A3] at hbk;split at hbk
  .rename_i hp;rw[aRw] at hp;simp only[aRd,aRR,true_and] at hbk;subst hbk;obtain⟨p,es,cl,hp1,hp0,hh,hM,hS⟩:=hblk;exact⟨⟨p,es,cl,by rw[hJ];exact hp1,hp0,hh,PQ (g:=g') (g':=u6 g g' base W (qE upd)) rfl hp.1 hp.2 hM,hS⟩,fun bb oo ⟨pp,hpp,e⟩=>⟨pp,by rw[hJ] at hpp;exact hpp,e⟩⟩
  .cases hbk
 |cells t y ts=>simp [A3] at hbk
theorem aJQ {side:List Prop}{s:qB}{rds:pP}{vv:pR}(hs:rH (u6 g g' base W (qE upd)) w' s vv):sB g w H ⟨side,s,upd,rds⟩ (u6 g g' base W (qE upd)) w' vv:=by
 have le:=aA6 hH hm hr hb hf;have fr:=aJP hH hm hr hb hf;have gho: ∀i,i∉qE upd->(u6 g g' base W (qE upd)).J i=g.J i/\(u6 g g' base W (qE upd)).cur i=g.cur i:=fun i hi=>
  aA4 hH hm hr hb hf (fun h=>hi h.2) (VF fun c hc=>hi ((FC hH hm hr hb hf hc).1))
 have perm: ∀i blk b o,i∈qE upd->qD (qT upd H) i=some blk->sA (u6 g g' base W (qE upd)) i blk b o->w.heap.size<=b\/sX g H (qE upd) b o:=by
  intro i blk b o hi hg ho;rcases VH hH hm hr hb hf hi hg with⟨c,i',u,x,toks,off,b0,h1,h2,h3,h4⟩ |⟨c,k,b0,h1,h2,h3,h4⟩ |⟨c,b0,h1,h2,h3,h4⟩
  .subst h2;obtain⟨_,k2,_⟩:=a0H hH hm hr hb hf h1 h3 h4;exact .inr ⟨i,_,hi,(k2 b o ho).2,(k2 b o ho).1⟩
  .subst h2;obtain⟨_,k2⟩:=a0J hH hm hr hb hf h1 h3 h4;exact(hr.perm c b0 b o h3 (k2 b o ho)).imp id fun h=>a0G hH hm hr hb hf h
  .rw[aRP] at h2 h4;subst h2;obtain⟨_,k2⟩:=a0I hH hm hr hb hf h3 h1 h4;exact(hr.perm c b0 b o h1 (k2 b o ho)).imp id fun h=>a0G hH hm hr hb hf h
 refine⟨le,hs,hH.upd le fr perm gho (fun i blk hi hg=> ?_) (fun i j bi bj b o hi hj hij hgi hgj hoi hoj=> ?_) (fun b o h=>hr.heap.sl b o h),fr,perm,gho,fun i u' y us h=> ?_⟩
 .rcases VH hH hm hr hb hf hi hg with⟨c,i',u,x,toks,off,b0,h1,h2,h3,h4⟩ |⟨c,k,b0,h1,h2,h3,h4⟩ |⟨c,b0,h1,h2,h3,h4⟩
  .subst h2;exact(a0H hH hm hr hb hf h1 h3 h4).1
  .subst h2;exact(a0J hH hm hr hb hf h1 h3 h4).1
  .rw[aRP] at h2 h4;subst h2;exact(a0I hH hm hr hb hf h3 h1 h4).1
 .have cls: ∀{i:Nat}{blk:q9},i∈qE upd->qD (qT upd H) i=some blk->sA (u6 g g' base W (qE upd)) i blk b o->
    (∃c u x toks off b0,W[c]? =some (.box i u x toks off)/\r.H[c]? =some b0/\sA g i (.cells u x toks) b o/\qD H i=some (.cells u x toks)/\(sA g' c b0 b o\/(b<w.heap.size/\¬y8 (vP g W) (qM 0 L) b o)))\/
    (∃c b0,AO base r.H.length c W[c]? =some i/\r.H[c]? =some b0/\sA g' c b0 b o):=by
   intro i blk hi hg ho;rcases VH hH hm hr hb hf hi hg with⟨c,i',u,x,toks,off,b0,h1,h2,h3,h4⟩ |⟨c,k,b0,h1,h2,h3,h4⟩ |⟨c,b0,h1,h2,h3,h4⟩
   .subst h2;obtain⟨_,k2,k3⟩:=a0H hH hm hr hb hf h1 h3 h4;exact .inl ⟨c,u,x,toks,off,b0,h1,h3,(k2 b o ho).1,(k2 b o ho).2,k3 b o ho⟩
   .subst h2;obtain⟨_,k2⟩:=a0J hH hm hr hb hf h1 h3 h4;exact .inr ⟨c,b0,by rw[h1];rfl,h3,k2 b o ho⟩
   .rw[aRP] at h2 h4;subst h2;obtain⟨_,k2⟩:=a0I hH hm hr hb hf h3 h1 h4;exact .inr ⟨c,b0,by rw[h3];simp only[AO];rw[aRf (aRs.1 h1).1],h1,k2 b o ho⟩
  have cross: ∀{c c':Nat}{b0 b1:q9},c≠c'->r.H[c]? =some b0->r.H[c']? =some b1->sA g' c b0 b o->sA g' c' b1 b o->False:=fun hne h1 h2 o1 o2=>
   hr.heap.dis _ _ _ _ b o hne (by rw[x9];exact h1) (by rw[x9];exact h2) o1 o2
  rcases cls hi hgi hoi with⟨c,u,x,toks,off,b0,h1,h2,h3,h4,h5⟩ |⟨c,b0,h1,h3,h4⟩<;>rcases cls hj hgj hoj with⟨c',u',x',toks',off',b0',k1,k2,k3,k4,k5⟩ |⟨c',b0',k1,k3,k4⟩
  .exact hH.dis i j _ _ b o hij h4 k4 h3 k3
  .rcases h5 with h5|⟨h5,h6⟩
   .exact cross (fun e=>by subst e;rw[h1] at k1;cases k1) h2 k3 h5 k4
   .rcases hr.perm c' b0' b o k3 k4 with h|h
    .omega
    .exact h6 h
  .rcases k5 with k5|⟨k5,k6⟩
   .exact cross (fun e=>by subst e;rw[k1] at h1;cases h1) h3 k2 h4 k5
   .rcases hr.perm c b0 b o h3 h4 with h|h
    .omega
    .exact k6 h
  .exact cross (fun e=>by subst e;rw[h1] at k1;exact hij (aRi k1)) h3 k3 h4 k4
 .by_cases hi:i∈qE upd
  .rcases VH hH hm hr hb hf hi h with⟨c,i',u,x,toks,off,b0,h1,h2,h3,h4⟩ |⟨c,k,b0,h1,h2,h3,h4⟩ |⟨c,b0,h1,h2,h3,h4⟩
   .subst h2;obtain⟨_,_,bL,hL,hok⟩:=FC hH hm hr hb hf h1;cases b0 with
    |cells t y0 ts=>
     obtain⟨y2,z,_,hset,hq⟩:=a0E h4;simp only[aRR,q9.cells.injEq,true_and] at hq;obtain⟨rfl,_⟩:=hq;cases bL with
     |cells=>exact .inl ⟨x,toks,hok.1⟩
     |_=>exact hok.elim
    |grow=>simp [y5] at h4
    |row=>simp [y5] at h4
    |map=>simp [y5] at h4
    |iter=>simp [y5] at h4
    |dead=>simp [y5] at h4
   .cases b0 with
    |cells t y0 ts=>simp [A3] at h4
    |iter=>simp [A3] at h4
    |map=>simp only[A3] at h4;split at h4<;>simp at h4
    |row=>simp only[A3] at h4;split at h4<;>simp at h4
    |_=>simp [A3] at h4
   .rw[aRP] at h2;exact .inr (hf i hi pF)
  .exact .inl ⟨y,us,(CF hi).symm.trans h⟩
end
section
variable {P:Program}{g:Gh}{w:pQ}
def aJR (P:Program) (g:Gh) (w:pQ) (d:Nat) (ty:Ty) (x y:ty.den):ZY->Prop
 | .ty t=> ∀vx vy,tO g w ty x vx->tO g w ty y vy->∃b,C0 ty x y=some b/\(Op.equalIn (d+1) t vx vy).run P w= .ok b w
 | .fs o l=> ∀px py cx cy,px.length=o->py.length=o->Rd g w ty x cx->Rd g w ty y cy->∃b,C0 ty x y=some b/\(Op.eqFields (d+1) (px++cx).toArray (py++cy).toArray l).run P w= .ok b w
 | .el e i m=> ∀px py cx cy,px.length=i*P.cellsOf e->py.length=i*P.cellsOf e->Rd g w ty x cx->Rd g w ty y cy->∃b,C0 ty x y=some b/\(Op.eqItems (d+1) e (P.cellsOf e) (px++cx).toArray (py++cy).toArray (List.range' i m)).run P w= .ok b w
theorem aJS {e:TypeId}{n:Nat}(h:(P.info? e).map (·.size)=some n):P.cellsOf e=n:=by
 obtain⟨i,h1,h2⟩:=aRn.1 h;simp [Program.cellsOf,h1,h2]
theorem yW.run {n:Nat}{ix:ZY}{ty:Ty}(h:yW P n ix ty): ∀(d:Nat),n<=d->∀x y:ty.den,aJR P g w d ty x y ix:=by
 induction h with
 |bool hu=>
  intro d _ x y vx vy hx hy;obtain rfl:=vY hx;obtain rfl:=vY hy;exact⟨_,rfl,run_equalIn_bool' w d _ _ _ hu⟩
 |int hu=>
  intro d _ x y vx vy hx hy;obtain rfl:=wM hx;obtain rfl:=wM hy;refine⟨_,rfl,(run_equalIn_int w d _ _ _ _ _ hu).trans ?_⟩;congr 1
 |str hu=>
  intro d _ x y vx vy hx hy;obtain rfl:=wU hx;obtain rfl:=wU hy;refine⟨_,rfl,(run_equalIn_string w d _ _ _ hu).trans ?_⟩;congr 1;rw[ByteArray.toList_eq,ByteArray.toList_eq];exact PU _ _
 | @struct h0 t0 fs0 ty0 hr hu hs _ ih=>
  intro d hd x y vx vy hx hy;obtain⟨cx,rfl,rx⟩:=KE hr hx;obtain⟨cy,rfl,ry⟩:=KE hr hy;obtain⟨d,rfl⟩: ∃d',d=d'+1:=⟨d-1,pF⟩;obtain⟨b,h1,h2⟩:=ih d pF x y [] [] cx cy rfl rfl rx ry;refine⟨b,h1,?_⟩;have hf:P.fieldsOf t0=fs0:=by unfold Program.fieldsOf;rw[hu]
  rw[run_equalIn_struct w _ _ _ _ (by rw[hf];exact hu) hs,hf];simpa using h2
 |arr hr hu hi _ ih=>
  intro d hd x y vx vy hx hy;obtain⟨cx,rfl,rx⟩:=KE hr hx;obtain⟨cy,rfl,ry⟩:=KE hr hy;obtain⟨d,rfl⟩: ∃d',d=d'+1:=⟨d-1,pF⟩;obtain⟨b,h1,h2⟩:=ih d pF x y [] [] cx cy pH pH rx ry;refine⟨b,h1,?_⟩;obtain⟨i,hi⟩:=aRh.1 hi;rw[run_equalIn_array w _ _ _ hu hi,List.range_eq_range'];simpa using h2
 |nil=>
  intro d _ x y px py cx cy _ _ _ _;exact⟨true,rfl,by simp [Op.eqFields]⟩
 |anil=>
  intro d _ x y px py cx cy _ _ _ _;exact⟨true,rfl,by simp [Op.eqItems]⟩
 | @cons h o f r a b hn ho hsz hrow _ _ iha ihb=>
  intro d hd x y px py cx cy hpx hpy ⟨x1,x2,ex,rx1,rx2⟩ ⟨y1,y2,ey,ry1,ry2⟩;subst ex;subst ey;obtain⟨vx,p1,v1⟩:=PV (P:=P) (c1:=px) (c3:=x2) hsz hrow rx1;obtain⟨vy,p2,v2⟩:=PV (P:=P) (c1:=py) (c3:=y2) hsz hrow ry1;obtain⟨b1,e1,r1⟩:=iha d hd x.1 y.1 vx vy v1 v2;obtain⟨b2,e2,r2⟩:=ihb d hd x.2 y.2 (px++x1) (py++y1) x2 y2 (by rw[aRg,hpx,sR rx1]) (by rw[aRg,hpy,sR ry1]) rx2 ry2;refine⟨b1&&b2,by simp only[C0,e1,e2,C0.eqAnd],?_⟩;rw[aRl] at p1 p2 r2;rw[aRl] at r2;rw[hpx,<-ho] at p1;rw[hpy,<-ho] at p2;simp only[Op.eqFields,aRf hn,aRy,p1,p2,aRp,r1];cases b1
  .simp
  .simpa using r2
 | @acons h e i m a b hsz hrow _ _ iha ihb=>
  intro d hd x y px py cx cy hpx hpy ⟨x1,x2,ex,rx1,rx2⟩ ⟨y1,y2,ey,ry1,ry2⟩;subst ex;subst ey;have hc:=aJS hsz;obtain⟨vx,p1,v1⟩:=PV (P:=P) (c1:=px) (c3:=x2) hsz hrow rx1;obtain⟨vy,p2,v2⟩:=PV (P:=P) (c1:=py) (c3:=y2) hsz hrow ry1;obtain⟨b1,e1,r1⟩:=iha d hd x.1 y.1 vx vy v1 v2;obtain⟨b2,e2,r2⟩:=ihb d hd x.2 y.2 (px++x1) (py++y1) x2 y2 (by rw[aRg,hpx,sR rx1,hc,aSm]) (by rw[aRg,hpy,sR ry1,hc,aSm]) rx2 ry2;refine⟨b1&&b2,by simp only[C0,e1,e2,C0.eqAnd],?_⟩;rw[aRl] at p1 p2 r2;rw[aRl] at r2;rw[hpx] at p1;rw[hpy] at p2;simp only[aTm,Op.eqItems,aRy,p1,p2,aRp,r1];cases b1
  .simp
  .simpa using r2
variable {o:Oper}{a:Act}{H:s7}{T:sK}(hT:xH P T) (hH:sE g w H)
include hT hH
theorem aJT {op:BinOp}{xt yt:TypeId}{x y:Operand}(ho:o.op= .binOp op xt x y yt) {sx sy:qB}(hx:rH g w sx (a.eval x)) (hy:rH g w sy (a.eval y)) {e:qJ}
  (hr:AL (YK (rK T xt) op sx sy)=some e):rC P o a g w H e:=by
 obtain⟨q,hq,rfl⟩:=IC hr;have go: ∀{u v:pR},a.eval x=u->a.eval y=v->(∃z,(do eqGuard op xt x y u v;Go.binOp op xt u v:Sem pR).run P w= .ok z w/\A7 g w q.2 z)->rC P o a g w H ⟨q.1,(q.2,none),[],[]⟩:=by
  rintro u v rfl rfl ⟨z,hz,hd⟩;refine rC.pure hH (v:=z) ?_ hd;unfold execOp;rw[ho];simp only[aRy,aRI] at hz|-;rw[hz];rfl
 replace hx:=hx.1;replace hy:=hy.1;generalize hti:rK T xt=oti at hq;unfold YK at hq;split at hq
 .rename_i u el by' ar ls_ t l k k';have hd:=(tE hT hti).2;simp only[yJ] at hd;obtain⟨ax,cx,ex,hle,hll⟩:=D5 hx;have hnil:ax=none->l=[]:=fun h=>by
   rcases hll with h1|⟨b,o,h1,_⟩
   .exact h1
   .rw[h] at h1;cases h1
  have ey:a.eval y= .slice none 0 0:=hy;refine go ex ey ?_;unfold TA at hq;split at hq
  .cases hq;have h1:(do eqGuard .eql xt x y (.slice ax (List.length l) cx) (.slice none 0 0);Go.binOp .eql xt (.slice ax (List.length l) cx) (.slice none 0 0):Sem pR).run P w= .ok (.bool ax.isNone) w:=by
    simp only[aRy];rw[show (eqGuard .eql xt x y (.slice ax (List.length l) cx) (.slice none 0 0)).run P w= .ok () w from by simp [eqGuard]];exact Lib.run_eql_slice_nil (P:=P) w xt _ ax (List.length l) cx 0 0 hd.1
   exact⟨_,h1,_,rfl,fun h=>hnil (by simpa using h),fun _=>trivial⟩
  .cases hq;have h1:(do eqGuard .neq xt x y (.slice ax (List.length l) cx) (.slice none 0 0);Go.binOp .neq xt (.slice ax (List.length l) cx) (.slice none 0 0):Sem pR).run P w= .ok (.bool (!ax.isNone)) w:=by
    simp only[aRy];rw[show (eqGuard .neq xt x y (.slice ax (List.length l) cx) (.slice none 0 0)).run P w= .ok () w from by simp [eqGuard]];exact run_neq_slice_nil_any (P:=P) w xt _ ax (List.length l) cx 0 0 hd.1
   exact⟨_,h1,_,rfl,fun _=>trivial,fun h=>hnil (by simpa using h)⟩
  .cases hq
 .rename_i u el by' ar ls_ k t l k';have hd:=(tE hT hti).2;simp only[yJ] at hd;obtain⟨ay,cy,ey,hle,hll⟩:=D5 hy;have hnil:ay=none->l=[]:=fun h=>by
   rcases hll with h1|⟨b,o,h1,_⟩
   .exact h1
   .rw[h] at h1;cases h1
  have ex:a.eval x= .slice none 0 0:=hx;refine go ex ey ?_;unfold TA at hq;split at hq
  .cases hq;have h1:(do eqGuard .eql xt x y (.slice none 0 0) (.slice ay (List.length l) cy);Go.binOp .eql xt (.slice none 0 0) (.slice ay (List.length l) cy):Sem pR).run P w= .ok (.bool ay.isNone) w:=by
    simp only[aRy];rw[show (eqGuard .eql xt x y (.slice none 0 0) (.slice ay (List.length l) cy)).run P w= .ok () w from by simp [eqGuard]];exact run_eql_nil_slice (P:=P) w xt _ ay (List.length l) cy 0 0 hd.1
   exact⟨_,h1,_,rfl,fun h=>hnil (by simpa using h),fun _=>trivial⟩
  .cases hq;have h1:(do eqGuard .neq xt x y (.slice none 0 0) (.slice ay (List.length l) cy);Go.binOp .neq xt (.slice none 0 0) (.slice ay (List.length l) cy):Sem pR).run P w= .ok (.bool (!ay.isNone)) w:=by
    simp only[aRy];rw[show (eqGuard .neq xt x y (.slice none 0 0) (.slice ay (List.length l) cy)).run P w= .ok () w from by simp [eqGuard]];exact run_neq_nil_slice (P:=P) w xt _ ay (List.length l) cy 0 0 hd.1
   exact⟨_,h1,_,rfl,fun _=>trivial,fun h=>hnil (by simpa using h)⟩
  .cases hq
 .rename_i u el b ar ls_ t x' k t' y' k';unfold a9j at hq;split at hq
  .rename_i htt;subst htt;split at hq
   .rename_i hc;obtain⟨rfl,hc⟩:=hc;simp only[uY] at hq;obtain⟨r,hr1,hr2⟩: ∃r,C0 t' x' y'=some r/\((op= .eql/\q=([],.val .bool r))\/(op= .neq/\q=([],.val .bool (!r)))):=by
     generalize hgen:C0 t' x' y'=od at hq;unfold a9h at hq;split at hq
     .rename_i r;cases hq;exact⟨r,rfl,.inl ⟨rfl,rfl⟩⟩
     .rename_i r;cases hq;exact⟨r,rfl,.inr ⟨rfl,rfl⟩⟩
     .cases hq
    have hti':=tE hT hti;rcases hc with rfl|⟨hrow,rfl⟩
    .have hd:=hti'.2;simp only[yJ] at hd;obtain hbx:=vY hx;obtain hby:=vY hy;refine go hbx hby ?_;have hrr:r=(x'==y'):=(aRi hr1).symm;subst hrr;have hrun:=run_equalIn_bool' (P:=P) w 9999 xt x' y' hd;rcases hr2 with⟨rfl,rfl⟩ |⟨rfl,rfl⟩
     .refine⟨.bool (x'==y'),?_,wV _ _ _⟩;simp only[aRy];rw[show (eqGuard .eql xt x y (.bool x') (.bool y')).run P w= .ok () w from by simp [eqGuard]];simp only[aRp,Go.binOp,Op.equal,Op.maxDepth,aRy,hrun,aRI]
     .refine⟨.bool (!(x'==y')),?_,wV _ _ _⟩;simp only[aRy];rw[show (eqGuard .neq xt x y (.bool x') (.bool y')).run P w= .ok () w from by simp [eqGuard]];simp only[aRp,Go.binOp,Op.equal,Op.maxDepth,aRy,hrun,aRI]
    .have h2:=hti'.2;have heq:P.eqGuardType P.depth xt=false/\∃h,h<9000/\yW P h (.ty xt) t':=by
      unfold yJ at h2;cases t'<;>simp only[Ty.isRow,aS0] at hrow
      all_goals exact h2.2 rfl
     obtain⟨hg1,hh,hlt,hE⟩:=heq;obtain⟨cx,ex,rx⟩:=KE hrow hx;obtain⟨cy,ey,ry⟩:=KE hrow hy;obtain⟨b',hb1,hb2⟩:=hE.run (g:=g) (w:=w) 9999 pF x' y' _ _ hx hy;rw[hr1] at hb1;obtain rfl:=aRi hb1;rw[ex,ey] at hb2;refine go ex ey ?_;rcases hr2 with⟨rfl,rfl⟩ |⟨rfl,rfl⟩
     .refine⟨.bool r,?_,wV _ _ _⟩;simp only[aRy];rw[run_eqGuard_agg w _ _ _ _ _ _ hg1];simp only[aRp];rw[run_eql_struct,hb2];rfl
     .refine⟨.bool (!r),?_,wV _ _ _⟩;simp only[aRy];rw[run_eqGuard_agg w _ _ _ _ _ _ hg1];simp only[aRp];rw[run_neq_struct,hb2];rfl
   .cases hq
  .cases hq
 .cases hq
end
end Go.Proofs.YtkpflnijijccpaaGreatDoor.Vc
namespace Go.Proofs.YtkpflnijijccpaaGreatDoor.Vc
open Go.RowKit
theorem aJU (s:pC):Lib.strCells ⟨s.toArray⟩=s.map fun b=>Value.int .u8 b.toNat:=by
 simp [Lib.strCells]
theorem aJV {P:Program}(w:pQ) (t u ty e:TypeId) (i:TypeInfo) (ht:P.underlying t=some (.slice e)) (hu:P.underlying u=some .string) (hi:P.info? e=some i) (hz:i.zero=some (.int .u8 0))
  (hsize:i.size=1) (hby:i.bytes=1) (v:pR) (n:Nat) (xs:pM) (hown:w.ownsRow 0 e 1 v n xs) (s:ByteArray) (hm:0<s.size)
  (h63:n+s.size<=maxLen) (hbytes:n+s.size<=140737488355328):
  ∃q cap w',(Builtin.append_ #[t,u] ty #[v,.string s]).run P w= .ok (.slice (some ⟨q,0,none⟩) (n+s.size) cap) w'/\w'.ownsRow 0 e 1 (.slice (some ⟨q,0,none⟩) (n+s.size) cap) (n+s.size) (xs++Lib.strCells s)/\
   (q=w.heap.size\/v.ownBlock=some q)/\w.grownBy w' v.ownBlock/\n+s.size<=cap/\
   ∀b o,b<w.heap.size->(v.ownBlock=some b->o<n*1)->w'.cell? ⟨b,o,none⟩=w.cell? ⟨b,o,none⟩:=by
 have hsmall:n+s.size<=9223372036854775807:=by simp only[maxLen] at h63;omega
 have hxl:xs.length=n:=by simpa using hown.1
 have hlen:(xs++Lib.strCells s).length=(n+s.size)*1:=by rw[aRg,hxl,Lib.strCells_length,aS3]
 have grown: ∀(old:Nat),old<n+s.size->∀(row:pO),
   (w.drew.alloc (.cells (xs.toArray++(Lib.strCells s).toArray++Builtin.zeroCells (Value.int .u8 0).cells (grownCap w (n+s.size) old e- (n+s.size))) e)).ownsRow 0 e 1
    (.slice (some ⟨w.heap.size,0,none⟩) (n+s.size) (grownCap w (n+s.size) old e)) (n+s.size) (xs++Lib.strCells s)/\
   w.grownBy (w.drew.alloc (.cells (xs.toArray++(Lib.strCells s).toArray++Builtin.zeroCells (Value.int .u8 0).cells (grownCap w (n+s.size) old e- (n+s.size))) e)) row/\n+s.size<=grownCap w (n+s.size) old e/\
   ∀b o,b<w.heap.size->(w.drew.alloc (.cells (xs.toArray++(Lib.strCells s).toArray++Builtin.zeroCells (Value.int .u8 0).cells (grownCap w (n+s.size) old e- (n+s.size))) e)).cell? ⟨b,o,none⟩=w.cell? ⟨b,o,none⟩:=by
  intro old ho row;have hge:=grownCap_ge w (n+s.size) old e;have hcm:grownCap w (n+s.size) old e<=maxLen:=grownCap_le_maxLen w (n+s.size) old e h63;refine⟨⟨hlen,.inr ⟨w.heap.size,_,_,rfl,aSo _,aTg w.drew _,hge,hcm,?_,?_⟩⟩,⟨rfl,rfl,rfl,by simp,fun k hk _=>aRN w.drew _ k hk⟩,hge,fun b o hb=>aRH (w:=w) (a:=⟨b,o,none⟩) (aRN w.drew _ b hb)⟩
  .have hz1:(Value.int IntKind.u8 0).cells.size=1:=rfl;simp only[aS6,aR7,size_zeroCells,hz1,hxl,Lib.strCells_length];omega
  .simp only[Array.toList_append,aRl];rw[<-aRl,<-hlen];exact aSd
 rcases hown.2 with⟨rfl,rfl⟩ |⟨g,cap,cur,rfl,hbg,hg,hnc,hcm,hcs,htake⟩
 .have hx:xs=[]:=aRS hxl;subst hx;have hr:=run_append_nil_string (P:=P) w t u ty e i (.int .u8 0) ht hu hi hz s pF pF (by rw[hby];omega);have hgr:=grown 0 pF (Value.ownBlock (.slice none 0 0));simp only[aRP,List.nil_append,Array.empty_append] at hgr|-;have e1:(s.data.map fun b=>Value.int .u8 b.toNat)=(Lib.strCells s).toArray:=by
   apply Array.ext';simp [Lib.strCells]
  rw[e1] at hr;exact⟨_,_,_,hr,hgr.1,.inl rfl,hgr.2.1,hgr.2.2.1,fun b o hb _=>hgr.2.2.2 b o hb⟩
 .by_cases hroom:n+s.size<=cap
  .have hcs':cur.size=cap:=by simpa using hcs
   have hr:=Lib.run_append_room_string (P:=P) w t u ty e i ht hu hi hsize g n cap cur hg s hroom pF;refine⟨_,_,_,hr,⟨hlen,.inr ⟨g,cap,_,rfl,hbg,aTa w g cur _ e _ hg,hroom,hcm,?_,?_⟩⟩,.inr rfl,⟨rfl,rfl,rfl,by simp,fun k _ hk=>aSN w g k _ (fun e=>hk (by simp [Value.ownBlock,e]))⟩,hroom,fun b o hb hso=> ?_⟩
   .simp only[aR7,aRg,aRD,aRA,aRQ,Lib.strCells_length];omega
   .have ht':cur.toList.take n=xs:=by simpa using htake
    rw[ht',<-hlen];exact aSd
   .by_cases hbg':b=g
    .subst hbg';have ho:=hso rfl;rw[cell_setRow_same w b o cur _ e _ hg,cell_of_row w b o cur e (0,0) hg];have hlt:o<(cur.toList.take n).length:=by rw[aRD,aRQ];omega
     have hlt2:o<cur.size:=by rw[aRD,aRQ] at hlt;omega
     simp only[List.getElem?_toArray,aRl];rw[aRz hlt,aSv,aRf pF];simp
    .exact aRH (a:=⟨b,o,none⟩) (aSN w g b _ hbg')
  .have holds: ∀j u,xs[j]? =some u->w.cell? ((⟨g,0,none⟩:Addr).add j)=some u:=hown.cells (g:=g) rfl;have hr:=Lib.run_append_grow_string (P:=P) w t u ty e i (.int .u8 0) ht hu hi hz ⟨g,0,none⟩ n cap xs (by rw[hsize];simpa using hxl) holds s pF pF (by rw[hby];exact growslice_fits pF pF);have hgr:=grown cap pF (Value.ownBlock (.slice (some ⟨g,0,none⟩) n cap));exact⟨_,_,_,hr,hgr.1,.inl rfl,hgr.2.1,hgr.2.2.1,fun b o hb _=>hgr.2.2.2 b o hb⟩
theorem aJW {P:Program}(w:pQ) (t u ty e:TypeId) (i:TypeInfo) (ht:P.underlying t=some (.slice e)) (hu:P.underlying u=some .string) (hi:P.info? e=some i) (hsize:i.size=1) (ad:Option Addr) (n c:Nat) (hle:n<=c):
  (Builtin.append_ #[t,u] ty #[.slice ad n c,.string ⟨#[]⟩]).run P w= .ok (.slice ad n c) w:=by
 have hf:=Lib.run_firstCells_string (P:=P) w 1 ⟨#[]⟩;have hm:(⟨#[]⟩:ByteArray).size=0:=rfl;rw[hm] at hf;cases ad<;>simp [Builtin.append_,aRB ht,aRB hu,sizeOf,typeInfo,hi,hsize,Builtin.lenOf,hm,hf,hle,Lib.strCells,storeCells]
theorem aBb (g:Gh) (w:pQ): ∀s:pC,tX (Rd g w (.int .u8)) 1 (uR s) (s.map fun b=>Value.int .u8 b.toNat)
 |[]=>rfl
 |b::s=>⟨[.int .u8 b.toNat],_,rfl,rfl,rfl,aBb g w s⟩
section
variable {P:Program}{o:Oper}{a:Act}{g:Gh}{w:pQ}{H:s7}{T:sK}(hT:xH P T) (hH:sE g w H)
include hT hH
theorem aJX {t t':TypeId}{x:Operand}(ho:o.op= .convert t t' x) {sx:qB}(hx:rH g w sx (a.eval x)) {e:qJ}
  (hr:AL (YN T (rK T t) (rK T t') sx)=some e):rC P o a g w H e:=by
 obtain⟨q,hq,rfl⟩:=IC hr;replace hx:=hx.1;generalize h1:rK T t=o1 at hq;generalize h2:rK T t'=o2 at hq;unfold YN at hq;split at hq
 .rename_i e b1 a1 l1 e2 b2 a2 l2 l k;generalize h3:rK T e=o3 at hq;unfold a9k at hq;split at hq
  .cases hq;have d1:=(tE hT h1).2;have d2:=(tE hT h2).2;have d3:=(tE hT h3).2;simp only[yJ] at d1 d2 d3;obtain⟨ad,cap,hv,hle,hl⟩:=D5 hx;refine rC.pure hH (v:= .string ⟨(vG l).toArray⟩) ?_ (BD _ _ _);simp only[execOp,ho,hv,aRy];have run:(convert t t' (.slice ad (List.length l) cap)).run P w= .ok (.string ⟨(vG l).toArray⟩) w:=by
    rcases hl with rfl|⟨b,off,rfl,hL⟩
    .rw[run_convert_bytes_string w t t' e ad _ cap d1.1 d3 d2];cases ad with
     |none=>simp [Conv.bytesToString,vG];rfl
     |some ad=>simp [Conv.bytesToString,loadCells,loadCellsFrom,vG];rfl
    .have:=run_convert_bytes_arg (P:=P) w t e d1.1 d3 b off (List.length l) cap l rfl (fun i hi=>by
      obtain⟨cs,_,c2,_,c4⟩:=MR hL (aRr hi);have c5:cs=[.int .u8 (l[i]:Int)]:=c4;subst c5;have:=c2 0 _ rfl;have hcell:Ty.cells (.int .u8)=1:=rfl;rw[hcell,aS3,aSg] at this;rw[this,aRO,aRr hi];rfl) t' d2
     exact this
   rw[run];rfl
  .cases hq
 .cases hq
theorem aJY {args:Array Operand}{tys:Array TypeId}(ho:o.op= .call ⟨.builtin .append,args,tys⟩) {ρ:Operand->qB}(hρ: ∀x∈args.toList,rH g w (ρ x) (a.eval x)) {e:qJ}
  (hr:UG T H (vX ρ args.toList) tys.toList=some e) (hs: ∀p∈e.side,p):rC P o a g w H e:=by
 unfold UG at hr;split at hr
 .rename_i t u htu;have htys:tys= #[t,u]:=by apply aSp.1;rw[htu]
  split at hr
  .rename_i e1;subst e1;exact aJi hT hH ho hρ htys hr hs
  .clear htu;subst htys;generalize hst:rK T t=ot at hr;generalize hsu:rK T u=ou at hr;generalize hss:vX ρ args.toList=ss at hr;unfold ZL at hr;split at hr
   .rename_i el ar ls_ e2 b2 a2 ls2 l k s k2;generalize hk:qD H k=ob at hr;unfold UF at hr;split at hr
    .rename_i e' c n;split at hr
     .rename_i hec;obtain⟨rfl,rfl⟩:=hec;cases hr;rw[aRg];have hsl:List.length (uR s)=List.length s:=by simp [uR]
      rw[hsl];have hln:=hs _ (by simp:(List.length l=n)∈_);have hby:=hs _ (by simp:(List.length l+List.length s<=140737488355328)∈_);obtain⟨v,vr,hv,hs1,hs2⟩:=V1 hT hH hρ hss;obtain⟨h2,h3,_⟩:=(tE hT hst).2;have hu:=(tE hT hsu).2;simp only[yJ] at hu;obtain⟨ei,hei,hz⟩:=aRn.1 h3;simp only[aRR] at hz;obtain⟨cs,hx⟩:=GG (a:=a) hT hH ho;obtain⟨v0,xs,hv0,hown,hnone,hseal⟩:=hH.blk k _ hk;have hcur:g.cur k (List.length l)=some v:=hs1.2;rw[hln,hv0] at hcur;obtain rfl:=aRi hcur;obtain⟨adl,capl,hvl,hlel,hll⟩:=D5 hs1.1;have hvr:=wU hs2.1;have hsz:(⟨List.toArray s⟩:ByteArray).size=List.length s:=by simp [ByteArray.size]
      by_cases hm:List.length s=0
      .obtain rfl:s=[]:=aRS hm;have hget: ∀i,qD (qT [(k,q9.grow e' 1 (List.length l+List.length ([]:pC)))] H) i=qD H i:=by
        intro i;simp only[qT,qD];by_cases hi:k=i
        .subst hi;rw[aRf rfl,hk,hln];rfl
        .rw[aRk hi]
       have hkeep:sB g w H ⟨[List.length l=n,List.length l+List.length ([]:pC)<=140737488355328],(.val (.list (.int .u8)) (l++uR []),some k),[(k,.grow e' 1 (List.length l+List.length ([]:pC)))],[k]⟩ g w v0:=by
        refine⟨.refl _ _,?_,⟨fun i b h=>hH.blk i b ((hget i).symm.trans h),fun i j bi bj b o' hij h1 h2=>hH.dis i j bi bj b o' hij ((hget i).symm.trans h1) ((hget j).symm.trans h2),hH.sl,hH.tab.1,fun i blk b o' h ho'=>hH.tab.2 i blk b o' ((hget i).symm.trans h) ho'⟩,.refl _ _ _,fun i blk b o' hi hg ho'=> .inr ⟨i,blk,hi,(hget i).symm.trans hg,ho'⟩,fun _ _=>⟨rfl,rfl⟩,fun i u' y us h=> .inl ⟨y,us,(hget i).symm.trans h⟩⟩;rw[show l++uR []=l from by simp [uR]];exact hs1
       refine rC.value (v:=v0) (w':=w) ?_ hkeep;rw[hx,hv,hvr,hvl];have:=aJW (P:=P) w t u o.type e' ei h2 hu hei (by rw[hz.1];rfl) adl (List.length l) capl hlel;simp only[builtin,aRy];rw[this];simp only[aRp,aRI]
      .have hxs:tX (Rd g w (.int .u8)) 1 l xs:=by
        by_cases h0:List.length l=0
        .obtain rfl:l=[]:=aRS h0;have:xs=[]:=aRS (by rw[hown.1,<-hln];simp);exact this
        .rcases hll with rfl|⟨b0,off0,rfl,hL0⟩
         .exact absurd rfl h0
         .obtain⟨ls,hF0,hra0,_⟩:=MU hL0;rcases hown.2 with⟨e1,e2⟩ |⟨q,cap,cur,e1,e2⟩
          .exact absurd (hln.trans e2) h0
          .rw[hvl] at e1;simp only[aTf,aRd,Addr.mk.injEq] at e1;obtain⟨⟨rfl,rfl,_⟩,_,rfl⟩:=e1;have hvn:v0= .slice (some ⟨b0,0,none⟩) n capl:=by rw[hvl,hln]
           have hrx:=a0n (hvn▸hown);have:ls=xs:=by
            have hl1:=IB hF0;have hl2:=hown.1;have hc1:Ty.cells (.int .u8)=1:=rfl;rw[hc1] at hl1;apply List.ext_getElem?;intro j;by_cases hj:j<ls.length
            .have h1:=hra0 j ls[j] (aRr hj);have hj':j<xs.length:=by rw[hl2,<-hln,<-hl1];exact hj
             have h2:=hrx j xs[j] (aRr hj');rw[h1] at h2;rw[aRr hj,aRr hj',aRi h2]
            .rw[aSI pF,aSI (by rw[hl2,<-hln,<-hl1];omega)]
           rw[<-this];exact hF0
       obtain⟨q,cap,w',hrun,hown',hq,hg,hcap,hcell⟩:=aJV (P:=P) w t u o.type e' ei h2 hu hei hz.2.2 hz.1 hz.2.1 v0 n xs hown ⟨List.toArray s⟩ (by rw[hsz];omega) (by rw[hsz];unfold maxLen;omega) (by rw[hsz];omega);rw[hsz] at hrun hown' hcap;rw[aJU] at hown';refine rC.value (v:= .slice (some ⟨q,0,none⟩) (n+List.length s) cap) (w':=w') ?_ (by
        have:=sB.append (side:=[List.length l=n,List.length l+List.length s<=140737488355328]) (rds:=[k]) (u:= .int .u8) (r:=uR s) hH hk (show (1:Nat)=Ty.cells (.int .u8) from rfl) hln hv0 hown hnone hseal hxs (aBb g w s) (by rw[hsl];omega) (by rw[hsl];exact hown') hq hg (by rw[hsl];exact hcap) hcell;rw[hsl] at this;rw[hln];rw[hln] at this;exact this)
       rw[hx,hv,hvr];simp only[builtin,aRy,hrun,aRp,aRI]
     .cases hr
    .cases hr
   .cases hr
 .cases hr
end
theorem aJZ {g g':Gh}{w:pQ}{f:qB→qB}(hf: ∀s u,rH g w s u→rH g' w (f s) u): ∀{l:List qB}{v:pR}{s:qB},Q1 g w l v→MD (l.map f)=some s→rH g' w s v:=by
  have un: ∀{l:List qB}{vs:pM}{q},vL g w l vs→G9 (l.map f)=some q→MO g' w q vs:=by
    intro l
    induction l with
    | nil=>
      intro vs q h hq;simp only[List.map_nil,G9,aRd] at hq;subst hq;exact h
    | cons s l ih=>
      rintro vs q ⟨v,vs',rfl,h1,h2⟩ hq;have h1':=hf s v h1;simp only[aSi] at hq;generalize f s=fs at hq h1';obtain⟨d,k⟩:=fs;cases d with
      | val t x=>
        simp only[G9] at hq;obtain⟨q',hq',rfl⟩:=aRn.1 hq;refine⟨v,vs',rfl,h1'.1,?_,ih h2 hq'⟩;cases k with
        |none=>trivial
        |some k=>exact h1'.2
      | own k' n=>
        simp only[G9] at hq;obtain⟨q',hq',rfl⟩:=aRn.1 hq;exact⟨v,vs',rfl,.inr ⟨rfl,v,h1'.1.1,rfl,h1'.1.2⟩,trivial,ih h2 hq'⟩
      |_=>simp [G9] at hq
  intro l v s h hs
  match l,h,hs with
  | [],⟨vs,e,h⟩,hs=>
    simp only[List.map_nil,MD,aRd] at hs;subst hs;rw[show vs=[] from h] at e;exact⟨⟨[],e,rfl⟩,trivial⟩
  | [x],h,hs=>
    simp only[aSi,List.map_nil,MD,aRd] at hs;subst hs;exact hf x v h
  | x::y::l,⟨vs,e,h⟩,hs=>
    simp only[aSi,MD,aRd] at hs;subst hs;cases hq:G9 (f x::f y::l.map f) with
    |none=>exact⟨trivial,trivial⟩
    |some q=>exact⟨⟨vs,e,un (l:=x::y::l) h (by simpa using hq)⟩,trivial⟩
theorem aBc {base n:Nat}{W:List rG}: ∀l:List qB,P3 base n W l=l.map (TL base n W)
  |[]=>rfl
  |s::l=>by simp [P3,aBc l]
theorem aBd {P:Program}{f:FuncId}{sg:qW}(hcon:xI P f sg.C) {g:Gh}{w:pQ}{H:s7}(hH:sE g w H) {args:List qB}{vals:pM}(hargs:vL g w args vals) {base:Nat}{e:qJ}
    (hr:GA H base args (some sg)=some e) (hs: ∀p∈e.side,p) (hfr:yX g base e):Calls P f vals.toArray w (fun en w'=> ∃v g',en= .returned v∧sB g w H e g' w' v):=by
  simp only[GA] at hr;cases hp0:y4 H sg.ps args (some ⟨[],[],[],0⟩) with
  |none=>rw[hp0] at hr;cases hgs:sg.gs<;>(rw[hgs] at hr;simp [P4,B9] at hr)
  |some q0=>
   rw[hp0] at hr;cases hp:B9 H sg.gs (some q0) with
   |none=>rw[hp] at hr;simp [P4] at hr
   |some q=>
    rw[hp] at hr;simp only[P4,aA2,List.append_nil] at hr;have hpo0:=aAX hH (BF.nil g w H) hargs hp0;rw[List.nil_append] at hpo0;have hpo:=aAZ hH hpo0 hp;cases hcl:HZ q.ws.reverse q.H.reverse with
    |none=>rw[hcl] at hr;simp [TO] at hr
    |some L=>
    rw[hcl] at hr;simp only[TO] at hr;have hm:=hpo.m.ren hcl;cases hc:sg.C q.args.reverse L with
    |none=>rw[hc] at hr;simp [TN] at hr
    | some r=>
      rw[hc] at hr;simp only[TN,aA1] at hr;cases hbh:BA base r.H.length q.ws.reverse 0 q.ws.reverse r.H with
      |none=>rw[hbh] at hr;simp [P2] at hr
      | some upd=>
        rw[hbh] at hr;cases hrs:MD (P3 base r.H.length q.ws.reverse r.ret) with
        |none=>rw[hrs] at hr;simp [P2] at hr
        | some s=>
          rw[hrs] at hr;simp only[P2,aRd] at hr;subst hr;refine(hcon.2 (vP g q.ws.reverse) w q.args.reverse _ L r (aJA hH hm) hpo.args hc hs).mono ?_;rintro en w' ⟨v,g',rfl,hret⟩;refine⟨v,_,rfl,aJQ hH hm hret hbh hfr ?_⟩;rw[aBc] at hrs;exact aJZ (fun s u h=>aJO hH hm hret hbh hfr h) hret.ret hrs
theorem Q4 {g g':Gh}{w w':pQ}: ∀{t:Ty}{x:t.den}{cs:pM},I0 t=true→Rd g w t x cs→Rd g' w' t x cs
  | .bool,_,_,_,r=>r
  | .int _,_,_,_,r=>r
  | .str,_,_,_,r=>r
  | .unit,_,_,_,r=>r
  | .fn,_,_,_,r=>r
  | .pair a b,_,_,h,⟨c1,c2,e,r1,r2⟩=>by
    simp only[I0,aRw] at h;exact⟨c1,c2,e,Q4 h.1 r1,Q4 h.2 r2⟩
  | .list _,_,_,h,_=>by cases h
  | .ref,_,_,h,_=>by cases h
  | .clo,_,_,h,_=>by cases h
  | .mp,_,_,h,_=>by cases h
  | .rl _ _,_,_,h,_=>by cases h
  | .mref,_,_,h,_=>by cases h
theorem aBe {g g':Gh}{w:pQ}{k n:Nat}{t:Ty}{l:List t.den}(le:Le g w g' w) (hk: ∀u,g.cur k n=some u→((u= .slice none 0 0∧n=0)∨∃b cap,u= .slice (some ⟨b,0,none⟩) n cap∧n≤cap)→tO g' w (.list t) l u):
    ∀{args:List qB}{vals:pM},vL g w args vals→(∀p∈K0 k n args,p)→vL g' w (P6 k t l args) vals
  |[],_,h,_=>h
  | s::ss,_,⟨v,vs,rfl,h1,h2⟩,hp=>by
    refine⟨v,vs,rfl,?_,aBe le hk h2 (fun p hp'=>hp p ?_)⟩
    · obtain⟨d,x⟩:=s
      cases d with
      | own j m=>
        simp only[a9t];split
        · rename_i e
          subst e;have hm:m=n:=hp (j=j→m=n) (by simp only[K0];exact aRm) rfl;subst hm;exact⟨hk _ h1.1.1 h1.1.2,trivial⟩
        .exact BC le h1
      |_=>exact BC le h1
    · obtain⟨d,x⟩:=s
      cases d with
      |own j m=>simp only[K0];exact aRo _ hp'
      |_=>exact hp'
theorem aJ0 {P:Program}{f:FuncId}{sg:qW}(hcon:xI P f sg.C) {g:Gh}{w:pQ}{H:s7}(hH:sE g w H) {args:List qB}{vals:pM}(hargs:vL g w args vals) {base:Nat}{e:qJ}{k:Nat}
    (hr:P7 H base args sg k (qD H k)=some e) (hs: ∀p∈e.side,p) (hfr:yX g base e):Calls P f vals.toArray w (fun en w'=> ∃v g',en= .returned v∧sB g w H e g' w' v):=by
  cases hk:qD H k with
  |none=>rw[hk] at hr;cases hr
  | some b=>
    rw[hk] at hr;cases b with
    | row e0 t l m=>
      simp only[P7] at hr;cases hi:GA ((k,.dead)::H) base (P6 k t l args) (some sg) with
      |none=>rw[hi] at hr;cases hr
      | some e1=>
        rw[hi] at hr;unfold YS at hr;split at hr
        · rename_i side t' x kk U rds heq
          simp only[aRd] at heq;subst heq;split at hr
          · rename_i hnl
            simp only[aRw,aRK] at hnl;obtain⟨⟨hnl,hU⟩,hkU⟩:=hnl;have hkU':k∉qE U:=fun h=>by rw[IE.2 h] at hkU;cases hkU
            cases hr;obtain⟨hl,v,xs,hv,hown,hF,hnone,hseal⟩:=hH.blk k _ hk
            let g':Gh:={g with S:=fun b o=>g.S b o∨(v.ownBlock=some b∧o<m*t.cells)}
            have le:Le g w g' w:=⟨fun _ _ h=> .inl h,fun _ _ _=>rfl,fun _ _ h=>h,fun _ _ _ h=>h⟩;have hown2: ∀b,v.ownBlock=some b→∀o,sA g k (.row e0 t l m) b o:=fun b hb o=>⟨v,hv,hb⟩
            have hlist: ∀u,g.cur k m=some u→((u= .slice none 0 0∧m=0)∨∃b cap,u= .slice (some ⟨b,0,none⟩) m cap∧m≤cap)→tO g' w (.list t) l u:=by
              intro u hu hshape;rw[hv] at hu;obtain rfl:=aRi hu;rcases hshape with⟨rfl,h0⟩ |⟨b,cap,rfl,hcap⟩
              · have:l=[]:=aRS (by rw[hl,h0])
                subst this;exact .inr ⟨rfl,none,0,rfl,aRE _,.inl rfl⟩
              · refine .inr ⟨rfl,some ⟨b,0,none⟩,cap,by rw[hl],by rw[hl];exact hcap,.inr ⟨b,0,rfl,MS (D4 (fun _ _ h=>xR le h) hF) (fun j u hu=> ?_) (fun j hj=> ?_)⟩⟩
                · have:=hown.cells (g:=b) rfl j u hu
                  rwa [aSC] at this
                · right
                  exact⟨rfl,by rw[hl] at hj;omega⟩
            have hget: ∀i b,qD ((k,q9.dead)::H) i=some b→(i=k∧b= .dead)∨(i≠k∧qD H i=some b):=by
              intro i b hb;simp only[qD] at hb;split at hb
              .rename_i e1;exact .inl ⟨e1.symm,(aRi hb).symm⟩
              .rename_i e1;exact .inr ⟨Ne.symm e1,hb⟩
            have hH':sE g' w ((k,q9.dead)::H):=by
              refine⟨fun i b hb=> ?_,fun i j bi bj b o hij h1 h2 o1 o2=> ?_,fun b o hS=> ?_,hH.tab.1,fun i b bb oo hb ho=> ?_⟩
              · rcases hget i b hb with⟨rfl,rfl⟩ |⟨hne,h1⟩
                .trivial
                .exact MP (hH.blk i b h1) le rfl rfl (fun _ _ _=>⟨rfl,rfl⟩) (fun _ _=>rfl) (fun bb o ho hS=>by
                    rcases hS with hS|hS
                    .exact hS
                    .exact absurd (hown2 bb hS.1 o) (fun h5=>hH.dis i k b _ bb o hne h1 hk ho h5)) (fun _ _ _ _ h=>h)
              · rcases hget i bi h1 with⟨_,rfl⟩ |⟨_,h1⟩
                .exact o1.elim
                · rcases hget j bj h2 with⟨_,rfl⟩ |⟨_,h2⟩
                  .exact o2.elim
                  .exact hH.dis i j bi bj b o hij h1 h2 ((zP (g':=g') (g:=g) rfl rfl).1 o1) ((zP (g':=g') (g:=g) rfl rfl).1 o2)
              · rcases hS with hS|hS
                .exact hH.sl b o hS
                .exact PS hown hS.1
              · rcases hget i b hb with⟨_,rfl⟩ |⟨_,h1⟩
                .exact ho.elim
                .exact hH.tab.2 i b bb oo h1 ((zP (g':=g') (g:=g) rfl rfl).1 ho)
            have hsp: ∀p,p∈K0 k m args∨p∈side→p:=fun p hp=>hs p (Q0.2 hp)
            have hget2: ∀i,i≠k→qD ((k,q9.dead)::H) i=qD H i:=fun i hi=>by
              simp only[qD];rw[aRk (Ne.symm hi)]
            have hin: ∀{i},i∈qE U→i≠k:=fun h e=>hkU' (e▸h)
            have hup: ∀{i blk},i∈qE U→qD (qT U H) i=some blk→qD (qT U ((k,q9.dead)::H)) i=some blk:=by
              intro i blk hi h
              have: ∀{U:List (Nat×q9)},i∈qE U→qD (qT U ((k,q9.dead)::H)) i=qD (qT U H) i:=by
                intro U
                induction U with
                |nil=>intro h;cases h
                | cons q U ih=>
                  intro h;obtain⟨j,b⟩:=q;simp only[qT,qD];split
                  .rfl
                  · rename_i hne
                    simp only[qE,aRu] at h;exact ih (h.resolve_left (fun e=>hne e.symm))
              rw[this hi];exact h
            have hcells: ∀{i blk},i∈qE U→qD (qT U H) i=some blk→∃t y,blk= .cells t y []∧I0 t=true:=by
              intro i blk hi h
              have: ∀{U:List (Nat×q9)},ME U=true→i∈qE U→qD (qT U H) i=some blk→∃t y,blk= .cells t y []∧I0 t=true:=by
                intro U
                induction U with
                |nil=>intro _ h;cases h
                | cons q U ih=>
                  intro hU hi h;obtain⟨j,b⟩:=q;cases b with
                  | cells t y ts=>
                    cases ts with
                    |cons _ _=>simp [ME] at hU
                    | nil=>
                      simp only[ME,aRw] at hU;simp only[qT,qD] at h;split at h
                      · obtain rfl:=aRi h
                        exact⟨t,y,rfl,hU.1⟩
                      · rename_i hne
                        simp only[qE,aRu] at hi;exact ih hU.2 (hi.resolve_left (fun e=>hne e.symm)) h
                  |_=>simp [ME] at hU
              exact this hU hi h
            have hownI: ∀b o,sX g' ((k,q9.dead)::H) (qE U) b o→sX g H (qE U) b o:=fun b o ⟨i,blk,hi,h1,h2⟩=>⟨i,blk,hi,(hget2 i (hin hi)).symm.trans h1,(zP (g':=g') (g:=g) rfl rfl).1 h2⟩;refine(aBd hcon hH' (aBe le hlist hargs (fun p hp=>hsp p (.inl hp))) hi (fun p hp=>hsp p (.inr hp)) (fun i hi' hb=>hfr i hi' hb)).mono ?_;rintro en w' ⟨v1,g1,rfl,hE⟩
            let g2:Gh:={g1 with S:=g.S}
            have hle:Le g w g2 w':=⟨fun _ _ h=>h,fun b o h=>hE.le.cell b o (.inl h),fun i p h=>hE.le.J i p h,fun i n u h=>hE.le.cur i n u h⟩
            have hfr2:Fr (sX g H (qE U)) w w' g.S g2.S:=
              ⟨hE.fr.os,hE.fr.tape,hE.fr.output,hE.fr.size,fun b hb hno=>hE.fr.blk b hb (fun o h=>hno o (hownI b o h)),fun b o hb hno=>hE.fr.cell b o hb (fun h=>hno (hownI b o h)),fun _ _ h=> .inl h,fun b s h=>(hE.fr.shape b s h).imp id fun h o=>hownI b o (h o)⟩
            have hgho: ∀i,i∉qE U→g2.J i=g.J i∧g2.cur i=g.cur i:=fun i hi=>hE.gho i hi
            have hperm: ∀i blk b o,i∈qE U→qD (qT U H) i=some blk→sA g2 i blk b o→w.heap.size≤b∨sX g H (qE U) b o:=fun i blk b o hi hg ho=>
              (hE.perm i blk b o hi (hup hi hg) ((zP (g':=g2) (g:=g1) rfl rfl).1 ho)).imp id (hownI b o)
            refine⟨v1,g2,rfl,hle,⟨?_,trivial⟩,hH.upd hle hfr2 hperm hgho (fun i blk hi hg=> ?_) (fun i j bi bj b o hi hj hij hgi hgj hoi hoj=> ?_) (fun b o h=>aRT (hH.sl b o h) hE.fr.size),hfr2,hperm,hgho,fun i u y us h=> ?_⟩
            .exact hE.slot.1.imp (fun⟨a,cs,e,q⟩=>⟨a,cs,e,Q4 hnl q⟩) (fun⟨a,q⟩=>⟨a,Q4 hnl q⟩)
            · obtain⟨t2,y2,rfl,hn2⟩:=hcells hi hg
              obtain⟨p,cs,q1,q2,q3,q4,q5,_⟩:=hE.heap.blk i _ (hup hi hg);exact⟨p,cs,q1,Q4 hn2 q2,q3,q4,fun j hj hS=>q5 j hj (hE.le.S _ _ (.inl hS)),fun _ _ hm=>by cases hm⟩
            .exact hE.heap.dis i j bi bj b o hij (hup hi hgi) (hup hj hgj) ((zP (g':=g2) (g:=g1) rfl rfl).1 hoi) ((zP (g':=g2) (g:=g1) rfl rfl).1 hoj)
            · by_cases hiU:i∈qE U
              · rcases hE.ty i u y us (hup hiU h) with⟨x',ts',q⟩ |q
                .exact .inl ⟨x',ts',(hget2 i (hin hiU)).symm.trans q⟩
                .exact .inr q
              .exact .inl ⟨y,us,(CF hiU).symm.trans h⟩
          .cases hr
        .cases hr
    |_=>cases hr
theorem aJ1 {P:Program}{f:FuncId}{F:(t:Ty)→List t.den→Option (List t.den)}(hF:V5 P f F) {g:Gh}{w:pQ}{H:s7}(hH:sE g w H) {args:List qB}{vals:pM}(hargs:vL g w args vals) {e:qJ}
    (hr:TP H F args=some e) (hs: ∀p∈e.side,p):Calls P f vals.toArray w (fun en w'=> ∃v g',en= .returned v∧sB g w H e g' w' v):=by
  unfold TP at hr;split at hr
  · rename_i k n x
    obtain⟨v,vs,rfl,ha,hv⟩:=hargs;rw[show vs=[] from hv];cases hk:qD H k with
    |none=>rw[hk] at hr;cases hr
    | some b=>
      rw[hk] at hr;cases b with
      | row e0 t l m=>
        simp only[YT] at hr;cases hf:F t l with
        |none=>rw[hf] at hr;cases hr
        | some l'=>
          rw[hf] at hr;cases hr;have hnm:n=m:=hs _ aRm;subst hnm;obtain⟨hl,v0,xs,hv0,hown,hFx,hnone,hseal⟩:=hH.blk k _ hk;have h1:=ha.1.1;rw[hv0] at h1;obtain rfl:=aRi h1;refine(hF g w e0 t l l' v0 n xs hH.tab.1 hown hFx hl (hs _ pH) hf).mono ?_;rintro en w' ⟨rfl,hl',xs',k1,k2,k3⟩;have hownk: ∀b,v0.ownBlock=some b→∀o,sX g H [k] b o:=fun b hb o=>⟨k,_,by simp,hk,v0,hv0,hb⟩;refine⟨_,_,rfl,sB.row (v:=v0) (xs:=xs') hH hl' k1 k2 hnone (fun u hu=>by rw[hv0] at hu;exact(aRi hu).symm) (.inr ⟨v0.ownBlock,k3,hownk⟩) (fun b o hS=> ?_) hseal (fun b hb=> .inr (hownk b hb)) ⟨⟨[],rfl,rfl⟩,trivial⟩⟩;have hne:v0.ownBlock≠some b:=fun e=>hseal b e o hS;exact aRH (a:=⟨b,o,none⟩) (k3.block b (hH.sl b o hS) (fun e=>hne e.symm))
      |_=>cases hr
  .cases hr
section
variable {P:Program}{o:Oper}{a:Act}{g:Gh}{w:pQ}{H:s7}{T:sK}{Γ:tW}(hT:xH P T) (hΓ:D6 P Γ) (hH:sE g w H)
include hT hΓ hH
theorem aBf {f:FuncId}{args:List qB}{vals:pM}(hargs:vL g w args vals) {base:Nat}{e:qJ}(hr:K5 H base args (PC Γ f)=some e) (hs: ∀p∈e.side,p) (hfr:yX g base e):
    (∀args w,(callFunc f args).run P w= .ok (.enter f args) w)∧Calls P f vals.toArray w (fun en w'=> ∃v g',en= .returned v∧sB g w H e g' w' v):=by
  cases hg:PC Γ f with
  |none=>rw[hg] at hr;cases hr
  | some sg=>
    rw[hg] at hr
    obtain⟨hlt,hg⟩:f<1000000000∧Γ f=some sg:=by
      unfold PC at hg;split at hg
      .rename_i h;exact⟨h,hg⟩
      .cases hg
    obtain⟨hcon,hrow⟩:=hΓ f sg hlt hg;refine⟨hcon.1,?_⟩;simp only[K5] at hr;cases hF:sg.row with
    | some F=>
      rw[hF] at hr;exact aJ1 (hrow F hF) hH hargs hr hs
    | none=>
      rw[hF] at hr;simp only[UD] at hr;cases hn:P5 sg.ps args with
      | some k=>
        rw[hn] at hr;exact aJ0 hcon hH hargs hr hs hfr
      | none=>
        rw[hn] at hr;exact aBd hcon hH hargs hr hs hfr
theorem aJ2 {fop:Operand}{args:Array Operand}{tys:Array TypeId}(ho:o.op= .call ⟨.value fop,args,tys⟩) {ρ:Operand→qB}(hf:rH g w (ρ fop) (a.eval fop)) (hρ: ∀x∈args.toList,rH g w (ρ x) (a.eval x)) {base:Nat}{e:qJ}
    (hr:MG Γ H base (GC T ρ args.toList tys.toList) (ρ fop)=some e) (hs: ∀p∈e.side,p) (hfr:yX g base e) (hlen:args.size=tys.size):rC P o a g w H e:=by
  have hargs:=aAI (a:=a) (ρ:=ρ) hT hΓ hH (xs:=args.toList) (ts:=tys.toList) (by simpa using hlen) hρ;unfold MG at hr;split at hr
  · rename_i f caps k heq
    rw[heq] at hf
    obtain⟨vs,hcv,hfv⟩: ∃vs,yI g caps vs∧a.eval fop= .func (.func f) #[] vs.toArray:=by
      rcases hf.1 with⟨h1,_⟩ |⟨_,vs,h2,h3⟩
      .cases h1
      · simp only[aSc,and_true] at h3
        exact⟨vs,h2,h3⟩
    obtain⟨hen,hc⟩:=aBf hT hΓ hH (aJt hT hΓ hH hargs (aAJ hT hΓ hH hcv)) hr hs hfr;intro K Q hK;refine aAK ho hfv hen (hc.mono ?_);rintro en w' ⟨v,g',rfl,hE⟩;exact⟨v,rfl,hK _ w' v hE.w⟩
  · rename_i f k heq
    rw[heq] at hf
    have hfv:a.eval fop= .func (.func f) #[] ([]:pM).toArray:=by
      rcases hf.1 with⟨h1,_⟩ |⟨_,h2⟩
      .cases h1
      .simpa[Rd,a90] using h2
    obtain⟨hen,hc⟩:=aBf hT hΓ hH hargs hr hs hfr;intro K Q hK;refine aAK ho hfv hen ?_;rw[List.append_nil];refine hc.mono ?_;rintro en w' ⟨v,g',rfl,hE⟩;exact⟨v,rfl,hK _ w' v hE.w⟩
  .cases hr
theorem aBg: ∀{xs:List Operand}{ts:List TypeId},K6 xs ts=true→xs.length=ts.length
  |[],[],_=>rfl
  |_::xs,_::ts,h=>by simp only[K6] at h;simp [aBg h]
  |[],_::_,h=>by cases h
  |_::_,[],h=>by cases h
theorem a0K {op:Op}(ho:o.op=op) {ρ:Operand→qB}(hρ: ∀x∈sI op,rH g w (ρ x) (a.eval x)) {base:Nat}{e:qJ}(hr:v6 T Γ o.type ρ base H op=some e) (hs: ∀p∈e.side,p) (hf:yX g base e):rC P o a g w H e:=by
  unfold v6 at hr;split at hr
  · rename_i x
    exact aAq hT hH (.inl ho) (hρ x (by simp [sI])) hr hf
  · rename_i x
    exact aAq hT hH (.inr ho) (hρ x (by simp [sI])) hr hf
  .exact aJb hT hH ho hr hf
  · rename_i t x
    exact aJc hT hH ho (hρ x (by simp [sI])) (fun _=>a0y hT hΓ hH (hρ x (by simp [sI]))) hr hf
  · rename_i t ps
    exact aIQ hT hH ho (ρ:=ρ) (fun q hq=>hρ q.2 (by
      simp only[sI];generalize ps.toList=l at hq
      induction l with
      |nil=>cases hq
      |cons p l ih=>rcases aRu.1 hq with rfl|h<;>simp_all [sI.parts])) hr
  · rename_i t n ps
    exact aJh hT hH ho (ρ:=ρ) (fun q hq=>hρ q.2 (by
      simp only[sI];generalize ps.toList=l at hq
      induction l with
      |nil=>cases hq
      |cons p l ih=>rcases aRu.1 hq with rfl|h<;>simp_all [sI.parts])) hr hf
  · rename_i t x
    exact aI3 hT hH ho (hρ x (by simp [sI])) hr hs
  · rename_i t x y
    exact aJg hT hH ho (hρ x (by simp [sI])) (a0y hT hΓ hH (hρ y (by simp [sI]))) hr hs hf
  · rename_i x
    exact aIK hT hH ho (hρ x (by simp [sI])) hr
  · rename_i op t x y t'
    cases hw:T9 op (rK T t) (ρ x) (ρ y) with
    | some r=>
      rw[hw] at hr;exact aIB hH ho (hρ x (by simp [sI])) (hρ y (by simp [sI])) (by rw[hw];exact hr)
    |none=>
    rw[hw] at hr;cases hb:T8 op (ρ x) (ρ y) with
    | some r=>
      rw[hb] at hr;exact aIA hH ho (hρ x (by simp [sI])) (hρ y (by simp [sI])) (by rw[hb];exact hr) hs
    | none=>
      rw[hb] at hr;exact aJT hT hH ho (hρ x (by simp [sI])) (hρ y (by simp [sI])) hr
  · rename_i op t x
    exact aIC hH ho (hρ x (by simp [sI])) hr hs
  · rename_i t t' x
    cases hb:TB (rK T t) (rK T t') (ρ x) with
    | some r=>
      rw[hb] at hr;exact aID hT hH ho (hρ x (by simp [sI])) (by rw[hb];exact hr)
    | none=>
      rw[hb] at hr;exact aJX hT hH ho (hρ x (by simp [sI])) hr
  · rename_i f first caps
    have hfi:first= #[]:=by
      cases hl:first.toList with
      |nil=>apply aSp.1;simpa using hl
      |cons x l=>rw[hl] at hr;cases hr
    subst hfi;exact aIU hT hH ho (ρ:=ρ) (fun x hx=>hρ x (by simpa[sI] using hx)) hr
  · rename_i t x lo hi
    refine aI4 hT hH ho (ρ:=ρ) (hρ x (by simp [sI])) (fun y hy=>hρ y ?_) (fun y hy=>hρ y ?_) hr hs
    · cases lo with
      |none=>simp at hy
      |some l=>simp at hy;subst hy;simp [sI,sI.opt,qT]
    · cases hi with
      |none=>simp at hy
      |some l=>simp at hy;subst hy;cases lo<;>simp [sI,sI.opt,qT]
  · rename_i t x f
    exact aII hT hH ho (hρ x (by simp [sI])) hr
  · rename_i t x f
    exact aIH hT hH ho (hρ x (by simp [sI])) hr
  · rename_i t x ix
    exact aIM hT hH ho (hρ x (by simp [sI])) (hρ ix (by simp [sI])) hr hs
  · rename_i t x ix
    exact aIL hT hH ho (hρ x (by simp [sI])) (hρ ix (by simp [sI])) hr hs
  · rename_i x i
    exact aIJ hT hH ho (hρ x (by simp [sI])) hr hs
  · rename_i t r
    exact aJk hT hH ho hr hf
  · rename_i t x
    exact aJq hT hH ho (hρ x (by simp [sI])) hr hf
  · rename_i x b
    exact aJr hT hH ho (hρ x (by simp [sI])) hr
  · rename_i t x i ok
    exact aJn hT hH ho (hρ x (by simp [sI])) (hρ i (by simp [sI])) hr
  · rename_i t m k x
    exact aAF hT hH (.inl ho) (hρ m (by simp [sI])) (hρ k (by simp [sI])) (aAE (hρ x (by simp [sI]))) hr
  · rename_i t m k x
    exact aAF hT hH (.inr ho) (hρ m (by simp [sI])) (hρ k (by simp [sI])) (aAE (hρ x (by simp [sI]))) hr
  · rename_i c
    obtain⟨cal,args,tys⟩:=c;simp only at hr;unfold K7 at hr;split at hr
    .exact aIT hT hH ho (ρ:=ρ) (fun x hx=>hρ x (by simpa[sI] using hx)) hr
    .exact aJY hT hH ho (ρ:=ρ) (fun x hx=>hρ x (by simpa[sI] using hx)) hr hs
    .exact aAg (mx:=true) hT hH ho (ρ:=ρ) (fun x hx=>hρ x (by simpa[sI] using hx)) hr
    .exact aAg (mx:=false) hT hH ho (ρ:=ρ) (fun x hx=>hρ x (by simpa[sI] using hx)) hr
    · rename_i f
      cases hsl:K6 args.toList tys.toList with
      |false=>rw[hsl] at hr;cases hr
      | true=>
        rw[hsl] at hr;simp only[ZM] at hr;exact aJ2 hT hΓ hH ho (hρ f (by simp [sI])) (fun x hx=>hρ x (by simp [sI];right;simpa using hx)) hr hs hf (by simpa using aBg hT hΓ hH hsl)
    .cases hr
  .cases hr
end
def AB (g:Gh) (w:pQ) (env:List (Nat×qB)) (tmps:Array pR):Prop:= ∀t,rH g w (lk env t) (tmps.getD t undef)
def y9 (B:Nat) (w:pQ) (ds:List Deferred):Prop:=ds.Nodup/\∀d∈ds,∃D,d={target:= .collected D,args:= #[]}/\B<=D/\NG<=D/\w.heap[D]? =some (.deferred (some []))
theorem a0L (B:Nat) (w:pQ):y9 B w []:=⟨List.nodup_nil,fun d hd=>by cases hd⟩
theorem y9.same {B:Nat}{w w':pQ}{ds:List Deferred}(h:y9 B w ds) (hb: ∀D:Nat,w.heap[D]? =some (Obj.deferred (some []))->w'.heap[D]? =some (Obj.deferred (some []))):y9 B w' ds:=
 ⟨h.1,fun d hd=>by obtain⟨D,h1,h2,h0,h3⟩:=h.2 d hd;exact⟨D,h1,h2,h0,hb D h3⟩⟩
def GJ:Obj->Bool
 | .deferred _=>true
 | .loop _=>true
 |_=>false
theorem a0M {w:pQ}{b:Nat}{ob:Obj}(hd:w.heap[b]? =some ob) (hm:GJ ob=true) (o:Nat):w.cell? ⟨b,o,none⟩=none:=by
 unfold World.cell?;simp only[hd];cases ob<;>first|rfl|cases hm
theorem VI {g:Gh}{w:pQ}{i:Nat}{blk:q9}(h:A8 g w i blk) {b o:Nat}(ho:sA g i blk b o) {ob:Obj}(hd:w.heap[b]? =some ob) (hm:GJ ob=true):False:=by
 have hrow: ∀{e:TypeId}{c n:Nat}{v:pR}{xs:pM},w.ownsRow 0 e c v n xs->v.ownBlock=some b->False:=by
  intro e c n v xs hr hb;rcases hr.2 with⟨rfl,_⟩ |⟨g',cap,cur,rfl,_,h3,_⟩
  .cases hb
  .simp only[Value.ownBlock,aRd] at hb;subst hb;rw[hd] at h3;cases h3;cases hm
 cases blk with
 |cells t x toks=>
  obtain⟨p,cs,hp,_,_,ht,_⟩:=h;obtain⟨q,hq,rfl,h1,h2⟩:=ho;rw[hp] at hq;obtain rfl:=aRi hq;have:=(ht.1 (o-p.2) pF).1;rw[a0M hd hm] at this;cases this
 |grow e c n=>
  obtain⟨v,xs,hv,hr,_⟩:=h;obtain⟨v',hv',hb⟩:=ho;rw[hv] at hv';obtain rfl:=aRi hv';exact hrow hr hb
 |row e t l n=>
  obtain⟨_,v,xs,hv,hr,_⟩:=h;obtain⟨v',hv',hb⟩:=ho;rw[hv] at hv';obtain rfl:=aRi hv';exact hrow hr hb
 |map k v l=>
  obtain⟨p,es,cl,hp,h0,h2,_⟩:=h;obtain⟨q,hq,h1⟩:=ho;rw[hp] at hq;obtain rfl:=aRi hq;rw[show b=p.1 from h1] at hd;rw[h2] at hd;cases hd;cases hm
 |iter s n=>
  obtain⟨p,hp,h0,h2,_⟩:=h;obtain⟨q,hq,h1⟩:=ho;rw[hp] at hq;obtain rfl:=aRi hq;rw[show b=p.1 from h1] at hd;rw[h2] at hd;cases hd;cases hm
 |dead=>exact ho.elim
theorem y9.eff {B:Nat}{g g':Gh}{w w':pQ}{H:s7}{e:qJ}{v:pR}{ds:List Deferred}(h:y9 B w ds) (hH:sE g w H) (k:zO g w H e g' w' v):y9 B w' ds:=
 h.same fun D hD=>by
  rw[k.fr.blk D (aRC.1 hD).1 (fun o ⟨i,blk,_,h1,h2⟩=>VI (hH.blk i blk h1) h2 hD rfl)];exact hD
structure v8 (B:Nat) (g:Gh) (w:pQ) (s:St) (a:Act):Prop where
 env:AB g w s.env a.tmps
 heap:sE g w s.H
 size:a.tmps.size=s.N
 nb: ∀i,s.nb<=i->g.J i=none/\∀n,g.cur i n=none
 def_:y9 B w a.defers
 np:s.np<=s.nb
theorem aJ3 (g:Gh) (w:pQ) (v:pR):A7 g w (YG v) v:=by
 unfold YG;split
 .exact wV _ _ _
 .exact wN _ _ _ _
 .rename_i s;have:=BD g w s.data.toList;rw[aSE] at this;exact this
 .exact rfl
 .exact .inr ⟨rfl,rfl⟩
 .exact .inr ⟨rfl,rfl⟩
 .exact .inr ⟨rfl,rfl⟩
 .exact trivial
theorem zR {g:Gh}{w:pQ}{env:List (Nat×qB)}{a:Act}(h:AB g w env a.tmps) (x:Operand):rH g w (uF env x) (a.eval x):=by
 cases x with
 |tmp t=>exact h t
 |const v=>exact⟨aJ3 g w v,trivial⟩
 |func f=>exact⟨.inr ⟨rfl,[],rfl,rfl⟩,trivial⟩
 |global i=>exact⟨trivial,trivial⟩
theorem N1 {g:Gh}{w:pQ}{G:Bool}(hG:G=true): ∀{ss:List qB}{s:qB}{v:pR},s∈ss->(∀p∈zB G ss,p)->rH g w s v->rH g w (y6 s) v
 |x::ss,s,v,hm,hn,hs=>by
  have hcase: ∀{s:qB},(∀p∈zB G [s],p)->rH g w s v->rH g w (y6 s) v:=by
   intro s hn hs;obtain⟨d,k⟩:=s;cases d with
   |cond p d=>
    refine⟨hs.1.1 (hn (G=true->p=true) (by simp [zB]) hG),?_⟩;simp only[y6]
   |_=>exact hs
  have hsplit: ∀p,p∈zB G [x]->p∈zB G (x::ss):=by
   intro p hp;unfold zB at hp|-;split at hp
   .cases hp
   .rename_i heq;simp only[aSc] at heq;obtain⟨rfl,rfl⟩:=heq;rcases aRu.1 hp with h|h
    .exact h▸aRm
    .cases h
   .rename_i h0 heq;simp only[aSc] at heq;obtain⟨_,rfl⟩:=heq;cases hp
  have hsplit2: ∀p,p∈zB G ss->p∈zB G (x::ss):=by
   intro p hp;generalize hL:zB G ss=L at hp;unfold zB;split
   .rename_i h;cases h
   .rename_i heq;simp only[aSc] at heq;obtain⟨_,rfl⟩:=heq;rw[hL];exact aRo _ hp
   .rename_i heq;simp only[aSc] at heq;obtain⟨_,rfl⟩:=heq;rw[hL];exact hp
  rcases aRu.1 hm with rfl|hm
  .exact hcase (fun p hp=>hn p (hsplit p hp)) hs
  .exact N1 hG hm (fun p hp=>hn p (hsplit2 p hp)) hs
theorem VJ {env:List (Nat×qB)}: ∀{xs:List Operand}{x:Operand},x∈xs->uF env x∈CA env xs
 |y::xs,x,h=>by
  simp only[CA];rcases aRu.1 h with rfl|h
  .exact aRm
  .exact aRo _ (VJ h)
theorem Q5: ∀(ops:List Oper) (j:Nat),A4 ops j=(ops[j]?).bind (·.dst)
 |[],j=>by simp [A4]
 |o::_,0=>rfl
 |_::r,j+1=>by simpa[A4] using Q5 r j
section
variable {P:Program}{g:Gh}{w:pQ}{T:sK}{Γ:tW}(hT:xH P T) (hΓ:D6 P Γ)
include hT hΓ
theorem aJ4 {ops:List Oper}{o:Oper}{a:Act}{env:List (Nat×qB)}(henv:AB g w env a.tmps) {j:Nat}{b:Bool}(hg:o.guard=some (j,b)) {G:Bool}(h:GE env b (A4 ops j)=some G):Region.wanted o (yielded ops.toArray a.tmps)=G:=by
 rw[Q5] at h;unfold Region.wanted;rw[hg];simp only;cases hd:(ops[j]?).bind (·.dst) with
 |none=>rw[hd] at h;cases h
 |some t=>
  rw[hd] at h;simp only[GE] at h;have hy:yielded ops.toArray a.tmps j=match a.tmps[t]? with|some (.bool b)=>some b|_=>none:=by
   unfold yielded;have:(ops.toArray[j]?).bind (·.dst)=some t:=by simpa using hd
   rw[this];rfl
  have hv:=henv t;generalize hl:lk env t=s at h hv;unfold a9M at h;have hb: ∀c,a.tmps.getD t undef= .bool c->a.tmps[t]? =some (.bool c):=by
   intro c hc;rw[aRJ] at hc;cases hq:a.tmps[t]? with
   |none=>rw[hq] at hc;simp [undef] at hc
   |some v=>rw[hq] at hc;simp at hc;rw[hc]
  split at h
  .rename_i c k;simp only[aRd] at h;have:=hb _ (vY hv.1);rw[hy,this,<-h];cases c<;>cases b<;>rfl
  .rename_i p c k;simp only[aRd] at h;subst h;cases p with
   |true=>
    have:=hb _ (vY (hv.1.1 rfl));rw[hy,this];cases c<;>cases b<;>rfl
   |false=>
    have hu:=hv.1.2 rfl;have: ∀c,a.tmps[t]? ≠some (.bool c):=by
     intro c hc;rw[aRJ,hc] at hu;simp [undef] at hu
    rw[hy];cases hq:a.tmps[t]? with
    |none=>cases b<;>rfl
    |some v=>cases v<;>first|(exact absurd hq (this _)) |(cases b<;>rfl)
  .cases h
theorem aJ5 {ops:List Oper}{o:Oper}{a:Act}{env:List (Nat×qB)}(henv:AB g w env a.tmps) {j:Nat}{b:Bool}(hg:o.guard=some (j,b)) (h:K8 env b (A4 ops j)=false):Region.wanted o (yielded ops.toArray a.tmps)=false:=by
 rw[Q5] at h;unfold Region.wanted;rw[hg];simp only;cases hd:(ops[j]?).bind (·.dst) with
 |none=>rw[hd] at h;cases h
 |some t=>
  rw[hd] at h;simp only[K8] at h;have hy:yielded ops.toArray a.tmps j=match a.tmps[t]? with|some (.bool b)=>some b|_=>none:=by
   unfold yielded;have:(ops.toArray[j]?).bind (·.dst)=some t:=by simpa using hd
   rw[this];rfl
  have hv:=henv t;generalize hl:lk env t=s at h hv;have hb: ∀c,a.tmps.getD t undef= .bool c->a.tmps[t]? =some (.bool c):=by
   intro c hc;rw[aRJ] at hc;cases hq:a.tmps[t]? with
   |none=>rw[hq] at hc;simp [undef] at hc
   |some v=>rw[hq] at hc;simp at hc;rw[hc]
  have hun:a.tmps.getD t undef=undef->(yielded ops.toArray a.tmps j==some b)=false:=by
   intro hu;have: ∀c,a.tmps[t]? ≠some (.bool c):=by
    intro c hc;rw[aRJ,hc] at hu;simp [undef] at hu
   rw[hy];cases hq:a.tmps[t]? with
   |none=>cases b<;>rfl
   |some v=>cases v<;>first|(exact absurd hq (this _)) |(cases b<;>rfl)
  unfold a9N at h;split at h
  .rename_i c k;have:=hb _ (vY hv.1);rw[hy,this];cases c<;>cases b<;>first|rfl|cases h
  .rename_i p c k;cases p with
   |true=>
    have:=hb _ (vY (hv.1.1 rfl));rw[hy,this];cases c<;>cases b<;>first|rfl|cases h
   |false=>exact hun (hv.1.2 rfl)
  .rename_i p k;subst h;exact hun (hv.1.2 rfl)
  .cases h
theorem Q6 {G:Bool}{p:Prop}: ∀{l:List Prop},p∈l->(G=true->p)∈PE G l
 |q::l,h=>by
  simp only[PE];rcases aRu.1 h with rfl|h
  .exact aRm
  .exact aRo _ (Q6 h)
theorem a0N {o:Oper}{a:Act}{H:s7}(hH:sE g w H) {c x y:Operand}(hop:o.op= .pick c x y) {sc sx sy:qB}(hc:rH g w sc (a.eval c)) (hx:rH g w sx (a.eval x)) (hy:rH g w sy (a.eval y)) {e:qJ}(hr:PD sc sx sy=some e) (hs: ∀p∈e.side,p):rC P o a g w H e:=by
 intro K Q hK;unfold PD at hr;split at hr
 .rename_i z k;have hz:=vY hc.1;have run:(execOp a.eval o).run P w= .ok (.value (if z then a.eval x else a.eval y)) w:=by
   unfold execOp;rw[hop];simp [hz,asBool]
  have fin: ∀{v:Bool}{side:List Prop},(if z then a.eval x else a.eval y)= .bool v->e=⟨side,(.val .bool v,none),[],[]⟩->o.wp P a w K Q:=by
   intro v side hv he;subst he;refine rC.value (v:= .bool v) (g':=g) (w':=w) (H:=H) (by rw[run,hv]) (.pure hH (s:=(.val .bool v,none)) ⟨(wV g w v:A7 g w (.val .bool v) (.bool v)),trivial⟩) K Q hK
  unfold a9O at hr;split at hr
  .rename_i m1 _ m2 _;simp only[aRd] at hr;refine fin (v:=cond z m1 m2) ?_ hr.symm;cases z
   .exact vY hy.1
   .exact vY hx.1
  .rename_i p m1 _ m2 _;simp only[aRd] at hr;refine fin (v:=cond z m1 m2) ?_ hr.symm;cases z
   .exact vY hy.1
   .exact vY (hx.1.1 (hs (true=true->p=true) (by rw[<-hr];simp) rfl))
  .rename_i m1 _ p m2 _;simp only[aRd] at hr;refine fin (v:=cond z m1 m2) ?_ hr.symm;cases z
   .exact vY (hy.1.1 (hs (false=false->p=true) (by rw[<-hr];simp) rfl))
   .exact vY hx.1
  .rename_i q m1 _ p m2 _;simp only[aRd] at hr;refine fin (v:=cond z m1 m2) ?_ hr.symm;cases z
   .exact vY (hy.1.1 (hs (false=false->p=true) (by rw[<-hr];simp) rfl))
   .exact vY (hx.1.1 (hs (true=true->q=true) (by rw[<-hr];simp) rfl))
  .rename_i m1 _ p _;simp only[aRd] at hr;have hz1:z=true:=hs _ (by rw[<-hr];simp);refine fin (v:=m1) ?_ hr.symm;rw[hz1];exact vY hx.1
  .rename_i q m1 _ p _;simp only[aRd] at hr;have hz1:z=true:=hs (z=true) (by rw[<-hr];simp);refine fin (v:=m1) ?_ hr.symm;rw[hz1];exact vY (hx.1.1 (hs (q=true) (by rw[<-hr];simp)))
  .rename_i p _ m2 _;simp only[aRd] at hr;have hz1:z=false:=hs _ (by rw[<-hr];simp);refine fin (v:=m2) ?_ hr.symm;rw[hz1];exact vY hy.1
  .rename_i p _ q m2 _;simp only[aRd] at hr;have hz1:z=false:=hs (z=false) (by rw[<-hr];simp);refine fin (v:=m2) ?_ hr.symm;rw[hz1];exact vY (hy.1.1 (hs (q=true) (by rw[<-hr];simp)))
  .cases hr
 .cases hr
omit hT hΓ in
theorem N2 {np:Nat}{x:Option qJ}{e:qJ}(h:ZS np x=some e):x=some e/\(HX e.rds=true->I4 np e.upd=true):=by
 cases x with
 |none=>cases h
 |some q=>
  simp only[ZS] at h;cases hq:HX q.rds with
  |false=>
   rw[hq] at h;cases h;exact⟨rfl,fun h=>by rw[hq] at h;cases h⟩
  |true=>
   rw[hq] at h;simp only[a9R] at h;split at h
   .rename_i hc;cases h;exact⟨rfl,fun _=>hc⟩
   .cases h
omit hT hΓ in
theorem aBh {np:Nat}{H:s7}: ∀{U:List (Nat×q9)},I4 np U=true->∀{i:Nat}{u:Ty}{y:u.den}{us:pK},i<np->qD (qT U H) i=some (.cells u y us)->qD H i=some (.cells u y us)
 |[],_,i,u,y,us,_,h=>h
 |(j,b)::U,h,i,u,y,us,hi,hg=>by
  simp only[qT,qD] at hg;split at hg
  .rename_i e;subst e;simp only[aRd] at hg;subst hg;simp only[I4] at h;split at h
   .omega
   .cases h
  .refine aBh ?_ hi hg;unfold I4 at h;split at h
   .rename_i heq;cases heq
   .rename_i heq;cases heq;split at h
    .exact h
    .cases h
   .rename_i heq;cases heq;exact h
theorem a0O {ops:List Oper}{o:Oper}{a:Act}{s:St}{e:qJ}(henv:AB g w s.env a.tmps) (hH:sE g w s.H) (hr:yH T Γ ops o s=some e) (hs: ∀p∈e.side,p) (hf:yX g s.nb e) {K:Act->pQ->Prop}{Q:Exit->Act->pQ->Prop}
  (hK: ∀g' w' v,zO g w s.H e g' w' v->K (a.put o.dst v) w'):
  if Region.wanted o (yielded ops.toArray a.tmps) then o.wp P a w K Q else K (a.put o.dst undef) w:=by
 replace hr:=(N2 hr).1;unfold MM at hr;cases hgd:o.guard with
 |none=>
  rw[hgd] at hr;simp only at hr;have hw:Region.wanted o (yielded ops.toArray a.tmps)=true:=by unfold Region.wanted;rw[hgd]
  rw[aRf hw];cases hop:o.op with
  |pick c x y=>
   rw[hop] at hr;simp only[ML] at hr;exact a0N hT hΓ hH hop (zR henv c) (zR henv x) (zR henv y) hr hs K Q hK
  |_=>
   rw[hop] at hr;simp only[ML] at hr;rw[<-hop] at hr;generalize hpl:v6 T Γ o.type (fun x=>y6 (uF s.env x)) s.nb s.H o.op=op at hr;cases op with
   |none=>cases hr
   |some e0=>
    simp only[MJ,aRd] at hr;subst hr;refine a0K hT hΓ hH rfl (ρ:=fun x=>y6 (uF s.env x)) (fun x hx=> ?_) hpl (fun p hp=>hs p (xJ.2 (.inr hp))) hf K Q (fun g' w' v h=>hK g' w' v ⟨h.le,h.slot,h.heap,h.fr,h.perm,h.gho,h.ty⟩);exact N1 rfl (VJ hx) (fun p hp=>hs p (xJ.2 (.inl hp))) (zR henv x)
 |some jb=>
  obtain⟨j,b⟩:=jb;rw[hgd] at hr;simp only at hr;cases hsk:Γ (UM j b) with
  |some sg=>
   rw[hsk] at hr;simp only[PF] at hr;cases hdf:a9P o.op with
   |true=>rw[hdf] at hr;cases hr
   |false=>
   rw[hdf] at hr;simp only[a9Q,aRd] at hr;subst hr;have hup:K8 s.env b (A4 ops j)=false:=hs _ aRm;rw[aJ5 hT hΓ henv hgd hup,aRk pG];exact hK g w undef (zO.pure hH ⟨⟨fun hc=>(by cases hc),fun _=>rfl⟩,trivial⟩)
  |none=>
  rw[hsk] at hr;simp only[PF] at hr;generalize hG:GE s.env b (A4 ops j)=oG at hr;cases oG with
  |none=>cases hr
  |some G=>
   have hw:=aJ4 hT hΓ henv hgd hG;rw[hw];by_cases hpk: ∃c x y,o.op= .pick c x y
   .obtain⟨c,x,y,hop⟩:=hpk;rw[hop] at hr;simp only[MK] at hr;generalize hpl:PD (y6 (uF s.env c)) (uF s.env x) (uF s.env y)=op at hr;cases op with
    |none=>cases hr
    |some e0=>
     unfold I3 at hr;split at hr
     .rename_i side d k rds heq;simp only[aRd] at hr heq;subst hr;subst heq;by_cases hGt:G=true
      .rw[aRf hGt];refine a0N hT hΓ hH hop (N1 hGt (ss:=[uF s.env c]) pH (fun p hp=>hs p (xJ.2 (.inl hp))) (zR henv c)) (zR henv x) (zR henv y) hpl (fun p hp=>hs (G=true->p) (xJ.2 (.inr (Q6 hT hΓ hp))) hGt) K Q (fun g' w' v h=>hK g' w' v ⟨h.le,⟨⟨fun _=>h.slot.1,fun hc=>by rw[hGt] at hc;cases hc⟩,trivial⟩,h.heap,h.fr,h.perm,h.gho,h.ty⟩)
      .rw[aRk hGt];exact hK g w undef (zO.pure hH ⟨⟨fun hc=>absurd hc hGt,fun _=>rfl⟩,trivial⟩)
     .rename_i side sl u us rds heq;simp only[aRd] at hr heq;subst hr;subst heq;have hGt:G=true:=hs _ aRm;rw[aRf hGt];exact a0N hT hΓ hH hop (N1 hGt (ss:=[uF s.env c]) pH (fun p hp=>hs p (aRo _ (xJ.2 (.inl hp)))) (zR henv c)) (zR henv x) (zR henv y) hpl (fun p hp=>hs (G=true->p) (aRo _ (xJ.2 (.inr (Q6 hT hΓ hp)))) hGt) K Q (fun g' w' v h=>hK g' w' v ⟨h.le,h.slot,h.heap,h.fr,h.perm,h.gho,h.ty⟩)
     .cases hr
   .have e1:MK T Γ o s (some G) o.op=I3 G (zB G (CA s.env (sI o.op))) (v6 T Γ o.type (fun x=>y6 (uF s.env x)) s.nb s.H o.op):=by
     cases ho:o.op<;>first|rfl|(exact absurd ⟨_,_,_,ho⟩ hpk)
    rw[e1] at hr;generalize hpl:v6 T Γ o.type (fun x=>y6 (uF s.env x)) s.nb s.H o.op=op at hr;cases op with
    |none=>cases hr
    |some e0=>
     unfold I3 at hr;split at hr
     .rename_i side d k rds heq;simp only[aRd] at hr heq;subst hr;subst heq;by_cases hGt:G=true
      .rw[aRf hGt];refine a0K hT hΓ hH rfl (ρ:=fun x=>y6 (uF s.env x)) (fun x hx=> ?_) hpl (fun p hp=>hs (G=true->p) (xJ.2 (.inr (Q6 hT hΓ hp))) hGt) (fun i hi=>by cases hi) K Q (fun g' w' v h=>hK g' w' v ⟨h.le,⟨⟨fun _=>h.slot.1,fun hc=>by rw[hGt] at hc;cases hc⟩,trivial⟩,h.heap,h.fr,h.perm,h.gho,h.ty⟩);exact N1 hGt (VJ hx) (fun p hp=>hs p (xJ.2 (.inl hp))) (zR henv x)
      .rw[aRk hGt];exact hK g w undef (zO.pure hH ⟨⟨fun hc=>absurd hc hGt,fun _=>rfl⟩,trivial⟩)
     .rename_i side sl u us rds heq;simp only[aRd] at hr heq;subst hr;subst heq;have hGt:G=true:=hs _ aRm;rw[aRf hGt];refine a0K hT hΓ hH rfl (ρ:=fun x=>y6 (uF s.env x)) (fun x hx=> ?_) hpl (fun p hp=>hs (G=true->p) (aRo _ (xJ.2 (.inr (Q6 hT hΓ hp)))) hGt) hf K Q (fun g' w' v h=>hK g' w' v ⟨h.le,h.slot,h.heap,h.fr,h.perm,h.gho,h.ty⟩);exact N1 hGt (VJ hx) (fun p hp=>hs p (aRo _ (xJ.2 (.inl hp)))) (zR henv x)
     .cases hr
end
structure tH (A:Nat->Nat->Prop) (L:List q9) (g0:Gh) (w0:pQ) (g:Gh) (w:pQ) (H:s7):Prop where
 shut: ∀b o,g0.S b o->g.S b o/\w.cell? ⟨b,o,none⟩=w0.cell? ⟨b,o,none⟩
 fr:Fr A w0 w g0.S g.S
 perm: ∀i blk b o,qD H i=some blk->sA g i blk b o->w0.heap.size<=b\/A b o
 J: ∀i p,i<L.length->g0.J i=some p->g.J i=some p
 live: ∀i,i<L.length->(∃p,g.J i=some p)\/(∃n v,g.cur i n=some v)
 ty: ∀i u y us,i<L.length->qD H i=some (.cells u y us)->∃x ts,L[i]? =some (.cells u x ts)
 cur: ∀i n v,i<L.length->g0.cur i n=some v->g.cur i n=some v
theorem tH.eff {A:Nat->Nat->Prop}{L:List q9}{g0 g g':Gh}{w0 w w':pQ}{H:s7}{e:qJ}{v:pR}(h:tH A L g0 w0 g w H) (k:zO g w H e g' w' v) (hc:HX e.rds=true->I4 L.length e.upd=true):tH A L g0 w0 g' w' (qT e.upd H):=by
 have hown: ∀b o,sX g H (qE e.upd) b o->w0.heap.size<=b\/A b o:=fun b o ⟨i,blk,_,h2,h3⟩=>h.perm i blk b o h2 h3;refine⟨fun b o hs=> ?_,h.fr.trans k.fr hown,fun i blk b o hg ho=> ?_,fun i p hi hp=>k.le.J _ _ (h.J i p hi hp),fun i hi=> ?_,fun i u y us hi hg=> ?_,fun i n u hi hu=>k.le.cur _ _ _ (h.cur i n u hi hu)⟩
 .obtain⟨h1,h2⟩:=h.shut b o hs;exact⟨k.le.S b o h1,(k.le.cell b o h1).trans h2⟩
 .by_cases hi:i∈qE e.upd
  .rcases k.perm i blk b o hi hg ho with h1|h1
   .exact .inl (aSe h.fr.size h1)
   .exact hown b o h1
  .exact h.perm i blk b o ((CF hi).symm.trans hg) ((zP (k.gho i hi).1 (k.gho i hi).2).1 ho)
 .rcases h.live i hi with⟨p,hp⟩ |⟨n,u,hu⟩
  .exact .inl ⟨p,k.le.J _ _ hp⟩
  .exact .inr ⟨n,u,k.le.cur _ _ _ hu⟩
 .cases hre:HX e.rds with
  |true=>exact h.ty i u y us hi (aBh (hc hre) hi hg)
  |false=>
   rcases k.ty hre i u y us hg with⟨x,ts,h1⟩ |⟨h1,h2⟩
   .exact h.ty i u x ts hi h1
   .rcases h.live i hi with⟨p,hp⟩ |⟨n,u,hu⟩
    .rw[h1] at hp;cases hp
    .rw[h2] at hu;cases hu
def zS:pK->Nat->pO
 |[],_=>none
 |(n,o)::r,k=>if n=k then some o else zS r k
def uT (g:Gh) (np:Nat) (m:pK):Gh:=
 ⟨g.S,fun i=>if i<np then g.J i else(zS m i).bind g.J,fun i n=>if i<np then g.cur i n else(zS m i).bind fun o=>g.cur o n⟩
theorem VK {n o:Nat}: ∀{m:pK},MN n o m=false->∀n' o',(n',o')∈m->n'≠n/\o'≠o
 |[],_,_,_,h=>by cases h
 |(a,b)::m,h,n',o',hm=>by
  simp only[MN,aR3,aR1] at h;rcases aRu.1 hm with h1|h1
  .cases h1;exact h.1
  .exact VK h.2 n' o' h1
theorem a0P {np:Nat}: ∀{m:pK},xQ np m=true->∀{n o:Nat},(n,o)∈m->zS m n=some o/\(n<np->o=n)
 |[],_,_,_,h=>by cases h
 |(a,b)::m,hk,n,o,h=>by
  simp only[xQ,aRw,aRK,aSl,aRG] at hk;obtain⟨⟨h1,h2⟩,h3⟩:=hk;simp only[zS];rcases aRu.1 h with h4|h4
  .cases h4;rw[aRf rfl];exact⟨rfl,fun h5=>by rcases h1 with h1|h1<;>omega⟩
  .have h5:=VK h2 n o h4;rw[aRk (Ne.symm h5.1)];exact a0P h3 h4
theorem D7: ∀{m:pK}{k j:Nat},xG m k=some j->(j,k)∈m
 |[],_,_,h=>by cases h
 |(a,b)::m,k,j,h=>by
  simp only[xG] at h;split at h
  .rename_i e;subst e;simp only[aRd] at h;subst h;exact aRm
  .exact aRo _ (D7 h)
theorem AT {g:Gh}{np:Nat}{m:pK}(hk:xQ np m=true) {n o:Nat}(h:(n,o)∈m):(uT g np m).J n=g.J o/\(uT g np m).cur n=g.cur o:=by
 obtain⟨h1,h2⟩:=a0P hk h;refine⟨?_,?_⟩
 .show (if n<np then g.J n else(zS m n).bind g.J)=_;by_cases hn:n<np
  .rw[aRf hn,h2 hn]
  .rw[aRk hn,h1];rfl
 .funext q;show (if n<np then g.cur n q else(zS m n).bind fun o=>g.cur o q)=_;by_cases hn:n<np
  .rw[aRf hn,h2 hn]
  .rw[aRk hn,h1];rfl
theorem a0Q {g:Gh}{np:Nat}{m:pK}(hk:xQ np m=true): ∀(l l':pK) (vs:pM),yI g l vs->CC m l=some l'->yI (uT g np m) l' vs
 |[],l',vs,h,hr=>by simp only[CC,aRd] at hr;subst hr;exact h
 |(i,o)::l,l',vs,⟨p,vs',h1,h2,h3⟩,hr=>by
  simp only[CC] at hr;cases hi:xG m i with
  |none=>rw[hi] at hr;cases hr2:CC m l<;>rw[hr2] at hr<;>cases hr
  |some j=>
   rw[hi] at hr;cases hr2:CC m l with
   |none=>rw[hr2] at hr;cases hr
   |some l2=>
    rw[hr2] at hr;simp only[CC.renCons,aRd] at hr;subst hr;exact⟨p,vs',by rw[(AT hk (D7 hi)).1];exact h1,h2,a0Q hk l l2 vs' h3 hr2⟩
theorem aJ6 {m:pK}{u t:Ty}{x y:t.den}{o:Nat}{l:List u.den}(h:zN m t x=some y) (hg:r9 (.list u) t x o=some l):r9 (.list u) t y o=some l:=
 a0B (zN m) (fun _ _ _=>rfl) (fun _ _=>rfl) h hg
theorem Q7 {g:Gh}{w:pQ}{np:Nat}{m:pK}(hk:xQ np m=true): ∀{t:Ty}{x y:t.den}{cs:pM},Rd g w t x cs->zN m t x=some y->Rd (uT g np m) w t y cs
 | .bool,_,_,_,r,h=>by cases h;exact r
 | .int _,_,_,_,r,h=>by cases h;exact r
 | .str,_,_,_,r,h=>by cases h;exact r
 | .unit,_,_,_,r,h=>by cases h;exact r
 | .list t,x,y,_,r,h=>by
  simp only[zN] at h;split at h
  .rename_i hp;cases h;exact wC (g:=g) (g':=uT g np m) rfl (t:= .list t) (by simpa[Ty.pure] using hp) r
  .cases h
 | .ref,none,y,_,r,h=>by cases h;exact r
 | .ref,some (i,o),y,_,⟨p,h1,h2⟩,h=>by
  simp only[zN,UQ] at h;cases hi:xG m i with
  |none=>rw[hi] at h;cases h
  |some j=>
   rw[hi] at h;cases h;exact⟨p,by rw[(AT hk (D7 hi)).1];exact h1,h2⟩
 | .clo,none,y,_,r,h=>by cases h;exact r
 | .clo,some (f,l),y,_,⟨vs,h1,h2⟩,h=>by
  simp only[zN,a9V] at h;cases hi:CC m l with
  |none=>rw[hi] at h;cases h
  |some l'=>
   rw[hi] at h;cases h;exact⟨vs,a0Q hk l l' vs h1 hi,h2⟩
 | .fn,_,_,_,r,h=>by cases h;exact r
 | .rl _ _,none,y,_,r,h=>by cases h;exact r
 | .rl _ _,some (k,n),y,_,⟨v,h1,h2⟩,h=>by
  simp only[zN,a9X] at h;cases hi:xG m k with
  |none=>rw[hi] at h;cases h
  |some j=>
   rw[hi] at h;cases h;exact⟨v,by rw[(AT hk (D7 hi)).2];exact h1,h2⟩
 | .mref,none,y,_,r,h=>by cases h;exact r
 | .mref,some (i,o),y,_,⟨p,h1,h2⟩,h=>by
  simp only[zN,UQ] at h;cases hi:xG m i with
  |none=>rw[hi] at h;cases h
  |some j=>
   rw[hi] at h;cases h;exact⟨p,by rw[(AT hk (D7 hi)).1];exact h1,h2⟩
 | .mp,none,y,_,r,h=>by cases h;exact r
 | .mp,some i,y,_,⟨p,h1,h2⟩,h=>by
  simp only[zN,a9W] at h;cases hi:xG m i with
  |none=>rw[hi] at h;cases h
  |some j=>
   rw[hi] at h;cases h;exact⟨p,by rw[(AT hk (D7 hi)).1];exact h1,h2⟩
 | .pair a b,x,y,_,⟨c1,c2,e,r1,r2⟩,h=>by
  simp only[zN] at h;obtain⟨h1,h2⟩:=a0A h;refine⟨c1,c2,e,?_,?_⟩
  .split at h1
   .rename_i hp;exact(aRi h1)▸wC (g:=g) (g':=uT g np m) rfl hp r1
   .exact Q7 hk r1 h1
  .split at h2
   .rename_i hp;exact(aRi h2)▸wC (g:=g) (g':=uT g np m) rfl hp r2
   .exact Q7 hk r2 h2
theorem VL {g:Gh}{w:pQ}{np:Nat}{m:pK}(hk:xQ np m=true) {s:qB}{v:pR}(h:rH g w s v):rH (uT g np m) w (A6 m s) v:=by
 have caps: ∀(l l':pK) (vs:pM),yI g l vs->CC m l=some l'->yI (uT g np m) l' vs:=a0Q hk;unfold A6;split
 .rename_i k n k';cases hi:xG m k with
  |none=>exact⟨trivial,trivial⟩
  |some j=>
   obtain⟨h1,h2⟩:=h.1;exact⟨⟨by rw[(AT hk (D7 hi)).2];exact h1,h2⟩,trivial⟩
 .obtain h1:=h.1;refine⟨?_,trivial⟩;rcases h1 with⟨h1,_⟩ |⟨_,h2⟩
  .cases h1
  .exact .inr ⟨rfl,h2⟩
 .rename_i p k;obtain⟨i,o⟩:=p;simp only[a9T];cases hi:xG m i with
  |none=>exact⟨trivial,trivial⟩
  |some j=>
   simp only[Option.map_some,A6.refSlot];obtain⟨q,hq,hv⟩:=zQ h.1;exact⟨.inr ⟨rfl,q,by rw[(AT hk (D7 hi)).1];exact hq,by rw[hv]⟩,trivial⟩
 .rename_i f l k;cases hl:CC m l with
  |none=>exact⟨trivial,trivial⟩
  |some l'=>
   simp only[A6.cloSlot];rcases h.1 with⟨h1,_⟩ |⟨_,vs,h2,h3⟩
   .cases h1
   .exact⟨.inr ⟨rfl,vs,caps l l' vs h2 hl,h3⟩,trivial⟩
 .rename_i i k;cases hi:xG m i with
  |none=>exact⟨trivial,trivial⟩
  |some j=>
   simp only[A6.mpSlot];rcases h.1 with⟨h1,_⟩ |⟨_,p,h2,h3⟩
   .cases h1
   .exact⟨.inr ⟨rfl,p,by rw[(AT hk (D7 hi)).1];exact h2,h3⟩,trivial⟩
 .rename_i t x k _ _ _ _;split
  .rename_i hp;have hv:tO (uT g np m) w t x v:=h.1.imp (fun⟨a,cs,e,q⟩=>⟨a,cs,e,wC (g:=g) (g':=uT g np m) rfl hp q⟩) (fun⟨a,q⟩=>⟨a,wC (g:=g) (g':=uT g np m) rfl hp q⟩);refine⟨hv,?_⟩;replace h:=aAH h;generalize htk:F4 t k=k' at h|-;cases k' with
   |none=>trivial
   |some k=>
    simp only[a9U];cases hj:xG m k with
    |none=>trivial
    |some j=>
     have h2:=h.2;cases t with
     |list u=>
      show (uT g np m).cur j _=_;rw[(AT hk (D7 hj)).2];exact h2
     |pair a b=>cases htk
     |_=>exact h2.elim
  .cases hy:zN m t x with
   |none=>exact⟨trivial,trivial⟩
   |some y=>
    simp only[A6.valSlot];exact⟨h.1.imp (fun⟨a,cs,e,q⟩=>⟨a,cs,e,Q7 hk q hy⟩) (fun⟨a,q⟩=>⟨a,Q7 hk q hy⟩),trivial⟩
 .rename_i t x k;split
  .rename_i hp;obtain⟨b,o,cs,h1,h2,h3,h4⟩:=h.1;exact⟨⟨b,o,cs,h1,h2,h3,wC (g:=g) (g':=uT g np m) rfl hp h4⟩,trivial⟩
  .exact⟨trivial,trivial⟩
 .exact⟨h.1,trivial⟩
 .exact⟨trivial,trivial⟩
theorem aBi {q j:Nat}{x:Nat×Nat}: ∀{r:pK},x∈UR q j r->x=(q,j)\/x∈r
 |[],h=> .inl (aRv.1 h)
 |(a,b)::r,h=>by
  simp only[UR] at h;split at h
  .exact aRu.1 h
  .rcases aRu.1 h with h|h
   .exact .inr (by rw[h];exact aRm)
   .exact(aBi h).imp id (aRo _)
theorem VM {m:pK}: ∀{ts:pK}{q j:Nat},(q,j)∈KA m ts->∃k,(q,k)∈ts/\xG m k=some j
 |[],_,_,h=>by cases h
 |(a,b)::ts,q,j,h=>by
  simp only[KA] at h;cases hb:xG m b with
  |none=>
   rw[hb] at h;obtain⟨k,h1,h2⟩:=VM h;exact⟨k,aRo _ h1,h2⟩
  |some j'=>
   rw[hb] at h;simp only[KA.renTok1] at h;rcases aBi h with h1|h1
   .cases h1;exact⟨b,aRm,hb⟩
   .obtain⟨k,h1,h2⟩:=VM h1;exact⟨k,aRo _ h1,h2⟩
theorem KI {g:Gh}{w:pQ}{np:Nat}{m:pK}(hk:xQ np m=true) {n o:Nat}(hm:(n,o)∈m) {b:Option q9}(h: ∀c,b=some c->A8 g w o c):
  A8 (uT g np m) w n (I9 m b)/\∀bb oo,sA (uT g np m) n (I9 m b) bb oo->∃c,b=some c/\sA g o c bb oo:=by
 obtain⟨hJ,hcur⟩:=AT (g:=g) hk hm;unfold I9;split
 .rename_i t x toks;split
  .rename_i hp;obtain⟨p,cs,h1,h2,h3,h4,h5,h6⟩:=h _ rfl;refine⟨⟨p,cs,by rw[hJ];exact h1,wC (g:=g) (g':=uT g np m) rfl hp h2,h3,h4,h5,fun q j hmem=> ?_⟩,fun bb oo ⟨pp,e1,e2⟩=>⟨_,rfl,pp,by rw[hJ] at e1;exact e1,e2⟩⟩;obtain⟨k,k1,k2⟩:=VM hmem;obtain⟨u,l,v,g1,g2,g3⟩:=h6 q k k1;exact⟨u,l,v,g1,g2,by rw[(AT hk (D7 k2)).2];exact g3⟩
  .cases hy:zN m t x with
   |none=>exact⟨trivial,fun _ _ h=>h.elim⟩
   |some y=>
    obtain⟨p,cs,h1,h2,h3,h4,h5,h6⟩:=h _ rfl;simp only[ZT];refine⟨⟨p,cs,by rw[hJ];exact h1,Q7 hk h2 hy,h3,h4,h5,fun q j hmem=> ?_⟩,fun bb oo ⟨pp,e1,e2⟩=>⟨_,rfl,pp,by rw[hJ] at e1;exact e1,e2⟩⟩;obtain⟨k,k1,k2⟩:=VM hmem;obtain⟨u,l,v,g1,g2,g3⟩:=h6 q k k1;exact⟨u,l,v,aJ6 hy g1,g2,by rw[(AT hk (D7 k2)).2];exact g3⟩
 .rename_i e c k;obtain⟨v,xs,h1,h2,h3,h4⟩:=h _ rfl;exact⟨⟨v,xs,by rw[hcur];exact h1,h2,fun q hq=>by rw[hcur];exact h3 q hq,h4⟩,fun bb oo ⟨v',e1,e2⟩=>⟨_,rfl,v',by rw[hcur] at e1;exact e1,e2⟩⟩
 .rename_i e t l n;split
  .rename_i hp;obtain⟨h0,v,xs,h1,h2,h5,h3,h4⟩:=h _ rfl;exact⟨⟨h0,v,xs,by rw[hcur];exact h1,h2,D4 (fun _ _ h=>wC (g:=g) (g':=uT g np m) rfl hp h) h5,fun q hq=>by rw[hcur];exact h3 q hq,h4⟩,fun bb oo ⟨v',e1,e2⟩=>⟨_,rfl,v',by rw[hcur] at e1;exact e1,e2⟩⟩
  .exact⟨trivial,fun _ _ h=>h.elim⟩
 .rename_i k v l;split
  .rename_i hp;rw[aRw] at hp;obtain⟨p,es,cl,h1,h0,h2,h3,h4⟩:=h _ rfl;exact⟨⟨p,es,cl,by rw[hJ];exact h1,h0,h2,PQ (g:=g) (g':=uT g np m) rfl hp.1 hp.2 h3,h4⟩,fun bb oo ⟨pp,e1,e2⟩=>⟨_,rfl,pp,by rw[hJ] at e1;exact e1,e2⟩⟩
  .exact⟨trivial,fun _ _ h=>h.elim⟩
 .obtain⟨p,h1,h0,h2,h4⟩:=h _ rfl;exact⟨⟨p,by rw[hJ];exact h1,h0,h2,h4⟩,fun bb oo ⟨pp,e1,e2⟩=>⟨_,rfl,pp,by rw[hJ] at e1;exact e1,e2⟩⟩
 .exact⟨trivial,fun _ _ h=>h.elim⟩
theorem IG {m:pK}{H:s7}: ∀{l:pK}{n:Nat}{b:q9},qD (US m H l) n=some b->∃o,(n,o)∈l/\b=I9 m (qD H o)
 |[],_,_,h=>by cases h
 |(a,c)::l,n,b,h=>by
  simp only[US,qD] at h;split at h
  .rename_i e;subst e;exact⟨c,aRm,(aRi h).symm⟩
  .obtain⟨o,h1,h2⟩:=IG h;exact⟨o,aRo _ h1,h2⟩
theorem aBj {m:pK}{env:List (Nat×qB)}: ∀(l:pP) (t:Nat),lk (PJ m env l) t=(.any,none)\/lk (PJ m env l) t=A6 m (lk env t)
 |[],_=> .inl rfl
 |a::l,t=>by
  simp only[PJ,lk];split
  .rename_i e;subst e;exact .inr rfl
  .exact aBj l t
theorem aBk: ∀{m:pK}{n o:Nat},(n,o)∈m->n<UT m
 |(a,b)::m,n,o,h=>by
  simp only[UT];rcases aRu.1 h with h1|h1
  .cases h1;omega
  .have:=aBk h1;omega
theorem a0R: ∀{m:pK}{n o:Nat},zS m n=some o->(n,o)∈m
 |[],_,_,h=>by cases h
 |(a,b)::m,n,o,h=>by
  simp only[zS] at h;split at h
  .rename_i e;subst e;simp only[aRd] at h;subst h;exact aRm
  .exact aRo _ (a0R h)
theorem VN {B:Nat}{A:Nat->Nat->Prop}{L:List q9}{g0 g:Gh}{w0 w:pQ}{s:St}{a:Act}(h:v8 B g w s a) (hg:tH A L g0 w0 g w s.H) (hnp:s.np=L.length) (k:wK) (hk:xQ s.np k.ids=true):
  v8 B (uT g s.np k.ids) w (s.keep k) a/\tH A L g0 w0 (uT g s.np k.ids) w (s.keep k).H/\(s.keep k).np=L.length/\(s.keep k).N=s.N:=by
 unfold St.keep;rw[hk];refine⟨⟨fun t=> ?_,⟨fun i b hb=> ?_,fun i j bi bj b o hij h1 h2 o1 o2=> ?_,h.heap.sl,h.heap.tab.1,fun i b bb oo hb ho=>by
   obtain⟨o,h1,rfl⟩:=IG hb;obtain⟨c1,e1,o1'⟩:=(KI hk h1 fun c hc=>h.heap.blk o c hc).2 bb oo ho;exact h.heap.tab.2 o c1 bb oo e1 o1'⟩,h.size,fun i hi=> ?_,h.def_,Nat.le_max_left _ _⟩,⟨hg.shut,hg.fr,fun i blk b o hb ho=> ?_,fun i p hi hp=> ?_,fun i hi=> ?_,fun i u y us hi hb=> ?_,fun i n u hi hu=>(by
   show (if i<s.np then g.cur i n else _)=_;rw[aRf pF];exact hg.cur i n u hi hu)⟩,hnp,rfl⟩
 .rcases aBj (m:=k.ids) (env:=s.env) k.slots t with e|e
  .exact⟨by rw[show lk (PL s k true).env t=_ from e];trivial,by rw[show lk (PL s k true).env t=_ from e];trivial⟩
  .have:=VL hk (h.env t);rw[show lk (PL s k true).env t=_ from e];exact this
 .obtain⟨o,h1,rfl⟩:=IG hb;exact(KI hk h1 fun c hc=>h.heap.blk o c hc).1
 .obtain⟨p,k1,rfl⟩:=IG h1;obtain⟨q,k2,rfl⟩:=IG h2;obtain⟨c1,e1,o1'⟩:=(KI hk k1 fun c hc=>h.heap.blk p c hc).2 b o o1;obtain⟨c2,e2,o2'⟩:=(KI hk k2 fun c hc=>h.heap.blk q c hc).2 b o o2;refine h.heap.dis p q c1 c2 b o (fun e=> ?_) e1 e2 o1' o2';subst e;have inj: ∀{m:pK},xQ s.np m=true->∀{i j o:Nat},(i,o)∈m->(j,o)∈m->i=j:=by
   intro m
   induction m with
   |nil=>intro _ _ _ _ h;cases h
   |cons z m ih=>
    obtain⟨z1,z2⟩:=z;intro hk i j o h1 h2;simp only[xQ,aRw,aRK] at hk;rcases aRu.1 h1 with h1|h1<;>rcases aRu.1 h2 with h2|h2
    .cases h1;cases h2;rfl
    .cases h1;exact absurd rfl (VK hk.1.2 _ _ h2).2
    .cases h2;exact absurd rfl (VK hk.1.2 _ _ h1).2
    .exact ih hk.2 h1 h2
  exact hij (inj hk k1 k2)
 .have hi': ¬i<s.np:=by have:=aSe (Nat.le_max_left _ _) hi;omega
  have hold:zS k.ids i=none:=by
   cases ho:zS k.ids i with
   |none=>rfl
   |some o=>
    have:=aBk (a0R ho);have:=aSe (Nat.le_max_right _ _) hi;omega
  refine⟨?_,fun n=> ?_⟩
  .show (if i<s.np then g.J i else(zS k.ids i).bind g.J)=none;rw[aRk hi',hold];rfl
  .show (if i<s.np then g.cur i n else(zS k.ids i).bind fun o=>g.cur o n)=none;rw[aRk hi',hold];rfl
 .obtain⟨p,h1,rfl⟩:=IG hb;obtain⟨c,e1,e2⟩:=(KI hk h1 fun c hc=>h.heap.blk p c hc).2 b o ho;exact hg.perm p c b o e1 e2
 .show (if i<s.np then g.J i else _)=_;rw[aRf pF];exact hg.J i p hi hp
 .rcases hg.live i hi with⟨p,hp⟩ |⟨n,v,hv⟩
  .left;refine⟨p,?_⟩;show (if i<s.np then g.J i else _)=_;rw[aRf pF];exact hp
  .right;refine⟨n,v,?_⟩;show (if i<s.np then g.cur i n else _)=_;rw[aRf pF];exact hv
 .obtain⟨o,h1,h2⟩:=IG hb;have ho:=(a0P hk h1).2 pF;subst ho;unfold I9 at h2;split at h2
  .rename_i t x toks heq;split at h2
   .simp only[q9.cells.injEq] at h2;obtain⟨rfl,_⟩:=h2;exact hg.ty o u x toks hi heq
   .cases hy:zN k.ids t x with
    |none=>rw[hy] at h2;cases h2
    |some y=>
     rw[hy] at h2;simp only[ZT,q9.cells.injEq] at h2;obtain⟨rfl,_⟩:=h2;exact hg.ty o u x toks hi heq
  .cases h2
  .split at h2<;>cases h2
  .split at h2<;>cases h2
  .cases h2
  .cases h2
theorem E5 {B:Nat}{A:Nat->Nat->Prop}{L:List q9}{g0 g:Gh}{w0 w:pQ}{s:St}{a:Act}(h:v8 B g w s a) (hg:tH A L g0 w0 g w s.H) (hnp:s.np=L.length) (k:wK):
  ∃g',v8 B g' w (s.keep k) a/\tH A L g0 w0 g' w (s.keep k).H/\(s.keep k).np=L.length/\(s.keep k).N=s.N:=by
 unfold St.keep;cases hk:xQ s.np k.ids with
 |false=>
  refine⟨g,⟨fun t=>⟨trivial,trivial⟩,⟨(fun i b h=>by cases h),(fun i j bi bj b o _ h=>by cases h),h.heap.sl,h.heap.tab.1,(fun i b bb oo h=>by cases h)⟩,h.size,h.nb,h.def_,h.np⟩,⟨hg.shut,hg.fr,(fun i blk b o h=>by cases h),hg.J,hg.live,(fun i u y us _ h=>by cases h),hg.cur⟩,hnp,rfl⟩
 |true=>
  have:=VN h hg hnp k hk;unfold St.keep at this;rw[hk] at this;exact⟨_,this⟩
theorem VO {g g':Gh}{w w':pQ}{env:List (Nat×qB)}{a:Act}{o:Oper}{sl:qB}{v:pR}(h:AB g w env a.tmps) (le:Le g w g' w') (hs:rH g' w' sl v) {N:Nat}(hN:a.tmps.size=N) (hd:I5 N o.dst=true):AB g' w' (tN o.dst sl env) (a.put o.dst v).tmps:=by
  intro t;cases ho:o.dst with
  |none=>exact BC le (h t)
  | some d=>
    rw[ho] at hd;simp only[I5,aRG] at hd;simp only[tN,lk,Act.put];by_cases hdt:d=t
    · subst hdt
      rw[aRf rfl];have hlt:d<a.tmps.size:=by rw[hN];exact hd
      have:(a.tmps.setIfInBounds d v).getD d undef=v:=by
        rw[aRJ,Array.getElem?_setIfInBounds_self_of_lt hlt];rfl
      rw[this];exact hs
    · rw[aRk hdt]
      have:(a.tmps.setIfInBounds d v).getD t undef=a.tmps.getD t undef:=by
        rw[aRJ,aSG hdt,←aRJ]
      rw[this];exact BC le (h t)
theorem IH {n:Nat}: ∀{u:List (Nat×q9)},I7 n u=true→∀{i:Nat},i∈qE u→i<n
  | (k,b)::u,h,i,hi=>by
    simp only[I7,aRw,aRG] at h;simp only[qE,aRu] at hi;rcases hi with rfl|hi
    .exact h.1
    .exact IH h.2 hi
theorem a0S (a:Act) (d:Option Tmp) (v:pR):(a.put d v).tmps.size=a.tmps.size:=by
  cases d<;>simp [Act.put]
theorem a0T (a:Act) (d:Option Tmp) (v:pR):(a.put d v).defers=a.defers:=by
  cases d<;>simp [Act.put]
theorem v8.step {B:Nat}{g g':Gh}{w w':pQ}{s:St}{a:Act}{o:Oper}{e:qJ}{v:pR}(h:v8 B g w s a) (k:zO g w s.H e g' w' v) (hd:I5 s.N o.dst=true) (hi:I7 (s.nb+32) e.upd=true):
    v8 B g' w' ⟨tN o.dst e.slot s.env,qT e.upd s.H,s.nb+32,s.N,s.np⟩ (a.put o.dst v):=by
  refine⟨VO h.env k.le k.slot h.size hd,k.heap,(a0S _ _ _).trans h.size,fun i hn=> ?_,by rw[a0T];exact h.def_.eff h.heap k,aSe h.np (Nat.le_add_right _ _)⟩;have:i∉qE e.upd:=fun hm=>by have:=IH hi hm;simp only at hn;omega
  have hk:=k.gho i this;have hb:=h.nb i (by simp only at hn;omega);exact⟨hk.1.trans hb.1,fun n=>by rw[hk.2];exact hb.2 n⟩
theorem aBl {T:sK}{Γ:tW}{ops:List Oper}: ∀(l:List Oper),uS T Γ ops l none=none
  |[]=>rfl
  |_::_=>rfl
theorem a0U {T:sK}{Γ:tW}{ops:List Oper}{o:Oper}{l:List Oper}{x y:vH}(h:uS T Γ ops (o::l) (some x)=some y):
    ∃ e,yH T Γ ops o x.s=some e∧I5 x.s.N o.dst=true∧I7 (x.s.nb+32) e.upd=true∧
      uS T Γ ops l (some ⟨⟨tN o.dst e.slot x.s.env,qT e.upd x.s.H,x.s.nb+32,x.s.N,x.s.np⟩,qT x.side (qT (K9 x.s.H e.upd e.rds e.upd) e.side),e::x.es⟩)=some y:=by
  simp only[uS] at h;cases he:yH T Γ ops o x.s with
  |none=>rw[he] at h;simp only[UN] at h;rw[aBl] at h;cases h
  | some e=>
    rw[he] at h;simp only[UN] at h;by_cases hc:(I5 x.s.N o.dst&&I7 (x.s.nb+32) e.upd)=true
    · rw[aRf hc] at h
      simp only[aRw] at hc;exact⟨e,rfl,hc.1,hc.2,h⟩
    .rw[aRk hc,aBl] at h;cases h
theorem E6 {T:sK}{Γ:tW}{ops:List Oper}: ∀{l:List Oper}{x y:vH},uS T Γ ops l (some x)=some y→(∀p∈x.side,p∈y.side)∧y.s.N=x.s.N∧y.s.np=x.s.np
  | [],x,y,h=>by
    simp only[uS,aRd] at h;subst h;exact⟨fun _ h=>h,rfl,rfl⟩
  | o::l,x,y,h=>by
    obtain⟨e,_,_,_,h4⟩:=a0U h;obtain⟨h5,h6,h7⟩:=E6 h4;exact⟨fun p hp=>h5 p (xJ.2 (.inl hp)),h6,h7⟩
def CG (ro:pO):Fence:={Fence.wide with round:=ro}
theorem a0V {ro:pO}{n:Nat}{P:Program}{f:FuncId}{args:Array pR}{w:pQ}{R:Ending→pQ→Prop}(h:Calls P f args w R):CallsIn (CG ro) n P f args w R:=callsIn_wide.2 h
section
variable {B:Nat}{P:Program}{T:sK}{Γ:tW}(hT:xH P T) (hΓ:D6 P Γ) {A:Nat→Nat→Prop}{L:List q9}{g0:Gh}{w0:pQ}{Q:Exit→Act→pQ→Prop}
include hT hΓ
theorem aJ7 {g:Gh}{w:pQ}{s:St}{a:Act}(h:v8 B g w s a) (e:qJ):yX g s.nb e:=fun i _ hb=>h.nb i hb
omit hT hΓ in
theorem a0W {ops:List Oper}{o:Oper}{s:St}{e:qJ}(h:yH T Γ ops o s=some e): ∀c,o.op≠.defer c:=by
  intro c hc;replace h:=(N2 h).1;unfold MM at h;cases hg:o.guard with
  |none=>rw[hg,hc] at h;simp [ML,v6,MJ] at h
  | some jb=>
    rw[hg,hc] at h;simp only at h;cases hk:Γ (UM jb.1 jb.2) with
    |some _=>rw[hk] at h;cases h
    | none=>
      rw[hk] at h;simp only[PF] at h;cases hG:GE s.env jb.2 (A4 ops jb.1)<;>rw[hG] at h<;>simp [MK,v6,I3] at h
omit hT hΓ in
theorem a0X {ro:pO}{o:Oper}{a:Act}{w:pQ}{K:Act→pQ→Prop}(hd: ∀c,o.op≠.defer c) (h:o.wp P a w K Q):o.wpIn (CG ro) 0 P a w K Q:=by
  refine⟨fun _ _=>trivial,?_⟩;rw[Oper.semAt_eq _ _ _ hd];unfold Oper.wp at h;generalize (execOp a.eval o).run P w=r at h|-;unfold Oper.upon at h;unfold Oper.uponIn;split at h
  .exact h
  .exact h
  .exact h
  .exact⟨fun h0=>(by cases h0),a0V h⟩
  .exact⟨fun h0=>(by cases h0),fun c cs _=>let ⟨v,w',r,s⟩:=h c cs;⟨v,w',r,stepsIn_wide.2 s⟩⟩
  .exact h
  .exact h.elim
theorem aBm {ro:pO}{ops:Array Oper}: ∀{l:List Oper}{x y:vH}{a:Act}{w:pQ}{g:Gh},uS T Γ ops.toList l (some x)=some y→(∀p∈y.side,p)→v8 B g w x.s a→tH A L g0 w0 g w x.s.H→L.length=x.s.np→
    (∀g' a' w',v8 B g' w' y.s a'→tH A L g0 w0 g' w' y.s.H→Q .normal a' w')→wpListIn (CG ro) 0 P ops Q l a w
  | [],x,y,a,w,g,h,hs,hr,hg,hn,hQ=>by
    simp only[uS,aRd] at h;subst h;exact hQ g a w hr hg
  | o::l,x,y,a,w,g,h,hs,hr,hg,hn,hQ=>by
    obtain⟨e,h1,h2,h3,h4⟩:=a0U h;have hside: ∀p∈e.side,p:=fun p hp=>hs p ((E6 h4).1 p (xJ.2 (.inr (xJ.2 (.inr hp)))));have key:=a0O hT hΓ (ops:=ops.toList) (o:=o) (a:=a) (K:=wpListIn (CG ro) 0 P ops Q l) (Q:=Q) hr.env hr.heap h1 hside (aJ7 hT hΓ hr e) (fun g' w' v k=>aBm h4 hs (hr.step k h2 h3) (hg.eff k (hn▸(N2 h1).2)) hn hQ);simp only[aSE] at key;unfold wpListIn;split at key
    .rename_i hw;rw[aRf hw];exact a0X (a0W h1) key
    .rename_i hw;rw[aRk hw];exact⟨fun _ _=>trivial,key⟩
theorem aJ8 {ro:pO}{id:Nat}{ops:Array Oper}{s:St}{y:vH}{a:Act}{w:pQ}{g:Gh}(h:uS T Γ ops.toList ops.toList (some ⟨s,[],[]⟩)=some y) (hs: ∀p∈y.side,p) (hr:v8 B g w s a) (hg:tH A L g0 w0 g w s.H) (hn:L.length=s.np)
    (hQ: ∀g' a' w',v8 B g' w' y.s a'→tH A L g0 w0 g' w' y.s.H→Q .normal a' w'):(Code.region id ops false).wpIn (CG ro) 0 P Q a w:=
  wpIn_region_list (aBm hT hΓ h hs hr hg hn hQ)
end
theorem aJ9 {H H':List (Nat×q9)}{t:Ty}{i off:Nat}{e:qJ}(h:I2 H t i off (qD H i)=some e) (hl: ∀id∈e.rds,qD H' id=qD H id):i∈e.rds∧I2 H' t i off (qD H' i)=some e:=by
  have key: ∃k n v x ts,qD H i=some (.cells v x ts)∧BB v x=some (k,n)∧TW t i off k n v x (qD H k)=some e∧e.rds=[1000000000,i,k]:=by
    unfold I2 at h;split at h
    case h_2=>cases h
    rename_i v x ts hb;cases hf:BB v x with
    |none=>rw[hf] at h;cases h
    | some q=>
      obtain⟨k,n⟩:=q;rw[hf] at h;refine⟨k,n,v,x,ts,hb,hf,h,?_⟩;simp only[TX] at h;unfold TW at h;split at h
      case h_2=>cases h
      generalize zL _ _ _ _=z at h;cases z with
      |none=>cases h
      | some z=>
        obtain⟨v',x'⟩:=z;simp only[Z8] at h;unfold Z7 at h;split at h
        .simp only[aRd] at h;rw[←h]
        .cases h
  obtain⟨k,n,v,x,ts,h1,h2,h3,h4⟩:=key;refine⟨by rw[h4];simp,?_⟩;rw[hl i (by rw[h4];simp),h1];simp only[I2,h2,TX];rw[hl k (by rw[h4];simp)];exact h3
theorem a0Y {ρ ρ':Operand→qB}: ∀{xs:List Operand},(∀x∈xs,ρ' x=ρ x)→vX ρ' xs=vX ρ xs
  |[],_=>rfl
  |x::xs,h=>by simp only[vX,h x pH,a0Y (fun y hy=>h y (aRo _ hy))]
theorem a0Z {ρ ρ':Operand→qB}: ∀{xs:List (Nat×Operand)},(∀x∈xs,ρ' x.2=ρ x.2)→uZ ρ' xs=uZ ρ xs
  |[],_=>rfl
  |(i,x)::xs,h=>by simp only[uZ,h (i,x) pH,a0Z (fun y hy=>h y (aRo _ hy))]
theorem aBn {T:sK}{ρ ρ':Operand→qB}: ∀{xs:List Operand}{ts:List TypeId},(∀x∈xs,ρ' x=ρ x)→GC T ρ' xs ts=GC T ρ xs ts
  |[],_,_=>by simp [GC]
  |_::_,[],_=>by simp [GC]
  |x::xs,t::ts,h=>by simp only[GC,h x pH,aBn (fun y hy=>h y (aRo _ hy))]
theorem aKa {T:sK}{Γ:tW}{ty:TypeId}{ρ ρ':Operand→qB}{base:Nat}{H:List (Nat×q9)}(op:Op) (h: ∀x∈op.operands,ρ' x=ρ x):v6 T Γ ty ρ' base H op=v6 T Γ ty ρ base H op:=by
  cases op
  case slice t x lo hi mx=>
    cases mx with
    |some m=>rfl
    | none=>
      have h1:=h x (by simp [Op.operands])
      have h2:zM ρ' lo=zM ρ lo:=by
        cases lo with
        |none=>rfl
        |some l=>simp only[zM,h l (by simp [Op.operands])]
      have h3:zM ρ' hi=zM ρ hi:=by
        cases hi with
        |none=>rfl
        |some l=>simp only[zM,h l (by simp [Op.operands])]
      simp only[v6,h1,h2,h3]
  case call c=>
    obtain⟨callee,args,tys⟩:=c
    have ha: ∀x∈args.toList,ρ' x=ρ x:=fun x hx=>h x (by
      have:x∈args:=by simpa using hx
      simp only[Op.operands,Call.operands];split<;>simp [this])
    cases callee with
    |builtin b=>cases b<;>simp only[v6,K7,a0Y ha]
    | value f=>
      have hf:=h f (by simp [Op.operands,Call.operands]);simp only[v6,K7,hf];cases K6 args.toList tys.toList with
      |false=>rfl
      |true=>simp only[ZM,aBn ha]
    |_=>rfl
  case build t ps=>simp only[v6,a0Z (fun x hx=>h x.2 (by simp only[Op.operands,aS8];exact List.mem_map_of_mem hx))]
  case buildSlice t n ps=>simp only[v6,a0Z (fun x hx=>h x.2 (by simp only[Op.operands,aS8];exact List.mem_map_of_mem hx))]
  case makeFunc f first caps=>
    cases f with
    | func f=>
      have hc: ∀x∈caps.toList,ρ' x=ρ x:=fun x hx=>h x (by
        have:x∈caps:=by simpa using hx
        simp [Op.operands,this])
      simp only[v6,a0Y hc]
    |_=>rfl
  all_goals first
    |rfl
    |(simp only[Op.operands,aS8,aRu,aSO,or_false,forall_eq,forall_eq_or_imp] at h;simp only[v6,h])
    |(simp [Op.operands] at h;simp only[v6,h])
theorem a00: ∀{l acc:List rG}{i:Nat},i∈sD (zJ l acc)↔i∈sD l∨i∈sD acc
  |[],_,_=>by simp [zJ,sD]
  | w::l,acc,i=>by
    simp only[zJ,a00,sD,aRu];constructor
    · rintro(h|h|h)
      .exact .inl (.inr h)
      .exact .inl (.inl h)
      .exact .inr h
    · rintro((h|h) |h)
      .exact .inr (.inl h)
      .exact .inl h
      .exact .inr (.inr h)
section
variable {H H':List (Nat×q9)}
theorem aKb {k:pO}{a b:t7}(h:zK H k (some a)=some b):(∀i,i∈sD a.ws→i∈sD b.ws)∧((∀i,i∈sD b.ws→qD H' i=qD H i)→zK H' k (some a)=some b):=by
  cases k with
  | none=>
    have h:none=some b:=h;cases h
  | some k=>
    simp only[zK] at h|-
    have:(∃e c m,qD H k=some (.grow e c m)):=by
      cases hg:qD H k with
      |none=>rw[hg] at h;cases h
      | some bl=>cases bl with
        |grow e c m=>exact⟨_,_,_,rfl⟩
        |_=>rw[hg] at h;cases h
    obtain⟨e,c,m,hg⟩:=this;rw[hg] at h;simp only[C2] at h;split at h
    .cases h
    · rename_i hm
      simp only[aRd] at h;subst h;refine⟨fun i hi=>by simp only[sD,aRu];exact .inr hi,fun hl=> ?_⟩;rw[hl k (by simp [sD,rG.id]),hg];simp only[C2];rw[aRk hm]
theorem aKc (H:List (Nat×q9)) (k:pO):zK H k none=none:=by
  cases k with
  |none=>rfl
  | some k=>
    simp only[zK];cases qD H k with
    |none=>rfl
    |some bl=>cases bl<;>rfl
theorem aBo (H:List (Nat×q9)) (toks:pK) (o:Nat): ∀(qs:pP),yU H toks o qs none=none
  |[]=>rfl
  |q::qs=>by simp only[yU,aKc,aBo H toks o qs]
theorem aBp {H H':List (Nat×q9)}{toks:pK}{o:Nat}: ∀{qs:pP}{a b:t7},yU H toks o qs (some a)=some b→(∀i,i∈sD a.ws→i∈sD b.ws)∧((∀i,i∈sD b.ws→qD H' i=qD H i)→yU H' toks o qs (some a)=some b)
  |[],a,b,h=>by simp only[yU,aRd] at h;subst h;exact⟨fun _ h=>h,fun _=>rfl⟩
  | q::qs,a,b,h=>by
    simp only[yU] at h|-;cases hm:zK H (xO toks (o+q)) (some a) with
    |none=>rw[hm,aBo] at h;cases h
    | some m=>
      rw[hm] at h;obtain⟨h1,h2⟩:=aKb (H':=H') hm;obtain⟨h3,h4⟩:=aBp (H':=H') h;exact⟨fun i hi=>h3 i (h1 i hi),fun hl=>by rw[h2 (fun i hi=>hl i (h3 i hi))];exact h4 hl⟩
theorem aKd (H H':List (Nat×q9)) (a:t7) (s:qB):yF H' a .v s=yF H a .v s:=by
  obtain⟨d,k⟩:=s;cases d with
  | val t x=>
    cases t with
    | clo=>
      cases x with
      |none=>rfl
      |some q=>obtain⟨f,l⟩:=q;cases l<;>rfl
    |_=>rfl
  |_=>rfl
theorem aBq {H H':List (Nat×q9)}{t:Ty}{os:pP}{i o:Nat}{a b:t7}(h:wB H t os i o a (qD H i)=some b):(∀i,i∈sD a.ws→i∈sD b.ws)∧((∀i,i∈sD b.ws→qD H' i=qD H i)→wB H' t os i o a (qD H' i)=some b):=by
  cases hg:qD H i with
  |none=>rw[hg] at h;simp [wB] at h
  | some bl=>
    rw[hg] at h;cases bl with
    | cells u x toks=>
      simp only[wB] at h;cases hy:r9 t u x o with
      |none=>rw[hy] at h;simp [F5] at h
      | some y=>
        rw[hy] at h;simp only[F5] at h;split at h
        · rename_i hc
          obtain⟨h3,h4⟩:=aBp (H':=H') h;refine⟨fun j hj=>h3 j (by simp only[sD,aRu];exact .inr hj),fun hl=> ?_⟩;rw[hl i (h3 i (by simp [sD,rG.id])),hg];simp only[wB,hy,F5];rw[aRf hc];exact h4 hl
        .cases h
    |_=>simp [wB] at h
theorem aKe (H:List (Nat×q9)) (f:FuncId) (args:List qB) (ks:List (Ty×pP)) (cs ids:pK):y3 H f args ks cs ids none=none:=by cases ks<;>cases cs<;>rfl
theorem aBr {H H':List (Nat×q9)}{f:FuncId}{args:List qB}: ∀{ks:List (Ty×pP)}{cs ids:pK}{a b:t7},y3 H f args ks cs ids (some a)=some b→(∀i,i∈sD a.ws→i∈sD b.ws)∧((∀i,i∈sD b.ws→qD H' i=qD H i)→y3 H' f args ks cs ids (some a)=some b)
  | [],[],ids,a,b,h=>by
    simp only[y3,aRd] at h|-;subst h;exact⟨fun _ h=>h,fun _=>rfl⟩
  |[],_::_,_,_,_,h=>by simp [y3] at h
  |_::_,[],_,_,_,h=>by simp [y3] at h
  | (t,os)::ks,(i,o)::cs,ids,a,b,h=>by
    simp only[y3] at h|-;cases hb:wB H t os i o a (qD H i) with
    |none=>rw[hb,aKe] at h;cases h
    | some m=>
      rw[hb] at h;obtain⟨h1,h2⟩:=aBq (H':=H') hb;obtain⟨h3,h4⟩:=aBr (H':=H') h;exact⟨fun i hi=>h3 i (h1 i hi),fun hl=>by rw[h2 (fun i hi=>hl i (h3 i hi))];exact h4 hl⟩
theorem aBs {p:PK}{s:qB}{a b:t7}(h:yF H a p s=some b):(∀i,i∈sD a.ws→i∈sD b.ws)∧((∀i,i∈sD b.ws→qD H' i=qD H i)→yF H' a p s=some b):=by
  by_cases hpv:p= .v
  · subst hpv
    refine⟨?_,fun _=>by rw[aKd H H'];exact h⟩;unfold yF at h;split at h
    .simp only[TG,aRd] at h;subst h;exact fun _ h=>h
    · simp only[TF] at h
      split at h
      .simp only[aRd] at h;subst h;exact fun _ h=>h
      .cases h
    .simp only[TH,aRd] at h;subst h;exact fun _ h=>h
    .rename_i h1;cases h1
    .rename_i h1;cases h1
    .rename_i h1;cases h1
    .rename_i h1;cases h1
    .rename_i h1;cases h1
    .cases h
  unfold yF at h;split at h
  .exact absurd rfl hpv
  .exact absurd rfl hpv
  .exact absurd rfl hpv
  · rename_i t x k
    simp only[yF];cases hg:qD H k with
    |none=>rw[hg] at h;simp [C3] at h
    | some bl=>
      rw[hg] at h;cases bl with
      | grow e c m=>
        simp only[C3] at h;split at h
        · rename_i hc
          simp only[aRd] at h;subst h;refine⟨fun i hi=>by simp only[sD,aRu];exact .inr hi,fun hl=> ?_⟩;rw[hl k (by simp [sD,rG.id]),hg];simp only[C3];rw[aRf hc]
        .cases h
      |_=>simp [C3] at h
  · rename_i t os i o k
    simp only[yF];exact aBq h
  · rename_i i k
    simp only[yF];cases hg:qD H i with
    |none=>rw[hg] at h;simp [C5] at h
    | some bl=>
      rw[hg] at h;cases bl with
      | map s t l=>
        simp only[C5] at h;split at h
        · rename_i hc
          simp only[aRd] at h;subst h;refine⟨fun j hj=>by simp only[sD,aRu];exact .inr hj,fun hl=> ?_⟩;rw[hl i (by simp [sD,rG.id]),hg];simp only[C5];rw[aRf hc]
        .cases h
      |_=>simp [C5] at h
  · rename_i k n k'
    simp only[yF];cases hg:qD H k with
    |none=>rw[hg] at h;simp [C6] at h
    | some bl=>
      rw[hg] at h;cases bl with
      | row e t l m=>
        simp only[C6] at h;split at h
        · rename_i hc
          simp only[aRd] at h;subst h;refine⟨fun j hj=>by simp only[sD,aRu];exact .inr hj,fun hl=> ?_⟩;rw[hl k (by simp [sD,rG.id]),hg];simp only[C6];rw[aRf hc]
        .cases h
      |_=>simp [C6] at h
  · simp only[yF]
    exact aBr h
  .cases h
theorem aBt (H:List (Nat×q9)) (gs:List (Nat×Nat×PK)):B9 H gs none=none:=by cases gs<;>rfl
theorem aBu {H H':List (Nat×q9)}: ∀{gs:List (Nat×Nat×PK)}{a b:t7},B9 H gs (some a)=some b→(∀i,i∈sD a.ws→i∈sD b.ws)∧((∀i,i∈sD b.ws→qD H' i=qD H i)→B9 H' gs (some a)=some b)
  |[],a,b,h=>by simp only[B9,aRd] at h;subst h;exact⟨fun _ h=>h,fun _=>rfl⟩
  | (c,q,pk)::gs,a,b,h=>by
    simp only[B9] at h|-;cases hm:yF H a pk (JW q pk (HY a.H (a.n-1-c))) with
    |none=>rw[hm] at h;simp only[MA,aBt] at h;cases h
    | some m=>
      rw[hm] at h;simp only[MA] at h;obtain⟨h1,h2⟩:=aBs (H':=H') hm;obtain⟨h3,h4⟩:=aBu (H':=H') h;exact⟨fun i hi=>h3 i (h1 i hi),fun hl=>by rw[h2 (fun i hi=>hl i (h3 i hi))];simp only[MA];exact h4 hl⟩
theorem aKf (H:List (Nat×q9)): ∀(ps:List PK) (ss:List qB),y4 H ps ss none=none
  |[],[]=>rfl
  |[],_::_=>rfl
  |_::_,[]=>rfl
  |_::_,_::_=>rfl
theorem aBv {H H':List (Nat×q9)}: ∀{ps:List PK}{ss:List qB}{a b:t7},y4 H ps ss (some a)=some b→(∀i,i∈sD a.ws→i∈sD b.ws)∧((∀i,i∈sD b.ws→qD H' i=qD H i)→y4 H' ps ss (some a)=some b)
  |[],[],a,b,h=>by simp only[y4,aRd] at h;subst h;exact⟨fun _ h=>h,fun _=>rfl⟩
  |[],_::_,a,b,h=>by simp [y4] at h
  |_::_,[],a,b,h=>by simp [y4] at h
  | p::ps,s::ss,a,b,h=>by
    simp only[y4] at h|-;cases hm:yF H a p s with
    |none=>rw[hm,aKf] at h;cases h
    | some m=>
      rw[hm] at h;obtain⟨h1,h2⟩:=aBs (H':=H') hm;obtain⟨h3,h4⟩:=aBv (H':=H') h;exact⟨fun i hi=>h3 i (h1 i hi),fun hl=>by rw[h2 (fun i hi=>hl i (h3 i hi))];exact h4 hl⟩
theorem aBw {H H':List (Nat×q9)}{base:Nat}{args:List qB}{s:qW}{e:qJ}(h:GA H base args (some s)=some e) (hl: ∀i∈e.rds,qD H' i=qD H i):GA H' base args (some s)=some e:=by
  simp only[GA] at h|-;cases hp0:y4 H s.ps args (some ⟨[],[],[],0⟩) with
  |none=>rw[hp0,aBt] at h;cases h
  |some a0=>
   rw[hp0] at h;cases hp:B9 H s.gs (some a0) with
   |none=>rw[hp] at h;cases h
   |some a=>
    rw[hp] at h
    have hrd: ∀i,i∈sD (zJ a.ws [])→i∈e.rds:=by
      simp only[P4] at h;cases hcl:HZ (zJ a.ws []) (zJ a.H []) with
      |none=>rw[hcl] at h;cases h
      |some L=>
      rw[hcl] at h;simp only[TO] at h;cases hc:s.C (zJ a.args []) L with
      |none=>rw[hc] at h;cases h
      | some r=>
        rw[hc] at h;simp only[TN] at h;unfold P2 at h;split at h
        · simp only[aRd] at h
          rw[←h];exact fun i hi=>xJ.2 (.inl hi)
        .cases h
    obtain⟨g1,g2⟩:=aBu (H':=H') hp;rw[(aBv (H':=H') hp0).2 (fun i hi=>hl i (hrd i (a00.2 (.inl (g1 i hi))))),g2 (fun i hi=>hl i (hrd i (a00.2 (.inl hi))))];exact h
theorem aBx {H H':List (Nat×q9)}{base:Nat}{args:List qB}{s:Option qW}{e:qJ}(h:K5 H base args s=some e) (hl: ∀i∈e.rds,qD H' i=qD H i):K5 H' base args s=some e:=by
  cases s with
  |none=>cases h
  | some s=>
    simp only[K5] at h|-;cases hr:s.row with
    | some F=>
      rw[hr] at h;simp only[UD] at h|-;unfold TP at h|-;split at h
      · rename_i k n x
        cases hg:qD H k with
        |none=>rw[hg] at h;cases h
        | some b=>
          have hk:k∈e.rds:=by
            rw[hg] at h;cases b with
            | row e0 t l m=>
              simp only[YT] at h;unfold a9v at h;split at h
              .simp only[aRd] at h;rw[←h];simp
              .cases h
            |_=>cases h
          rw[hl k hk];exact h
      .cases h
    | none=>
      rw[hr] at h;simp only[UD] at h|-;cases hn:P5 s.ps args with
      |none=>rw[hn] at h;exact aBw h hl
      | some k=>
        rw[hn] at h;simp only[a9u] at h|-;cases hg:qD H k with
        |none=>rw[hg] at h;cases h
        | some b=>
          rw[hg] at h;cases b with
          | row e0 t l m=>
            simp only[P7] at h;cases hi:GA ((k,.dead)::H) base (P6 k t l args) (some s) with
            |none=>rw[hi] at h;cases h
            | some e1=>
              rw[hi] at h
              have hk:k∈e.rds∧∀i∈e1.rds,i∈e.rds:=by
                unfold YS at h;split at h
                · rename_i heq
                  simp only[aRd] at heq;subst heq;split at h
                  · simp only[aRd] at h
                    rw[←h];exact⟨by simp,fun i hi=>aRo _ hi⟩
                  .cases h
                .cases h
              rw[hl k hk.1,hg];simp only[P7]
              rw[aBw hi (fun i hi'=>by
                simp only[qD];split
                .rfl
                .exact hl i (hk.2 i hi'))]
              exact h
          |_=>cases h
theorem aKg {Γ:tW}{base:Nat}{args:List qB}{f:qB}{e:qJ}(h:MG Γ H base args f=some e) (hl: ∀i∈e.rds,qD H' i=qD H i):MG Γ H' base args f=some e:=by
  unfold MG at h|-;split at h
  .exact aBx h hl
  .exact aBx h hl
  .cases h
theorem aKh {T:sK}{Γ:tW}{ty:TypeId}{ρ:Operand→qB}{base:Nat}{op:Op}{e:qJ}(h:v6 T Γ ty ρ base H op=some e) (hl: ∀i∈e.rds,qD H' i=qD H i):v6 T Γ ty ρ base H' op=some e:=by
  cases op
  case load t x=>
    simp only[v6] at h|-;unfold TY at h|-;split at h
    · rename_i ti k n c i o' _ e1 e2
      unfold PB at h;split at h
      · rename_i e' t' l m hg
        split at h
        · rename_i hc
          have:e.rds=[k]:=by
            unfold a9B at h;split at h
            .simp only[aRd] at h;rw[←h]
            .cases h
          rw[hl k (by rw[this];simp),hg];simp only[PB];rw[aRf hc];exact h
        .cases h
      .cases h
    .exact h
    · rename_i ti i off k e1 e2
      rcases aAl h with h1|⟨h0,h1⟩
      · have hi:i∈e.rds:=by
          rcases aAk h1 with h|h
          · unfold PA at h
            split at h
            · unfold a9A at h;split at h
              .simp only[aRd] at h;rw[←h];simp
              .cases h
            .cases h
          · unfold TV at h
            split at h
            · unfold Z4 at h;split at h
              .simp only[aRd] at h;rw[←h];simp
              .cases h
            .cases h
        rw[hl i hi,h1];rfl
      · obtain⟨hi,h2⟩:=aJ9 h1 hl
        rw[hl i hi,h0];rw[hl i hi] at h2;exact h2
    .cases h
  case store t x y=>
    simp only[v6] at h|-;unfold U4 at h|-;split at h
    · rename_i ti i off k kk n k' e1 e2 e3
      have hi:i∈e.rds:=by
        unfold ZC at h;split at h
        · rcases aAB h with h|h
          · unfold TZ at h;split at h
            .simp only[aRd] at h;rw[←h];simp
            .cases h
          · unfold ZB at h;split at h
            .simp only[aRd] at h;rw[←h];simp
            .cases h
        .cases h
      rw[hl i hi];exact h
    · rename_i ti k n c i o' _ t y k' e1 e2 e3
      split at h
      · rename_i ht
        rw[aRf ht];unfold U3 at h;split at h
        · rename_i e' t' l m hg
          split at h
          · rename_i hc
            have:e.rds=[k]:=by
              unfold a9E at h;split at h
              .simp only[aRd] at h;rw[←h]
              .cases h
            rw[hl k (by rw[this];simp),hg];simp only[U3];rw[aRf hc];exact h
          .cases h
        .cases h
      .cases h
    · rename_i ti i off k t y k' e1 e2 e3
      split at h
      · rename_i ht
        have hi:e.rds=[i]:=by
          unfold U2 at h;split at h
          · unfold U1 at h
            split at h
            · unfold a9D at h;split at h
              .simp only[aRd] at h;rw[←h]
              .cases h
            .cases h
          · unfold U0 at h
            split at h
            · unfold TZ at h;split at h
              .simp only[aRd] at h;rw[←h]
              .cases h
            .cases h
        rw[hl i (by rw[hi];simp)];simp only[aRf ht];exact h
      .cases h
    .cases h
  case call c=>
    obtain⟨callee,args,tys⟩:=c;cases callee with
    | builtin b=>
      cases b
      case append=>
        simp only[v6,K7] at h|-;unfold UG at h|-;split at h
        · split at h
          · rename_i hu
            rw[aRf hu];unfold UB at h|-;split at h
            · split at h
              · rename_i hbu
                rw[aRf hbu];unfold UA at h;split at h
                · rename_i hg
                  split at h
                  · rename_i hbt
                    split at h
                    · rename_i hc
                      simp only[aRd] at h;subst h;rw[hl _ (aRm),hg];simp only[UA];rw[aTj hbt,aRf hc]
                    .cases h
                  .cases h
                .cases h
              .cases h
            · split at h
              · rename_i hba
                rw[aTj hba];unfold U9 at h;split at h
                · rename_i hg
                  split at h
                  · rename_i hc
                    simp only[aRd] at h;subst h;rw[hl _ (aRm),hg];simp only[U9];rw[aRf hc]
                  .cases h
                .cases h
              .cases h
            .cases h
          · rename_i hu
            rw[aRk hu];unfold ZL at h|-;split at h
            · unfold UF at h
              split at h
              · rename_i hg
                split at h
                · rename_i hc
                  simp only[aRd] at h;subst h;rw[hl _ (aRm),hg];simp only[UF];rw[aRf hc]
                .cases h
              .cases h
            .cases h
        .cases h
      case len=>
        simp only[v6,K7] at h|-;unfold UE at h|-;split at h
        · unfold ZJ at h|-
          split at h
          · unfold U8 at h
            split at h
            · rename_i hg
              simp only[aRd] at h;subst h;rw[hl _ (aRm),hg];simp only[U8]
            .cases h
          all_goals exact h
        .cases h
      all_goals exact h
    | value f=>
      simp only[v6,K7] at h|-;cases hsl:K6 args.toList tys.toList with
      |false=>rw[hsl] at h;cases h
      |true=>rw[hsl] at h;exact aKg h hl
    |_=>exact h
  case makeFunc f first caps=>
    cases f with
    |func f=>exact h
    |_=>exact h
  case slice t x lo hi mx=>
    cases mx with
    |none=>exact h
    |some m=>exact h
  case next x b=>
    simp only[v6] at h|-;unfold UL at h|-;split at h
    · rename_i i k e1
      unfold ZR at h;split at h
      · rename_i hg
        have:e.rds=[i]:=by
          simp only[aRd] at h;rw[←h]
        rw[hl i (by rw[this];simp),hg];exact h
      .cases h
    .cases h
  case lookup xt x ix ok=>
    simp only[v6] at h|-;unfold UI at h|-;split at h
    · rename_i el fl ar ls_ i kk e1 e2
      unfold ZO at h|-;split at h
      · rename_i kt vt k a _
        split at h
        · rename_i hk
          rw[aRf hk];unfold UH at h;split at h
          · rename_i hg
            split at h
            · rename_i hkv
              split at h
              · rename_i hkey
                have:e.rds=[i]:=by
                  cases ok<;>(simp only[aRd] at h;rw[←h])
                rw[hl i (by rw[this];simp),hg];simp only[UH];rw[aTj hkv,aRf hkey];exact h
              .cases h
            .cases h
          .cases h
        .cases h
      .cases h
    .exact h
    .cases h
  case mapUpdate mt m x y=>
    simp only[v6] at h|-;unfold MI at h|-;split at h
    · rename_i el fl ar ls_ i kk e1 e2
      unfold UJ at h|-;split at h
      · rename_i kt k a _ u b _
        split at h
        · rename_i hk
          rw[aRf hk];unfold MH at h;split at h
          · rename_i hg
            split at h
            · rename_i hkv
              split at h
              · rename_i hkey
                have:e.rds=[i]:=by
                  simp only[aRd] at h;rw[←h]
                rw[hl i (by rw[this];simp),hg];simp only[MH];rw[aTj hkv,aRf hkey];exact h
              .cases h
            .cases h
          .cases h
        .cases h
      .cases h
    .cases h
  case insert mt m x y=>
    simp only[v6] at h|-;unfold MI at h|-;split at h
    · rename_i el fl ar ls_ i kk e1 e2
      unfold UJ at h|-;split at h
      · rename_i kt k a _ u b _
        split at h
        · rename_i hk
          rw[aRf hk];unfold MH at h;split at h
          · rename_i hg
            split at h
            · rename_i hkv
              split at h
              · rename_i hkey
                have:e.rds=[i]:=by
                  simp only[aRd] at h;rw[←h]
                rw[hl i (by rw[this];simp),hg];simp only[MH];rw[aTj hkv,aRf hkey];exact h
              .cases h
            .cases h
          .cases h
        .cases h
      .cases h
    .cases h
  all_goals exact h
end
theorem aKi {T:sK}{Γ:tW}{ops:Array Oper}{o:Oper}{s s':St}{e:qJ}(h:MM T Γ ops.toList o s=some e) (ht: ∀t∈o.looksAt ops,lk s'.env t=lk s.env t) (hH: ∀i∈e.rds,qD s'.H i=qD s.H i) (hn:s'.nb=s.nb):MM T Γ ops.toList o s'=some e:=by
 have hop: ∀x∈o.op.operands,uF s'.env x=uF s.env x:=fun x hx=>by
  cases x with
  |tmp t=>exact ht t (by simp only[Oper.looksAt,aR2,List.mem_filterMap];exact .inl ⟨.tmp t,by simpa using hx,rfl⟩)
  |_=>rfl
 have hops:CA s'.env (sI o.op)=CA s.env (sI o.op):=by
  have hsub: ∀x∈sI o.op,x∈o.op.operands:=by
   have hp: ∀(l:List (Nat×Operand)) x,x∈sI.parts l->x∈l.map (·.2):=by
    intro l
    induction l with
    |nil=>intro x h;exact h
    |cons q l ih=>
     intro x h;obtain⟨i,y⟩:=q;simp only[sI.parts,aRu] at h;rcases h with rfl|h
     .simp
     .simp only[aSi,aRu];exact .inr (ih x h)
   have ho: ∀(y:Option Operand) x,x∈sI.opt y->y=some x:=by
    intro y x h;cases y with
    |none=>cases h
    |some y=>simp only[sI.opt,aRv] at h;rw[h]
   intro x hx;cases hop:o.op
   case call c=>
    rw[hop] at hx;obtain⟨callee,args,tys⟩:=c;cases callee<;>simp_all [sI,Op.operands,Call.operands]
   case slice t y lo hi mx=>
    rw[hop] at hx;simp only[sI,aRu,xJ] at hx;simp only[Op.operands,Array.mem_append];rcases hx with rfl|hx|hx
    .simp
    .have:=ho _ _ hx;subst this;simp
    .have:=ho _ _ hx;subst this;simp
   case build t ps=>rw[hop] at hx;simp only[Op.operands,aS8];exact hp _ _ hx
   case buildSlice t n ps=>rw[hop] at hx;simp only[Op.operands,aS8];exact hp _ _ hx
   all_goals (rw[hop] at hx;simp_all [sI,Op.operands])
  have: ∀(l:List Operand),(∀x∈l,x∈o.op.operands)->CA s'.env l=CA s.env l:=by
   intro l
   induction l with
   |nil=>intro _;rfl
   |cons x l ih=>intro h;simp only[CA,hop x (h x pH),ih (fun y hy=>h y (aRo _ hy))]
  exact this _ hsub
 have hpl: ∀{e0:qJ},v6 T Γ o.type (fun x=>y6 (uF s.env x)) s.nb s.H o.op=some e0->e0.rds=e.rds->v6 T Γ o.type (fun x=>y6 (uF s'.env x)) s'.nb s'.H o.op=some e0:=by
  intro e0 h1 h2;rw[aKa (ρ:=fun x=>y6 (uF s.env x)) (ρ':=fun x=>y6 (uF s'.env x)) o.op (fun x hx=>by simp only[hop x hx]),hn];exact aKh h1 (by rw[h2];exact hH)
 unfold MM at h|-;cases hg:o.guard with
 |none=>
  rw[hg] at h;simp only at h|-;by_cases hpk: ∃c x y,o.op= .pick c x y
  .obtain⟨c,x,y,hp⟩:=hpk;rw[hp] at h|-;simp only[ML] at h|-;rw[hop c (by rw[hp];simp [Op.operands]),hop x (by rw[hp];simp [Op.operands]),hop y (by rw[hp];simp [Op.operands])];exact h
  .have e1: ∀s,ML T Γ o s o.op=MJ (zB true (CA s.env (sI o.op))) (v6 T Γ o.type (fun x=>y6 (uF s.env x)) s.nb s.H o.op):=by
    intro s;cases ho:o.op<;>first|rfl|(exact absurd ⟨_,_,_,ho⟩ hpk)
   rw[e1] at h|-;rw[hops];cases hp0:v6 T Γ o.type (fun x=>y6 (uF s.env x)) s.nb s.H o.op with
   |none=>rw[hp0] at h;cases h
   |some e0=>
    rw[hp0] at h;simp only[MJ,aRd] at h;rw[hpl hp0 (by rw[<-h])];simp only[MJ,h]
 |some jb=>
  obtain⟨j,b⟩:=jb;rw[hg] at h;simp only at h|-;have hgu:GE s'.env b (A4 ops.toList j)=GE s.env b (A4 ops.toList j):=by
   rw[Q5];cases hd:(ops.toList[j]?).bind (·.dst) with
   |none=>rfl
   |some t=>
    simp only[GE];rw[ht t (by
     simp only[Oper.looksAt,hg,aR2];right;have:(ops[j]?).bind (·.dst)=some t:=by simpa using hd
     rw[this];simp)]
  have hup:K8 s'.env b (A4 ops.toList j)=K8 s.env b (A4 ops.toList j):=by
   rw[Q5];cases hd:(ops.toList[j]?).bind (·.dst) with
   |none=>rfl
   |some t=>
    simp only[K8];rw[ht t (by
     simp only[Oper.looksAt,hg,aR2];right;have:(ops[j]?).bind (·.dst)=some t:=by simpa using hd
     rw[this];simp)]
  rw[hgu,hup];cases hsk:Γ (UM j b) with
  |some sg=>rw[hsk] at h;exact h
  |none=>
  rw[hsk] at h;simp only[PF] at h|-;cases hG:GE s.env b (A4 ops.toList j) with
  |none=>rw[hG] at h;cases h
  |some G=>
   rw[hG] at h;by_cases hpk: ∃c x y,o.op= .pick c x y
   .obtain⟨c,x,y,hp⟩:=hpk;rw[hp] at h|-;simp only[MK] at h|-;rw[hop c (by rw[hp];simp [Op.operands]),hop x (by rw[hp];simp [Op.operands]),hop y (by rw[hp];simp [Op.operands])];exact h
   have e1: ∀s,MK T Γ o s (some G) o.op=I3 G (zB G (CA s.env (sI o.op))) (v6 T Γ o.type (fun x=>y6 (uF s.env x)) s.nb s.H o.op):=by
    intro s;cases ho:o.op<;>first|rfl|(exact absurd ⟨_,_,_,ho⟩ hpk)
   rw[e1] at h|-;rw[hops];cases hp0:v6 T Γ o.type (fun x=>y6 (uF s.env x)) s.nb s.H o.op with
   |none=>rw[hp0] at h;cases h
   |some e0=>
    rw[hp0] at h;have hrd:e0.rds=e.rds:=by
     unfold I3 at h;split at h
     .rename_i heq;simp only[aRd] at h heq;subst heq;rw[<-h]
     .rename_i heq;simp only[aRd] at h heq;subst heq;rw[<-h]
     .cases h
    rw[hpl hp0 hrd];exact h
theorem VP {T:sK}{Γ:tW}{ops:Array Oper}{o:Oper}{s s':St}{e:qJ}(h:yH T Γ ops.toList o s=some e) (ht: ∀t∈o.looksAt ops,lk s'.env t=lk s.env t) (hH: ∀i∈e.rds,qD s'.H i=qD s.H i) (hn:s'.nb=s.nb) (hp:s'.np=s.np):yH T Γ ops.toList o s'=some e:=by
 obtain⟨h1,h2⟩:=N2 h;unfold yH at h|-;rw[h1] at h;rw[aKi h1 ht hH hn,hp];exact h
def uO {α:Type}(p:Nat->Bool) (wr:Nat->Option α) (b:α):Nat->α
 |0=>b
 |k+1=>if p k=true then(wr k).getD (uO p wr b k) else uO p wr b k
theorem FD {α:Type}{p q:Nat->Bool}{wr:Nat->Option α}{b:α}: ∀{n:Nat},(∀j,j<n->wr j≠none->p j=q j)->uO p wr b n=uO q wr b n
 |0,_=>rfl
 |n+1,h=>by
  simp only[uO];have ih:=FD (p:=p) (q:=q) (wr:=wr) (b:=b) (n:=n) (fun j hj=>h j pF);cases hw:wr n with
  |none=>simp [ih]
  |some v=>rw[h n pF (by rw[hw];simp),ih]
theorem VQ {α:Type}{wr:Nat->Option α}{b:α}{i:Nat}: ∀{n:Nat},i<=n->uO (fun j=>decide (j<i)) wr b n=uO (fun _=>true) wr b i
 |0,h=>by
  have:i=0:=by omega
  subst this;rfl
 |n+1,h=>by
  by_cases hi:i=n+1
  .subst hi;exact FD (fun j hj _=>by simp [hj])
  .have: ¬n<i:=by omega
   simp only[uO];rw[aRk (by simp [this])];exact VQ pF
theorem N3 {α:Type}{p q:Nat->Bool}{wr:Nat->Option α}{b:α}{i:Nat}(hi:p i=false) (hq: ∀j,q j=if j=i then true else p j): ∀{n:Nat},i<n->(∀j,i<j->j<n->p j=true->wr j=none\/wr i=none)->uO q wr b n=(wr i).getD (uO p wr b n)
 |0,h,_=>by omega
 |n+1,h,hd=>by
  simp only[uO];by_cases hn:n=i
  .subst hn;rw[aRf (by rw[hq];simp),aRk (by simp [hi])];rw[FD (p:=q) (q:=p) (fun j hj _=>by rw[hq,aRk pF])]
  .have ih:=N3 (b:=b) hi hq (n:=n) pF (fun j h1 h2=>hd j h1 pF);rw[hq,aRk hn,ih];by_cases hp:p n=true
   .rw[aRf hp,aRf hp];rcases hd n pF pF hp with h1|h1
    .rw[h1];rfl
    .rw[h1];rfl
   .rw[aRk hp,aRk hp]
theorem a01 {α:Type}{p:Nat->Bool}{wr:Nat->Option α}{b:α}: ∀(k:Nat),uO p wr b (k+1)=uO (fun j=>p (j+1)) (fun j=>wr (j+1)) (if p 0=true then(wr 0).getD b else b) k
 |0=>rfl
 |k+1=>by
  rw[uO,a01 k];rfl
theorem a02 {rds:pP}{i:Nat}: ∀{u:List (Nat×q9)},i∈qE (I8 rds u)↔i∈qE u/\CB i rds=false
 |[]=>by simp [I8,qE]
 |(j,b)::u=>by
  simp only[I8];cases h:CB j rds with
  |true=>
   rw[aRf rfl,a02 (u:=u)];simp only[qE,aRu];constructor
   .rintro⟨h1,h2⟩;exact⟨.inr h1,h2⟩
   .rintro⟨rfl|h1,h2⟩
    .rw[h] at h2;cases h2
    .exact⟨h1,h2⟩
  |false=>
   rw[aRk pH];simp only[qE,aRu,a02 (u:=u)];constructor
   .rintro(rfl|⟨h1,h2⟩)
    .exact⟨.inl rfl,h⟩
    .exact⟨.inr h1,h2⟩
   .rintro⟨rfl|h1,h2⟩
    .exact .inl rfl
    .exact .inr ⟨h1,h2⟩
theorem II {e:qJ}{i:Nat}:i∈qE (wJ e)↔i∈qE e.upd/\CB i e.rds=false:=a02
theorem aBy {i:Nat}: ∀{l:pP},CB i l=true->i∈l
 |[],h=>by cases h
 |j::l,h=>by
  simp only[CB] at h;split at h
  .rename_i e;subst e;exact aRm
  .exact aRo _ (aBy h)
theorem aBz {H U:List (Nat×q9)}{rds:pP}{i:Nat}(h:CB i rds=true): ∀{u:List (Nat×q9)},i∈qE u->(qD U i=qD H i)∈K9 H U rds u
 |[],hi=>by cases hi
 |(j,b)::u,hi=>by
  simp only[K9];simp only[qE,aRu] at hi;rcases hi with rfl|hi
  .rw[aRf h];exact aRm
  .have:=aBz (H:=H) (U:=U) h hi;split
   .exact aRo _ this
   .exact this
theorem aKj {H:List (Nat×q9)}{e:qJ}(hs: ∀p∈K9 H e.upd e.rds e.upd,p) {i:Nat}(h1:i∈qE e.upd) (h2:i∉qE (wJ e)):qD e.upd i=qD H i/\i∈e.rds:=by
 have h:CB i e.rds=true:=by
  cases h3:CB i e.rds with
  |true=>rfl
  |false=>exact absurd (II.2 ⟨h1,h3⟩) h2
 exact⟨hs _ (aBz h h1),aBy h⟩
def xS (os:List Oper) (es:List qJ) (t j:Nat):Option qB:=
 match os[j]?,es[j]? with
 |some o,some e=>if o.dst=some t then some e.slot else none
 |_,_=>none
def vZ (es:List qJ) (id j:Nat):Option (Option q9):=
 match es[j]? with
 |some e=>if id∈qE (wJ e) then some (qD e.upd id) else none
 |none=>none
theorem KJ {id:Nat}{H:s7}: ∀{u:List (Nat×q9)},qD (qT u H) id=if id∈qE u then qD u id else qD H id
 |[]=>by simp [qT,qE]
 |(k,b)::u=>by
  simp only[qT,qD,qE,aRu];by_cases h:k=id
  .subst h;simp
  .rw[aRk h,aRk h,KJ (u:=u)];have:(id=k\/id∈qE u)↔id∈qE u:=⟨fun h'=>h'.resolve_left (Ne.symm h),.inr⟩;simp only[this]
theorem a03 {d:Option Tmp}{s:qB}{env:List (Nat×qB)}{t:Nat}:lk (tN d s env) t=if d=some t then s else lk env t:=by
 cases d with
 |none=>simp [tN]
 |some d=>simp only[tN,lk,aRd]
structure a04 (T:sK) (Γ:tW) (ops:List Oper) (os:List Oper) (es:List qJ) (s:St) (y:vH) (k:Nat) (o:Oper) (e:qJ) (sk:St):Prop where
 ev:yH T Γ ops o sk=some e
 nb:sk.nb=s.nb+32*k
 dst:I5 s.N o.dst=true
 ids:I7 (s.nb+32*k+32) e.upd=true
 np:sk.np=s.np
 side: ∀p∈e.side,p∈y.side
 env: ∀t,lk sk.env t=uO (fun _=>true) (xS os es t) (lk s.env t) k
 heap: ∀id,qD sk.H id=uO (fun _=>true) (vZ es id) (qD s.H id) k
 same: ∀id,id∈qE e.upd->id∉qE (wJ e)->qD e.upd id=qD sk.H id/\id∈e.rds
structure VR (T:sK) (Γ:tW) (ops:List Oper) (os:List Oper) (es:List qJ) (s:St) (y:vH):Prop where
 len:es.length=os.length
 nb:y.s.nb=s.nb+32*os.length
 step: ∀k o e,os[k]? =some o->es[k]? =some e->∃sk,a04 T Γ ops os es s y k o e sk
 env: ∀t,lk y.s.env t=uO (fun _=>true) (xS os es t) (lk s.env t) os.length
 heap: ∀id,qD y.s.H id=uO (fun _=>true) (vZ es id) (qD s.H id) os.length
theorem Q8 {T:sK}{Γ:tW}{ops:List Oper}: ∀{l:List Oper}{x y:vH},uS T Γ ops l (some x)=some y->(∀p∈y.side,p)->∃es:List qJ,y.es=es.reverse++x.es/\VR T Γ ops l es x.s y
 |[],x,y,h,_=>by
  simp only[uS,aRd] at h;subst h;exact⟨[],rfl,rfl,rfl,fun k o e h=>by simp at h,fun _=>rfl,fun _=>rfl⟩
 |o::l,x,y,h,hsy=>by
  obtain⟨e,h1,h2,h3,h4⟩:=a0U h;obtain⟨es,h5,h6⟩:=Q8 h4 hsy;have hsame: ∀{i:Nat},i∈qE e.upd->i∉qE (wJ e)->qD e.upd i=qD x.s.H i/\i∈e.rds:=fun h1 h2=>aKj (fun p hp=>hsy p ((E6 h4).1 p (xJ.2 (.inr (xJ.2 (.inl hp)))))) h1 h2;have envs: ∀t k,uO (fun _=>true) (xS (o::l) (e::es) t) (lk x.s.env t) (k+1)=uO (fun _=>true) (xS l es t) (lk (tN o.dst e.slot x.s.env) t) k:=fun t k=>by
   rw[a01,aRf rfl,a03];have:(xS (o::l) (e::es) t 0).getD (lk x.s.env t)=if o.dst=some t then e.slot else lk x.s.env t:=by
    simp only[xS,aRM];split<;>rfl
   rw[this];rfl
  have heaps: ∀id k,uO (fun _=>true) (vZ (e::es) id) (qD x.s.H id) (k+1)=uO (fun _=>true) (vZ es id) (qD (qT e.upd x.s.H) id) k:=fun id k=>by
   rw[a01,aRf rfl,KJ];have:(vZ (e::es) id 0).getD (qD x.s.H id)=if id∈qE e.upd then qD e.upd id else qD x.s.H id:=by
    simp only[vZ,aRM];by_cases h7:id∈qE (wJ e)
    .rw[aRf h7,aRf (II.1 h7).1];rfl
    .rw[aRk h7];by_cases h8:id∈qE e.upd
     .rw[aRf h8,(hsame h8 h7).1];rfl
     .rw[aRk h8];rfl
   rw[this];rfl
  refine⟨e::es,by rw[h5];simp,by simp [h6.len],?_,?_,fun t=> ?_,fun id=> ?_⟩
  .have:=h6.nb;simp only at this;rw[this];simp only[aRj];omega
  .intro k o' e' ho he;cases k with
   |zero=>
    simp only[aRM,aRd] at ho he;subst ho;subst he;exact⟨x.s,h1,rfl,h2,h3,rfl,fun p hp=>(E6 h4).1 p (xJ.2 (.inr (xJ.2 (.inr hp)))),fun _=>rfl,fun _=>rfl,fun id=>hsame⟩
   |succ k=>
    simp only[aRY] at ho he;obtain⟨sk,q⟩:=h6.step k o' e' ho he;refine⟨sk,q.ev,by rw[q.nb];simp only;omega,q.dst,?_,q.np,q.side,fun t=>by rw[q.env t,envs],fun id=>by rw[q.heap id,heaps],q.same⟩;have:=q.ids;simp only at this;rw[show x.s.nb+32*(k+1)+32=x.s.nb+32+32*k+32 by omega];exact this
  .rw[aRj,envs];exact h6.env t
  .rw[aRj,heaps];exact h6.heap id
theorem aBA {ops:Array Oper}{bs:pP}{nb i:Nat}{o:Oper}{e:qJ}: ∀{ps:List Oper}{fs:List qJ}{j:Nat},UO ops bs nb i o e ps fs j=true->∀k p f,ps[k]? =some p->fs[k]? =some f->
  (bs.getD (j+k) 0).testBit i=true\/(o.apart ops p=true/\A5 e f=true/\DW (nb+32*i) f.upd=true)
 |p::ps,f::fs,j,h,k,p',f',hp,hf=>by
  simp only[UO,aRw,aSl] at h;cases k with
  |zero=>
   simp only[aRM,aRd] at hp hf;subst hp;subst hf;exact h.1.imp id (fun h=>⟨h.1.1,h.1.2,h.2⟩)
  |succ k=>
   simp only[aRY] at hp hf;have:=aBA h.2 k p' f' hp hf;rw[show j+(k+1)=j+1+k by omega];exact this
 |[],_,_,_,_,_,_,hp,_=>by simp at hp
 |_::_,[],_,_,_,_,_,_,hf=>by simp at hf
theorem a05 {ops:Array Oper}{bs:pP}{nb:Nat}: ∀{os:List Oper}{es:List qJ}{m:Nat},UP ops bs nb os es m=true->∀i j o e p f,i<j->os[i]? =some o->es[i]? =some e->os[j]? =some p->es[j]? =some f->
  (bs.getD (m+j) 0).testBit (m+i)=true\/(o.apart ops p=true/\A5 e f=true/\DW (nb+32*(m+i)) f.upd=true)
 |o'::os,e'::es,m,h,i,j,o,e,p,f,hij,ho,he,hp,hf=>by
  simp only[UP,aRw] at h;obtain⟨j,rfl⟩: ∃k,j=k+1:=⟨j-1,pF⟩;simp only[aRY] at hp hf;cases i with
  |zero=>
   simp only[aRM,aRd] at ho he;subst ho;subst he;have:=aBA h.1 j p f hp hf;rw[show m+(j+1)=m+1+j by omega];exact this
  |succ i=>
   simp only[aRY] at ho he;have:=a05 h.2 i j o e p f pF ho he hp hf;rw[show m+(j+1)=m+1+j by omega,show m+(i+1)=m+1+i by omega];exact this
 |[],_,_,_,_,_,_,_,_,_,_,ho,_,_,_=>by simp at ho
 |_::_,[],_,_,_,_,_,_,_,_,_,_,he,_,_=>by simp at he
theorem a06: ∀{os:List Oper}{m:Nat},PH os m=true->∀i o,os[i]? =some o->∀e∈o.after,Region.binds .any e=true->e.on<m+i
 |o'::os,m,h,i,o,ho,e,he,hb=>by
  simp only[PH,aRw] at h;cases i with
  |zero=>
   simp only[aRM,aRd] at ho;subst ho;have:=aRX.1 h.1 e (by simpa using he);simpa[hb] using this
  |succ i=>
   simp only[aRY] at ho;have:=a06 h.2 i o ho e he hb;omega
 |[],_,_,_,_,ho,_,_,_=>by simp at ho
theorem VS {l:pP}: ∀{u:List (Nat×q9)},PG u l=false->∀i,i∈qE u->i∉l
 |(k,b)::u,h,i,hi=>by
  simp only[PG,aR3] at h;simp only[qE,aRu] at hi;rcases hi with rfl|hi
  .simpa using h.1
  .exact VS h.2 i hi
theorem GK {a b:qJ}(h:A5 a b=true):(∀i∈qE (wJ a),i∉b.rds/\i∉qE b.upd)/\(∀i∈qE (wJ b),i∉a.rds):=by
 simp only[A5,aRw,aRK] at h;exact⟨fun i hi=>⟨fun h1=>VS h.1 i hi (xJ.2 (.inl h1)),fun h1=>VS h.1 i hi (xJ.2 (.inr h1))⟩,fun i hi=>VS h.2 i hi⟩
theorem a07 {lo:Nat}: ∀{u:List (Nat×q9)},DW lo u=true->∀i∈qE u,i<lo\/lo+32<=i
 |(k,b)::u,h,i,hi=>by
  simp only[DW,aRw,aSl,aRG] at h;simp only[qE,aRu] at hi;rcases hi with rfl|hi
  .exact h.1
  .exact a07 h.2 i hi
def VT (os:List Oper) (p:Nat->Bool):Prop:= ∀j o,os[j]? =some o->p j=true->∀e∈o.after,Region.binds .any e=true->p e.on=true
theorem aBB {p:Nat->Bool}{acc:Array Nat}(hacc: ∀i j,(acc.getD i 0).testBit j=true->p i=true->p j=true) {i:Nat}: ∀{es:List Edge}{s:Nat},(s.testBit i=true->p i=true)->(∀e∈es,Region.binds .any e=true->p e.on=true)->
  (es.foldl (fun s e=>if Region.binds .any e then s|||2^e.on|||acc.getD e.on 0 else s) s).testBit i=true->p i=true
 |[],s,hs,_,h=>hs h
 |e::es,s,hs,he,h=>by
  simp only[List.foldl_cons] at h;refine aBB hacc (es:=es) (fun h1=> ?_) (fun e' h'=>he e' (aRo _ h')) h;split at h1
  .rename_i hb;simp only[Nat.testBit_or,aSl,Nat.testBit_two_pow,aRG] at h1;rcases h1 with(h1|h1) |h1
   .exact hs h1
   .rw[<-h1];exact he e pH hb
   .exact hacc _ _ h1 (he e pH hb)
  .exact hs h1
theorem aBC {p:Nat->Bool}: ∀{os:List Oper}{acc:Array Nat},(∀i j,(acc.getD i 0).testBit j=true->p i=true->p j=true)->(∀j o,os[j]? =some o->p (acc.size+j)=true->∀e∈o.after,Region.binds .any e=true->p e.on=true)->
  ∀i j,((os.foldl (fun acc o=>acc.push (o.after.foldl (fun s e=>if Region.binds .any e then s|||2^e.on|||acc.getD e.on 0 else s) 0)) acc).getD i 0).testBit j=true->p i=true->p j=true
 |[],acc,hacc,_,i,j,h,hp=>hacc i j h hp
 |o::os,acc,hacc,hos,i,j,h,hp=>by
  simp only[List.foldl_cons] at h;refine aBC (os:=os) (fun i j h hp=> ?_) (fun k o' ho hk=> ?_) i j h hp
  .rw[aRJ,Array.getElem?_push] at h;split at h
   .rename_i hi;simp only[aTk] at h;rw[<-aS2] at h;refine aBB hacc (es:=o.after.toList) (s:=0) (fun h=>by simp at h) (fun e he hb=>hos 0 o rfl (by rw[hi] at hp;exact hp) e (by simpa using he) hb) h
   .rw[<-aRJ] at h;exact hacc i j h hp
  .refine hos (k+1) o' ho ?_;rw[Array.size_push] at hk;rw[show acc.size+(k+1)=acc.size+1+k by omega];exact hk
theorem VU {ops:Array Oper}{p:Nat->Bool}(hp:VT ops.toList p) {i j:Nat}(h:((Region.before ops).toList.getD i 0).testBit j=true) (hi:p i=true):p j=true:=by
 refine aBC (os:=ops.toList) (acc:= #[]) (p:=p) (fun i j h=>by simp at h) (fun j o ho hj=>hp j o ho (by simpa using hj)) i j ?_ hi;unfold Region.before at h;rw[<-aS2] at h;rw[aRJ,<-aSn,<-aRO];exact h
def AU (l:Array Bool):Nat->Nat
 |0=>0
 |k+1=>AU l k+if l.getD k false=true then 0 else 1
theorem aBD {l l':Array Bool}: ∀{n:Nat},(∀j,j<n->l'.getD j false=l.getD j false)->AU l' n=AU l n
 |0,_=>rfl
 |n+1,h=>by simp only[AU];rw[aBD (fun j hj=>h j pF),h n pF]
theorem a08 {l:Array Bool}: ∀{n:Nat},AU l n=0->∀j,j<n->l.getD j false=true
 |n+1,h,j,hj=>by
  simp only[AU] at h;by_cases hn:l.getD n false=true
  .by_cases hjn:j=n
   .subst hjn;exact hn
   .exact a08 (n:=n) pF j pF
  .rw[aRk hn] at h;omega
theorem AV {l:Array Bool}{i j:Nat}(hi:i<l.size):(l.setIfInBounds i true).getD j false=if j=i then true else l.getD j false:=by
 by_cases h:j=i
 .subst h;rw[aRf rfl,aRJ,Array.getElem?_setIfInBounds_self_of_lt hi];rfl
 .rw[aRk h,aRJ,aSG (Ne.symm h),<-aRJ]
theorem a09 {l:Array Bool}{i:Nat}(hi:i<l.size) (hf:l.getD i false=false): ∀{n:Nat},i<n->AU (l.setIfInBounds i true) n+1=AU l n
 |n+1,h=>by
  simp only[AU];by_cases hn:n=i
  .subst hn;rw[AV hi,aRf rfl,aRf rfl,hf,aBD (l:=l) (fun j hj=>by rw[AV hi,aRk pF])];simp
  .rw[AV hi,aRk hn];have:=a09 hi hf (n:=n) pF;omega
theorem a1a {p:Nat->Bool}: ∀{n:Nat},(∃j,j<n/\p j=false)->∃j,j<n/\p j=false/\∀k,k<j->p k=true
 |0,⟨j,h,_⟩=>by omega
 |n+1,⟨j,h,hj⟩=>by
  by_cases hs: ∃j,j<n/\p j=false
  .obtain⟨k,h1,h2,h3⟩:=a1a hs;exact⟨k,pF,h2,h3⟩
  .refine⟨j,h,hj,fun k hk=> ?_⟩;cases hp:p k with
   |true=>rfl
   |false=>exact absurd ⟨k,pF,hp⟩ hs
theorem sE.ext {g:Gh}{w:pQ}{H H':s7}(h:sE g w H) (e: ∀i,qD H' i=qD H i):sE g w H':=
 ⟨fun i b hb=>h.blk i b (by rw[<-e];exact hb),fun i j bi bj b o hij h1 h2=>h.dis i j bi bj b o hij (by rw[<-e];exact h1) (by rw[<-e];exact h2),h.sl,h.tab.1,fun i b bb oo hb ho=>h.tab.2 i b bb oo (by rw[<-e];exact hb) ho⟩
theorem tH.ext {A:Nat->Nat->Prop}{L:List q9}{g0 g:Gh}{w0 w:pQ}{H H':s7}(h:tH A L g0 w0 g w H) (e: ∀i,qD H' i=qD H i):tH A L g0 w0 g w H':=
 ⟨h.shut,h.fr,fun i blk b o hb=>h.perm i blk b o (by rw[<-e];exact hb),h.J,h.live,fun i u y us hi hb=>h.ty i u y us hi (by rw[<-e];exact hb),h.cur⟩
theorem a1b (g:Gh) (w:pQ) (d:Nat):Le g w g {w with drawn:=d}:=⟨fun _ _ h=>h,fun _ _ _=>rfl,fun _ _ h=>h,fun _ _ _ h=>h⟩
theorem sE.drawn {g:Gh}{w:pQ}{H:s7}(h:sE g w H) (d:Nat):sE g {w with drawn:=d} H:=
 ⟨fun i b hb=>MP (h.blk i b hb) (a1b g w d) rfl rfl (fun _ _ _=>⟨rfl,rfl⟩) (fun _ _=>rfl) (fun _ _ _ h=>h) (fun _ _ _ _ h=>h),h.dis,h.sl,JS h.tab.1 (aRE _) (fun _ _=>rfl),h.tab.2⟩
theorem tH.drawn {A:Nat->Nat->Prop}{L:List q9}{g0 g:Gh}{w0 w:pQ}{H:s7}(h:tH A L g0 w0 g w H) (d:Nat):tH A L g0 w0 g {w with drawn:=d} H:=
 ⟨h.shut,⟨h.fr.os,h.fr.tape,h.fr.output,h.fr.size,h.fr.blk,h.fr.cell,h.fr.new,h.fr.shape⟩,h.perm,h.J,h.live,h.ty,h.cur⟩
section
variable {B:Nat}{P:Program}{T:sK}{Γ:tW}(hT:xH P T) (hΓ:D6 P Γ) {A:Nat->Nat->Prop}{L:List q9}{g0:Gh}{w0:pQ}{Q:Exit->Act->pQ->Prop}
structure VV (B:Nat) (A:Nat->Nat->Prop) (L:List q9) (g0:Gh) (w0:pQ) (ops:Array Oper) (es:List qJ) (s:St) (listed:Array Bool) (g:Gh) (w:pQ) (a:Act) (env:List (Nat×qB)) (H:s7):Prop where
 size:listed.size=ops.size
 closed:VT ops.toList (fun j=>listed.getD j false)
 eok:AB g w env a.tmps
 look: ∀t,lk env t=uO (fun j=>listed.getD j false) (xS ops.toList es t) (lk s.env t) ops.size
 heap:sE g w H
 get: ∀id,qD H id=uO (fun j=>listed.getD j false) (vZ es id) (qD s.H id) ops.size
 tmps:a.tmps.size=s.N
 def_:y9 B w a.defers
 good:tH A L g0 w0 g w H
 len:L.length=s.np
 free: ∀j,j<ops.size->listed.getD j false=false->∀id,s.nb+32*j<=id->id<s.nb+32*j+32->g.J id=none/\∀n,g.cur id n=none
 top: ∀id,s.nb+32*ops.size<=id->g.J id=none/\∀n,g.cur id n=none
include hT hΓ
theorem aKk {ro:pO}{ops:Array Oper}{es:List qJ}{s:St}{y:vH}(run:VR T Γ ops.toList ops.toList es s y) (hs: ∀p∈y.side,p) (hchk:F9 ops s.nb es=true)
  (hQ: ∀g a w env H,AB g w env a.tmps->(∀t,lk env t=lk y.s.env t)->sE g w H->(∀id,qD H id=qD y.s.H id)->a.tmps.size=s.N->y9 B w a.defers->tH A L g0 w0 g w H->(∀id,s.nb+32*ops.size<=id->g.J id=none/\∀n,g.cur id n=none)->Q .normal a w):
  ∀(fuel:Nat) (listed:Array Bool) (g:Gh) (w:pQ) (a:Act) (env:List (Nat×qB)) (H:s7),AU listed ops.size<=fuel->VV B A L g0 w0 ops es s listed g w a env H->wpAnyIn (CG ro) 0 P .any ops Q fuel listed a w:=by
 simp only[F9,aRw] at hchk;obtain⟨haf,hfr⟩:=hchk;have hsz:ops.toList.length=ops.size:=aRQ;have done: ∀(listed:Array Bool) (g:Gh) (w:pQ) (a:Act) (env:List (Nat×qB)) (H:s7),VV B A L g0 w0 ops es s listed g w a env H->(∀j,j<ops.size->listed.getD j false=true)->Q .normal a w:=by
  intro listed g w a env H m hall;refine hQ g a w env H m.eok (fun t=> ?_) m.heap (fun id=> ?_) m.tmps m.def_ m.good m.top
  .rw[m.look t,run.env t,hsz];exact FD (fun j hj _=>hall j hj)
  .rw[m.get id,run.heap id,hsz];exact FD (fun j hj _=>hall j hj)
 have stuck: ∀(listed:Array Bool),listed.size=ops.size->Region.ready .any ops listed=[]->∀j,j<ops.size->listed.getD j false=true:=by
  intro listed hls hr j hj;cases hp:listed.getD j false with
  |true=>rfl
  |false=>
   obtain⟨k,h1,h2,h3⟩:=a1a (p:=fun j=>listed.getD j false) ⟨j,hj,hp⟩;have:k∈Region.ready .any ops listed:=by
    rw[mem_ready];refine⟨?_,ops[k],by simp [h1],fun e he hb=> ?_⟩
    .have h2:listed.getD k false=false:=h2;rw[aRJ] at h2|-;rw[aSy pF] at h2|-;exact h2
    .have:=a06 haf k ops[k] (by simp [h1]) e he hb;exact h3 e.on pF
   rw[hr] at this;cases this
 intro fuel
 induction fuel with
 |zero=>
  intro listed g w a env H hu m;have hall:=a08 (l:=listed) (n:=ops.size) pF;refine⟨?_,done listed g w a env H m hall⟩;cases hr:Region.ready .any ops listed with
  |nil=>rfl
  |cons i r=>
   have:i∈Region.ready .any ops listed:=by rw[hr];simp
   obtain⟨h0,o,ho,_⟩:=mem_ready.1 this;have hi:i<ops.size:=(aRC.1 ho).1;have:=hall i hi;rw[aRJ] at this h0;rw[aSy (by rw[m.size];exact hi)] at this h0;simp at this h0;rw[this] at h0;cases h0
 |succ fuel ih=>
  intro listed g w a env H hu m;refine⟨fun hr=>done listed g w a env H m (stuck listed m.size hr),fun i hi=> ?_⟩;obtain⟨h0,o,ho,hall⟩:=mem_ready.1 hi;have hin:i<ops.size:=(aRC.1 ho).1;have hil:i<listed.size:=by rw[m.size];exact hin
  have hpi:listed.getD i false=false:=by
   rw[aRJ] at h0|-;rw[aSy hil] at h0|-;exact h0
  have hoL:ops.toList[i]? =some o:=by simpa using ho
  obtain⟨e,he⟩: ∃e,es[i]? =some e:=⟨es[i]'(by rw[run.len,hsz];exact hin),by simp⟩;obtain⟨sk,st⟩:=run.step i o e hoL he;have hcl':VT ops.toList (fun j=>(listed.setIfInBounds i true).getD j false):=by
   intro j o' ho' hj ed hed hb;simp only[AV hil] at hj|-;by_cases hji:j=i
   .subst hji;rw[hoL] at ho';obtain rfl:=aRi ho';have:=hall ed hed hb;split
    .rfl
    .exact this
   .rw[aRk hji] at hj;have:=m.closed j o' ho' hj ed hed hb;split
    .rfl
    .exact this
  have hbef: ∀j,((Region.before ops).toList.getD i 0).testBit j=true->j≠i->listed.getD j false=true:=by
   intro j hj hne;have:=VU hcl' hj (by simp only[AV hil];simp);simp only[AV hil,aRk hne] at this;exact this
  have haft: ∀j,((Region.before ops).toList.getD j 0).testBit i=true->listed.getD j false=true->False:=by
   intro j hj hl;have:=VU m.closed hj hl;rw[hpi] at this;cases this
  have pairLt: ∀j p f,j<i->ops.toList[j]? =some p->es[j]? =some f->listed.getD j false=true\/(p.apart ops o=true/\A5 f e=true/\DW (s.nb+32*j) e.upd=true):=by
   intro j p f hji hp hf;rcases a05 hfr j i p f o e hji hp hf hoL he with h1|h1
   .rw[aRP,aRP] at h1;exact .inl (hbef j h1 pF)
   .rw[aRP] at h1;exact .inr h1
  have pairGt: ∀j p f,i<j->ops.toList[j]? =some p->es[j]? =some f->listed.getD j false=true->o.apart ops p=true/\A5 e f=true:=by
   intro j p f hij hp hf hl;rcases a05 hfr i j o e p f hij hoL he hp hf with h1|h1
   .rw[aRP,aRP] at h1;exact(haft j h1 hl).elim
   .exact⟨h1.1,h1.2.1⟩
  have same: ∀{α:Type}(wr:Nat->Option α) (b:α),(∀j p f,j<i->ops.toList[j]? =some p->es[j]? =some f->wr j≠none->p.apart ops o=true->A5 f e=true->False)->
    (∀j p f,i<j->ops.toList[j]? =some p->es[j]? =some f->wr j≠none->o.apart ops p=true->A5 e f=true->False)->(∀j,wr j≠none->∃f,es[j]? =some f)->
    uO (fun j=>listed.getD j false) wr b ops.size=uO (fun _=>true) wr b i:=by
   intro α wr b hlt hgt hex;rw[<-VQ (n:=ops.size) pF];refine FD (fun j hj hw=> ?_);obtain⟨f,hf⟩:=hex j hw;have hpj:ops.toList[j]? =some ops[j]:=by simp [hj]
   rcases Nat.lt_trichotomy j i with h1|h1|h1
   .rw[aRF h1];rcases pairLt j _ f h1 hpj hf with h2|h2
    .exact h2
    .exact(hlt j _ f h1 hpj hf hw h2.1 h2.2.1).elim
   .subst h1;simp [hpi]
   .have: ¬j<i:=by omega
    rw[decide_eq_false this];cases hl:listed.getD j false with
    |false=>rfl
    |true=>
     obtain⟨h2,h3⟩:=pairGt j _ f h1 hpj hf hl;exact(hgt j _ f h1 hpj hf hw h2 h3).elim
  have exS: ∀t j,xS ops.toList es t j≠none->∃f,es[j]? =some f:=by
   intro t j h;unfold xS at h;cases hf:es[j]? with
   |none=>rw[hf] at h;exact absurd (by split<;>first|rfl|(rename_i h1;cases h1)) h
   |some f=>exact⟨f,rfl⟩
  have exH: ∀t j,vZ es t j≠none->∃f,es[j]? =some f:=by
   intro t j h;unfold vZ at h;cases hf:es[j]? with
   |none=>rw[hf] at h;exact absurd rfl h
   |some f=>exact⟨f,rfl⟩
  have dS: ∀t j p f,ops.toList[j]? =some p->es[j]? =some f->xS ops.toList es t j≠none->p.dst=some t:=by
   intro t j p f hp hf h;unfold xS at h;rw[hp,hf] at h;simp only at h;split at h
   .assumption
   .exact absurd rfl h
  have dH: ∀id j f,es[j]? =some f->vZ es id j≠none->id∈qE (wJ f):=by
   intro id j f hf h;unfold vZ at h;rw[hf] at h;simp only at h;split at h
   .assumption
   .exact absurd rfl h
  have hrds: ∀id∈e.rds,qD H id=qD sk.H id:=fun id hid=>by
   rw[m.get id,st.heap id];refine same _ _ (fun j p f _ hp hf hw _ ha=> ?_) (fun j p f _ hp hf hw _ ha=> ?_) (exH id)
   .exact((GK ha).1 id (dH id j f hf hw)).1 hid
   .exact(GK ha).2 id (dH id j f hf hw) hid
  have hev:yH T Γ ops.toList o ⟨env,H,s.nb+32*i,s.N,s.np⟩=some e:=by
   refine VP st.ev (fun t ht=> ?_) (fun id hid=> ?_) st.nb.symm st.np.symm
   .show lk env t=_;rw[m.look t,st.env t];refine same _ _ (fun j p f _ hp hf hw ha _=> ?_) (fun j p f _ hp hf hw ha _=> ?_) (exS t)
    .exact(Oper.apart_spec ha).1 t (dS t j p f hp hf hw) ht
    .exact(Oper.apart_spec ha).2.2 t (dS t j p f hp hf hw) ht
   .exact hrds id hid
  have hfresh:yX g (s.nb+32*i) e:=fun id hid hle=>m.free i hin hpi id hle (IH st.ids hid);have key:=a0O hT hΓ (ops:=ops.toList) (o:=o) (a:=a) (s:=⟨env,H,s.nb+32*i,s.N,s.np⟩) (K:=wpAnyIn (CG ro) 0 P .any ops Q fuel (listed.setIfInBounds i true)) (Q:=Q) m.eok m.heap hev (fun p hp=>hs p (st.side p hp)) hfresh (fun g' w' v k=>by
   refine ih (listed.setIfInBounds i true) g' w' (a.put o.dst v) (tN o.dst e.slot env) (qT e.upd H) ?_ ⟨by rw[Array.size_setIfInBounds];exact m.size,hcl',VO m.eok k.le k.slot m.tmps st.dst,fun t=> ?_,k.heap,fun id=> ?_,(a0S _ _ _).trans m.tmps,by rw[a0T];exact m.def_.eff m.heap k,m.good.eff k (m.len▸(N2 hev).2),m.len,fun j hj hjp id h1 h2=> ?_,fun id hid=> ?_⟩
   .have:=a09 hil hpi hin;omega
   .rw[a03,N3 (p:=fun j=>listed.getD j false) (i:=i) hpi (fun j=>by simp only[AV hil]) hin (fun j hij hj hl=> ?_),<-m.look t]
    .unfold xS;rw[hoL,he];simp only;split<;>rfl
    .have hpj:ops.toList[j]? =some ops[j]:=by simp [hj]
     obtain⟨f,hf⟩: ∃f,es[j]? =some f:=⟨es[j]'(by rw[run.len,hsz];exact hj),by simp⟩;obtain⟨h3,_⟩:=pairGt j _ f hij hpj hf hl;by_cases hw:xS ops.toList es t j=none
     .exact .inl hw
     .right;have hd:=dS t j _ f hpj hf hw;by_cases hwi:xS ops.toList es t i=none
      .exact hwi
      .have hdi:=dS t i _ e hoL he hwi;exact absurd hd ((Oper.apart_spec h3).2.1 t hdi)
   .rw[KJ,N3 (p:=fun j=>listed.getD j false) (i:=i) hpi (fun j=>by simp only[AV hil]) hin (fun j hij hj hl=> ?_),<-m.get id]
    .unfold vZ;rw[he];simp only;by_cases h7:id∈qE (wJ e)
     .rw[aRf h7,aRf (II.1 h7).1];rfl
     .rw[aRk h7];by_cases h8:id∈qE e.upd
      .obtain⟨q1,q2⟩:=st.same id h8 h7;rw[aRf h8,q1,<-hrds id q2];rfl
      .rw[aRk h8];rfl
    .have hpj:ops.toList[j]? =some ops[j]:=by simp [hj]
     obtain⟨f,hf⟩: ∃f,es[j]? =some f:=⟨es[j]'(by rw[run.len,hsz];exact hj),by simp⟩;obtain⟨_,h3⟩:=pairGt j _ f hij hpj hf hl;by_cases hw:vZ es id j=none
     .exact .inl hw
     .right;have hd:=dH id j f hf hw;by_cases hwi:vZ es id i=none
      .exact hwi
      .have hdi:=dH id i e he hwi;exact absurd (II.1 hd).1 ((GK h3).1 id hdi).2
   .rw[AV hil] at hjp;have hji:j≠i:=fun h=>by rw[aRf h] at hjp;cases hjp
    rw[aRk hji] at hjp;have hnot:id∉qE e.upd:=by
     intro hm;have hlt:=IH st.ids hm;rcases Nat.lt_or_gt_of_ne hji with h3|h3
     .obtain⟨f,hf⟩: ∃f,es[j]? =some f:=⟨es[j]'(by rw[run.len,hsz];exact hj),by simp⟩;rcases pairLt j ops[j] f h3 (by simp [hj]) hf with h4|h4
      .rw[hjp] at h4;cases h4
      .have:=a07 h4.2.2 id hm;omega
     .omega
    have hg:=k.gho id hnot;have hb:=m.free j hj hjp id h1 h2;exact⟨hg.1.trans hb.1,fun n=>by rw[hg.2];exact hb.2 n⟩
   .have hnot:id∉qE e.upd:=fun hm=>by have:=IH st.ids hm;omega
    have hg:=k.gho id hnot;have hb:=m.top id hid;exact⟨hg.1.trans hb.1,fun n=>by rw[hg.2];exact hb.2 n⟩)
  unfold wpOpIn;rw[ho];simp only[aSE] at key|-;split at key
  .rename_i hw;rw[aRf hw];exact a0X (a0W hev) key
  .rename_i hw;rw[aRk hw];exact⟨fun _ _=>trivial,key⟩
theorem aKl {ro:pO}(hm:P.follows .mixedOrders=true) {id:Nat}{ops:Array Oper}{s:St}{y:vH}{a:Act}{w:pQ}{g:Gh}(h:uS T Γ ops.toList ops.toList (some ⟨s,[],[]⟩)=some y) (hchk:F9 ops s.nb y.es.reverse=true) (hs: ∀p∈y.side,p) (hr:v8 B g w s a) (hg:tH A L g0 w0 g w s.H) (hn:L.length=s.np)
  (hQ: ∀g' a' w',v8 B g' w' y.s a'->tH A L g0 w0 g' w' y.s.H->Q .normal a' w'):(Code.region id ops true).wpIn (CG ro) 0 P Q a w:=by
 obtain⟨es,h1,run⟩:=Q8 h hs;have hes:y.es.reverse=es:=by rw[h1];simp
 simp only at run;rw[hes] at hchk;have hsd:=E6 h;have hrep: ∀j,(Array.replicate ops.size false).getD j false=false:=by
  intro j;rw[aRJ,Array.getElem?_replicate];split<;>rfl
 have none: ∀{α:Type}(wr:Nat->Option α) (b:α) n,uO (fun j=>(Array.replicate ops.size false).getD j false) wr b n=b:=by
  intro α wr b n
  induction n with
  |zero=>rfl
  |succ n ih=>simp only[uO];rw[aRk (by rw[hrep];simp)];exact ih
 have hsz:ops.toList.length=ops.size:=aRQ;refine wpIn_region_any hm (aKk hT hΓ run hs hchk (fun g' a' w' env H he hl hh hgt hz hd hgd htop=> ?_) _ _ g _ a s.env s.H ?_ ⟨by simp,fun j o ho hj=> ?_,fun t=>BC (a1b g w _) (hr.env t),fun t=> ?_,hr.heap.drawn _,fun id=> ?_,hr.size,hr.def_.same (fun _ h=>h),hg.drawn _,hn,fun j _ _ id h1 _=>hr.nb id pF,fun id h1=>hr.nb id pF⟩)
 .refine hQ g' a' w' ⟨fun t=>by rw[<-hl t];exact he t,hh.ext (fun i=>(hgt i).symm),by rw[hsd.2.1];exact hz,fun i hi=>htop i ?_,hd,?_⟩ (hgd.ext (fun i=>(hgt i).symm))
  .rw[run.nb,hsz] at hi;exact hi
  .rw[hsd.2.2,run.nb];exact aSe hr.np (Nat.le_add_right _ _)
 .have: ∀n (l:Array Bool),AU l n<=n:=by
   intro n l
   induction n with
   |zero=>exact aRE _
   |succ n ih=>simp only[AU];split<;>omega
  exact this _ _
 .simp only[hrep] at hj;cases hj
 .rw[none]
 .exact(none _ _ _).symm
end
theorem VW: ∀{l:List Prop},r7 l->∀p∈l,p
 |[p],h,q,hq=>by simp only[aRv] at hq;subst hq;exact h
 |p::q::r,h,x,hx=>by
  rcases aRu.1 hx with rfl|hx
  .exact h.1
  .exact VW h.2 x hx
theorem aBE {p:Nat->Prop}(h: ∃n,p n): ∃n,p n/\∀m,p m->n<=m:=by
 obtain⟨n,hn⟩:=h
 induction n using Nat.strongRecOn with
 |_ n ih=>
  by_cases hs: ∃m,m<n/\p m
  .obtain⟨m,hm,hp⟩:=hs;exact ih m hm hp
  .exact⟨n,hn,fun m hm=>Nat.le_of_not_lt fun hlt=>hs ⟨m,hlt,hm⟩⟩
noncomputable def Q9 (p:Nat->Prop):Nat:=open Classical in if h: ∃n,p n then(aBE h).choose else 0
theorem VX {p:Nat->Prop}(h: ∃n,p n):p (Q9 p)/\∀m,p m->Q9 p<=m:=by
 unfold Q9;rw[aTj h];exact(aBE h).choose_spec
def FE:Exit->Option Ex
 | .normal=>some .normal
 | .exit id=>some (.exit id)
 | .ret=>some .ret
 |_=>none
def KK (B:Nat) (A:Nat->Nat->Prop) (L:List q9) (g0:Gh) (w0:pQ) (Q:Ex->St->Prop) (x:Exit) (a:Act) (w:pQ):Prop:=
 ∃e g s,FE x=some e/\Q e s/\v8 B g w s a/\tH A L g0 w0 g w s.H/\s.np=L.length
section
variable {B:Nat}{P:Program}{T:sK}{Γ:tW}(hT:xH P T) (hΓ:D6 P Γ) (hm:P.follows .mixedOrders=true) {A:Nat->Nat->Prop}{L:List q9}{g0:Gh}{w0:pQ}
include hT hΓ hm
theorem GL {ro:pO}: ∀(c:Code) (s:St) (Q:Ex->St->Prop) (g:Gh) (a:Act) (w:pQ),wT T Γ c s Q->v8 B g w s a->tH A L g0 w0 g w s.H->s.np=L.length->c.wpIn (CG ro) 0 P (KK B A L g0 w0 Q) a w
 | .skip,s,Q,g,a,w,h,hr,hg,hn=>by
  unfold wT at h;exact wpIn_skip ⟨.normal,g,s,rfl,h,hr,hg,hn⟩
 | .label l,s,Q,g,a,w,h,hr,hg,hn=>by
  unfold wT at h;exact wpIn_label ⟨.normal,g,s,rfl,h,hr,hg,hn⟩
 | .exit id,s,Q,g,a,w,h,hr,hg,hn=>by
  unfold wT at h;exact wpIn_exit ⟨.exit id,g,s,rfl,h,hr,hg,hn⟩
 | .ret,s,Q,g,a,w,h,hr,hg,hn=>by
  unfold wT at h;exact wpIn_ret ⟨.ret,g,s,rfl,h,hr,hg,hn⟩
 | .region id ops draw,s,Q,g,a,w,h,hr,hg,hn=>by
  unfold wT at h;cases draw with
  |false=>
   simp only[PI] at h;cases hy:uS T Γ ops.toList ops.toList (some ⟨s,[],[]⟩) with
   |none=>rw[hy] at h;cases h
   |some y=>
    rw[hy] at h;refine aJ8 hT hΓ hy (VW h.1) hr hg hn.symm (fun g' a' w' hr' hg'=>⟨.normal,g',y.s,rfl,h.2,hr',hg',(E6 hy).2.2.trans hn⟩)
  |true=>
   simp only[PI] at h;cases hy:uS T Γ ops.toList ops.toList (some ⟨s,[],[]⟩) with
   |none=>rw[hy] at h;cases h
   |some y=>
    rw[hy] at h;simp only[a9S] at h;by_cases hc:F9 ops s.nb y.es.reverse=true
    .rw[aRf hc] at h;refine aKl hT hΓ hm hy hc (VW h.1) hr hg hn.symm (fun g' a' w' hr' hg'=>⟨.normal,g',y.s,rfl,h.2,hr',hg',(E6 hy).2.2.trans hn⟩)
    .rw[aRk hc] at h;cases h
 | .seq x y,s,Q,g,a,w,h,hr,hg,hn=>by
  unfold wT at h;refine wpIn_seq (aST (GL x s _ g a w h hr hg hn) fun e a' w' hp=> ?_);obtain⟨e',g',s',h1,h2,h3,h4,h5⟩:=hp;cases e<;>simp only[FE,aRd] at h1
  case normal=>subst h1;exact GL y s' Q g' a' w' h2 h3 h4 h5
  case exit id=>subst h1;exact⟨.exit id,g',s',rfl,h2,h3,h4,h5⟩
  case ret=>subst h1;exact⟨.ret,g',s',rfl,h2,h3,h4,h5⟩
  all_goals cases h1
 | .cond c x y,s,Q,g,a,w,h,hr,hg,hn=>by
  unfold wT at h;have hc:=zR hr.env c;generalize uF s.env c=sc at h hc;unfold a9Z at h;split at h
  .exact wpIn_cond_split (vY hc.1) (fun ht=>GL x s Q g a w (h.1 ht) hr hg hn) (fun ht=>GL y s Q g a w (h.2 ht) hr hg hn)
  .obtain⟨b,hb,hp,hq⟩:=hc.1;exact wpIn_cond_split hb (fun ht=>GL x s Q g a w (h.1 (hp ht)) hr hg hn) (fun ht=>GL y s Q g a w (h.2 (hq ht)) hr hg hn)
  .cases h
 | .block id c,s,Q,g,a,w,h,hr,hg,hn=>by
  unfold wT at h;refine wpIn_block (aST (GL c s _ g a w h hr hg hn) fun e a' w' hp=> ?_);obtain⟨e',g',s',h1,h2,h3,h4,h5⟩:=hp;cases e<;>simp only[FE,aRd] at h1
  case normal=>subst h1;exact⟨.normal,g',s',rfl,h2,h3,h4,h5⟩
  case exit j=>
   subst h1;simp only[IA] at h2;simp only[Exit.inBlock];split
   .rename_i hj;rw[aRf hj] at h2;exact⟨.normal,g',s',rfl,h2,h3,h4,h5⟩
   .rename_i hj;rw[aRk hj] at h2;exact⟨.exit j,g',s',rfl,h2,h3,h4,h5⟩
  case ret=>subst h1;exact⟨.ret,g',s',rfl,h2,h3,h4,h5⟩
  all_goals cases h1
 | .loop c,s,Q,g,a,w,h,hr,hg,hn=>by
  unfold wT at h;obtain⟨k,I,μ,h0,hround⟩:=h;obtain⟨g1,k1,k2,k3,_⟩:=E5 hr hg hn k
  let R:Act->pQ->Nat->Prop:=fun a w n=> ∃g s,I s/\μ s=n/\v8 B g w s a/\tH A L g0 w0 g w s.H/\s.np=L.length
  refine wpIn_loop (fun a w=> ∃n,R a w n) (fun a w=>Q9 (R a w)) ⟨_,g1,s.keep k,h0,rfl,k1,k2,k3⟩ (fun a w hI=> ?_);obtain⟨⟨g2,s2,i1,i2,i3,i4,i5⟩,_⟩:=VX hI;refine aST (GL c s2 _ g2 a w (hround s2 i1) i3 i4 i5) fun e a' w' hp=> ?_;obtain⟨e',g',s',h1,h2,h3,h4,h5⟩:=hp;cases e<;>simp only[FE,aRd] at h1
  case normal=>
   subst h1;obtain⟨k',j1,j2⟩:=h2;obtain⟨g3,l1,l2,l3,_⟩:=E5 h3 h4 h5 k';have hR:R a' w' (μ (s'.keep k')):=⟨g3,s'.keep k',j1,rfl,l1,l2,l3⟩;refine⟨⟨_,hR⟩,Nat.lt_of_le_of_lt ((VX ⟨_,hR⟩).2 _ hR) (by rw[<-i2];exact j2)⟩
  case exit id=>subst h1;exact⟨.exit id,g',s',rfl,h2,h3,h4,h5⟩
  case ret=>subst h1;exact⟨.ret,g',s',rfl,h2,h3,h4,h5⟩
  all_goals cases h1
 | .rangeFunc _ _ _ _,_,_,_,_,_,h,_,_,_=>by unfold wT at h;cases h
 | .scope _,_,_,_,_,_,h,_,_,_=>by unfold wT at h;cases h
 | .goto _,_,_,_,_,_,h,_,_,_=>by unfold wT at h;cases h
 | .refuse _,_,_,_,_,_,h,_,_,_=>by unfold wT at h;cases h
end
section
variable {f:St->Prop}{Q:Ex->St->Prop}{s:St}{id j:Nat}{I:St->Prop}{μ:St->Nat}{m:Nat}
theorem qO (h:f s):PM f Q .normal s:=h
theorem uI (h:Q (.exit j) s):PM f Q (.exit j) s:=h
theorem rQ (h:Q .ret s):PM f Q .ret s:=h
theorem rT (h:Q .normal s):IA id Q .normal s:=h
theorem uU (h:Q .normal s):IA id Q (.exit id) s:=by show (if id=id then Q .normal s else Q (.exit id) s);rw[aRf rfl];exact h
theorem aBF (hne:j≠id) (h:Q (.exit j) s):IA id Q (.exit j) s:=by show (if j=id then Q .normal s else Q (.exit j) s);rw[aRk hne];exact h
theorem s8 (h:Q .ret s):IA id Q .ret s:=h
end
@[go_sem] def rM:Nat->List qB->List (Nat×qB)
 |_,[]=>[]
 |c,s::r=>(c,s)::rM (c+1) r
@[go_sem] def w3:Nat->List q9->pK
 |_,[]=>[]
 |c,_::L=>(c,c)::w3 (c+1) L
@[go_sem] def QA (m:pK):List qB->Prop
 |[]=>True
 |s::r=>A6 m s=s/\QA m r
@[go_sem] def QB (m:pK):List q9->Prop
 |[]=>True
 | .dead::_=>False
 |b::r=>I9 m (some b)=b/\QB m r
def rO:List q9->Prop
 |[]=>True
 | .row _ _ l n::r=>n=List.length l/\rO r
 |_::r=>rO r
theorem aBG {g:Gh}{w:pQ}: ∀{L:List q9},(∀(i:Nat) b,L[i]? =some b->∃j,A8 g w j b)->rO L
 |[],_=>trivial
 |b::L,h=>by
  have h1:=aBG (L:=L) fun i b' hb=>h (i+1) b' (by simpa using hb);obtain⟨j,h0⟩:=h 0 b rfl;cases b with
  |row e t l n=>exact⟨h0.1.symm,h1⟩
  |_=>exact h1
def a1c:pM->pR
 |[v]=>v
 |l=> .tuple l.toArray
attribute [go_sem] qM
@[go_sem] def aBH:qB->Int
 |(.val (.int _) n,_)=>n
 |_=>0
theorem aBI: ∀(l:List qB) (c t:Nat),lk (rM c l) t=if c<=t then(l[t-c]?).getD (.any,none) else(.any,none)
 |[],c,t=>by simp [rM,lk]
 |s::l,c,t=>by
  simp only[rM,lk];by_cases h:c=t
  .subst h;simp
  .rw[aRk h,aBI l (c+1) t];by_cases h2:c<=t
   .rw[aRf h2,aRf pF];obtain⟨d,hd⟩: ∃d,t-c=d+1:=⟨t-c-1,pF⟩;rw[hd,aRY,show t- (c+1)=d by omega]
   .rw[aRk h2,aRk pF]
theorem N4: ∀{L:List q9}{c i j:Nat},(i,j)∈w3 c L↔i=j/\c<=i/\i<c+L.length
 |[],c,i,j=>by simp only[w3,aSO,aRq,false_iff];omega
 |b::L,c,i,j=>by
  simp only[w3,aRu,aRR,N4,aRj];omega
theorem VY: ∀{L:List q9}{c:Nat},xQ 0 (w3 c L)=true
 |[],_=>rfl
 |b::L,c=>by
  simp only[w3,xQ,aRw];refine⟨⟨by simp,?_⟩,VY⟩;have: ∀{m:pK},(∀i j,(i,j)∈m->i≠c/\j≠c)->MN c c m=false:=by
   intro m
   induction m with
   |nil=>intro _;rfl
   |cons q m ih=>
    intro h;obtain⟨i,j⟩:=q;have:=h i j pH;simp only[MN,ih (fun i j hm=>h i j (aRo _ hm)),decide_eq_false this.1,decide_eq_false this.2];rfl
  rw[this]
  .rfl
  .intro i j hm;obtain⟨rfl,h1,_⟩:=N4.1 hm;omega
theorem aBJ {m:pK}: ∀{l:List qB},QA m l->∀s∈l,A6 m s=s
 |x::l,h,s,hs=>by
  rcases aRu.1 hs with rfl|hs
  .exact h.1
  .exact aBJ h.2 s hs
theorem KL {m:pK}: ∀{l:List q9},QB m l->∀b∈l,I9 m (some b)=b/\b≠.dead
 |x::l,h,b,hb=>by
  cases x with
  |dead=>exact h.elim
  |cells t y ts=>
   rcases aRu.1 hb with rfl|hb
   .exact⟨h.1,fun h=>by cases h⟩
   .exact KL h.2 b hb
  |row e t l n=>
   rcases aRu.1 hb with rfl|hb
   .exact⟨h.1,fun h=>by cases h⟩
   .exact KL h.2 b hb
  |map k v l=>
   rcases aRu.1 hb with rfl|hb
   .exact⟨h.1,fun h=>by cases h⟩
   .exact KL h.2 b hb
  |iter s n=>
   rcases aRu.1 hb with rfl|hb
   .exact⟨h.1,fun h=>by cases h⟩
   .exact KL h.2 b hb
  |grow e c n=>
   rcases aRu.1 hb with rfl|hb
   .exact⟨h.1,fun h=>by cases h⟩
   .exact KL h.2 b hb
theorem QC {g:Gh}{w:pQ}: ∀{ss:List qB}{vs:pM},vL g w ss vs->vs.length=ss.length/\∀(i:Nat) s,ss[i]? =some s->∃v,vs[i]? =some v/\rH g w s v
 |[],vs,h=>by rw[show vs=[] from h];exact⟨rfl,fun i s h=>by simp at h⟩
 |s::ss,vs,⟨v,vs',e,h1,h2⟩=>by
  subst e;obtain⟨h3,h4⟩:=QC h2;refine⟨by simp [h3],fun i s' hi=> ?_⟩;cases i with
  |zero=>simp only[aRM,aRd] at hi;subst hi;exact⟨v,rfl,h1⟩
  |succ i=>simp only[aRY] at hi|-;exact h4 i s' hi
theorem QD: ∀(L:List q9),qY L=L.length
 |[]=>rfl
 |_::L=>by simp only[qY,aRj,QD L]
theorem aKm {g:Gh}{w:pQ}{args:List qB}{vals:pM}{L:List q9}{N:Nat}(hH:sE g w (qM 0 L)) (ha:vL g w args vals) (hs:QA (w3 0 L) args) (hb:QB (w3 0 L) L) (hN:args.length<=N):
  v8 w.heap.size (uT g 0 (w3 0 L)) w ⟨rM 0 args,qM 0 L,qY L,N,qY L⟩ {tmps:=vals.toArray++Array.replicate (N-vals.toArray.size) undef,defers:=[]}/\
  (∀i blk,L[i]? =some blk->(uT g 0 (w3 0 L)).J i=g.J i/\A8 (uT g 0 (w3 0 L)) w i blk/\∀b o,sA (uT g 0 (w3 0 L)) i blk b o->sA g i blk b o):=by
 have hk:xQ 0 (w3 0 L)=true:=VY;have hmem: ∀i blk,L[i]? =some blk->(i,i)∈w3 0 L:=fun i blk h=>N4.2 ⟨rfl,pF,by have:=(aRs.1 h).1;omega⟩;have hblk: ∀i blk,L[i]? =some blk->A8 (uT g 0 (w3 0 L)) w i blk/\∀b o,sA (uT g 0 (w3 0 L)) i blk b o->sA g i blk b o:=by
  intro i blk h;have hr:=(KL hb blk (List.mem_of_getElem? h)).1;have:=KI (g:=g) (w:=w) hk (hmem i blk h) (b:=some blk) (fun c hc=>by cases hc;exact hH.blk i blk (by rw[x9];exact h));rw[hr] at this;exact⟨this.1,fun b o ho=>by obtain⟨c,hc,hco⟩:=this.2 b o ho;cases hc;exact hco⟩
 obtain⟨hl,hv⟩:=QC ha;refine⟨⟨fun t=> ?_,⟨fun i b h=> ?_,fun i j bi bj b o hij h1 h2 o1 o2=> ?_,hH.sl,hH.tab.1,fun i blk b o hg ho=>hH.tab.2 i blk b o hg ((hblk i blk (by rw[<-x9];exact hg)).2 b o ho)⟩,?_,fun i hi=> ?_,a0L _ _,aRE _⟩,fun i blk h=>⟨(AT hk (hmem i blk h)).1,hblk i blk h⟩⟩
 .rw[aBI,aRf (aSo _),Nat.sub_zero];cases ht:args[t]? with
  |none=>exact⟨trivial,trivial⟩
  |some s=>
   obtain⟨v,hv1,hv2⟩:=hv t s ht;have hlt:t<vals.length:=(aRs.1 hv1).1;have:(vals.toArray++Array.replicate (N-vals.toArray.size) undef).getD t undef=v:=by
    rw[aRJ,Array.getElem?_append_left (by simpa using hlt)];simp [hv1]
   simp only[aTk];rw[this];have:=VL hk hv2;rw[aBJ hs s (List.mem_of_getElem? ht)] at this;exact this
 .rw[x9] at h;exact(hblk i b h).1
 .rw[x9] at h1 h2;exact hH.dis i j bi bj b o hij (by rw[x9];exact h1) (by rw[x9];exact h2) ((hblk i bi h1).2 b o o1) ((hblk j bj h2).2 b o o2)
 .simp only[aS6,Array.size_replicate,aR7];omega
 .have hold:zS (w3 0 L) i=none:=by
   cases ho:zS (w3 0 L) i with
   |none=>rfl
   |some o=>
    obtain⟨rfl,_,h2⟩:=N4.1 (a0R ho);have hi:qY L<=i:=hi;rw[QD] at hi;omega
  refine⟨?_,fun n=> ?_⟩
  .show (if i<0 then g.J i else(zS (w3 0 L) i).bind g.J)=none;rw[aRk pF,hold];rfl
  .show (if i<0 then g.cur i n else(zS (w3 0 L) i).bind fun o=>g.cur o n)=none;rw[aRk pF,hold];rfl
structure uA (B:Nat) (w w':pQ):Prop where
 os:w'.os=w.os
 tape:w'.tape=w.tape
 output:w'.output=w.output
 size:w.heap.size<=w'.heap.size
 blk: ∀b,b<w.heap.size->w'.heap[b]? =w.heap[b]? \/(B<=b/\NG<=b/\∃o o',w.heap[b]? =some o/\w'.heap[b]? =some o'/\GJ o=true/\GJ o'=true)
theorem aBK {w:pQ}{b:Nat}{ob:Obj}(hd:w.heap[b]? =some ob) (hm:GJ ob=true) (o:Nat):w.frozen? ⟨b,o,none⟩=false:=by
 unfold World.frozen?;simp only[hd];cases ob<;>first|rfl|cases hm
theorem aKn {w:pQ}{b:Nat}{ob:Obj}(hd:w.heap[b]? =some ob) (hm:GJ ob=true):w.shape? b=none:=by
 unfold World.shape?;simp only[hd];cases ob<;>first|rfl|cases hm
section
variable {B:Nat}{w w' w'':pQ}
theorem uA.refl (B:Nat) (w:pQ):uA B w w:=⟨rfl,rfl,rfl,aRE _,fun _ _=> .inl rfl⟩
theorem uA.trans (h:uA B w w') (k:uA B w' w''):uA B w w'':=by
 refine⟨k.os.trans h.os,k.tape.trans h.tape,k.output.trans h.output,aSe h.size k.size,fun b hb=> ?_⟩;rcases k.blk b (aRT hb h.size) with k1|⟨k0,k1,o,o',k2,k3,k4,k5⟩
 .rcases h.blk b hb with h1|⟨h0,h1,o,o',h2,h3,h4,h5⟩
  .exact .inl (k1.trans h1)
  .exact .inr ⟨h0,h1,o,o',h2,k1.trans h3,h4,h5⟩
 .rcases h.blk b hb with h1|⟨h0,h1,p,p',h2,h3,h4,h5⟩
  .exact .inr ⟨k0,k1,o,o',h1▸k2,k3,k4,k5⟩
  .exact .inr ⟨h0,h1,p,o',h2,k3,h4,k5⟩
theorem uA.cell (t:uA B w w') {b:Nat}(hb:b<w.heap.size) (o:Nat):w'.cell? ⟨b,o,none⟩=w.cell? ⟨b,o,none⟩/\w'.frozen? ⟨b,o,none⟩=w.frozen? ⟨b,o,none⟩:=by
 rcases t.blk b hb with h|⟨_,_,o1,o2,h1,h2,m1,m2⟩
 .exact⟨aRH h,by unfold World.frozen?;simp only[h]⟩
 .exact⟨by rw[a0M h1 m1,a0M h2 m2],by rw[aBK h1 m1,aBK h2 m2]⟩
theorem uA.shape (t:uA B w w') {b:Nat}{s:TypeId×Nat}(h:w.shape? b=some s):w'.shape? b=some s:=by
 have hb:b<w.heap.size:=by
  unfold World.shape? at h;cases hx:w.heap[b]? with
  |none=>rw[hx] at h;cases h
  |some _=>exact(aRC.1 hx).1
 rcases t.blk b hb with k|⟨_,_,o1,o2,h1,h2,m1,m2⟩
 .unfold World.shape? at h|-;rw[k];exact h
 .rw[aKn h1 m1] at h;cases h
theorem uA.le (t:uA B w w') {g:Gh}(hs: ∀b o,g.S b o->b<w.heap.size):Le g w g w':=⟨fun _ _ h=>h,fun b o h=>(t.cell (hs b o h) o).1,fun _ _ h=>h,fun _ _ _ h=>h⟩
theorem uA.heapOk (t:uA B w w') {g:Gh}{H:s7}(h:sE g w H):sE g w' H:=by
 have own: ∀{i blk b o},qD H i=some blk->sA g i blk b o->w'.heap[b]? =w.heap[b]? :=fun hg ho=>by
  rcases t.blk _ (KC (h.blk _ _ hg) ho) with k|⟨_,_,o1,o2,h1,_,m1,_⟩
  .exact k
  .exact(VI (h.blk _ _ hg) ho h1 m1).elim
 refine⟨fun i blk hb=>MP (h.blk i blk hb) (t.le h.sl) rfl rfl (fun b o ho=>t.cell (KC (h.blk i blk hb) ho) o) (fun b ho=>own hb (ho 0)) (fun _ _ _ x=>x) (fun b o s _ x=>t.shape x),h.dis,fun b o x=>aRT (h.sl b o x) t.size,JS h.tab.1 t.size (fun b hb=> ?_),h.tab.2⟩;rcases t.blk b (aRT hb h.tab.1.1) with k|⟨_,k,_⟩
 .exact k
 .omega
theorem v8.turn {g:Gh}{s:St}{a:Act}{ds:List Deferred}(h:v8 B g w s a) (t:uA B w w') (hd:y9 B w' ds):v8 B g w' s {a with defers:=ds}:=
 ⟨fun x=>BC (t.le h.heap.sl) (h.env x),t.heapOk h.heap,h.size,h.nb,hd,h.np⟩
theorem tH.turn {A:Nat->Nat->Prop}{L:List q9}{g0 g:Gh}{w0:pQ}{H:s7}(h:tH A L g0 w0 g w H) (hs: ∀b o,g.S b o->b<w.heap.size) (t:uA w0.heap.size w w'):tH A L g0 w0 g w' H:=by
 refine⟨fun b o x=>⟨(h.shut b o x).1,(t.cell (hs b o (h.shut b o x).1) o).1.trans (h.shut b o x).2⟩,⟨t.os.trans h.fr.os,t.tape.trans h.fr.tape,t.output.trans h.fr.output,aSe h.fr.size t.size,fun b hb hA=> ?_,fun b o hb hA=> ?_,h.fr.new,fun b s x=> ?_⟩,h.perm,h.J,h.live,h.ty,h.cur⟩
 .rcases t.blk b (aRT hb h.fr.size) with k|⟨k,_⟩
  .exact k.trans (h.fr.blk b hb hA)
  .omega
 .have:=t.cell (aRT hb h.fr.size) o;have k:=h.fr.cell b o hb hA;exact⟨this.1.trans k.1,this.2.trans k.2⟩
 .rcases h.fr.shape b s x with k|k
  .exact .inl (t.shape k)
  .exact .inr k
end
theorem aBL {P:Program}{fn:Func}{R:Ending->pQ->Prop}{A:Nat->Nat->Prop}{L:List q9}{g0 g:Gh}{w0:pQ}{s:St}{tmps:Array pR}: ∀(ds:List Deferred) (w:pQ),v8 w0.heap.size g w s {tmps:=tmps,defers:=ds}->tH A L g0 w0 g w s.H->
  (∀w',v8 w0.heap.size g w' s {tmps:=tmps,defers:=[]}->tH A L g0 w0 g w' s.H->∃v,(results fn tmps).run P w'= .ok v w'/\R (.returned v) w')->LeavesInM Fence.wide 0 P fn tmps R ds .returning w
 |[],w,hr,hg,h=>h w hr hg
 |d::ds,w,hr,hg,h=>by
  obtain⟨hnd,hall⟩:=hr.def_;obtain⟨D,rfl,h1,h2,h3⟩:=hall d aRm;have hlt:=(aRC.1 h3).1;have t:uA w0.heap.size w (w.putObj D (.deferred none)):=by
   refine⟨rfl,rfl,rfl,by simp [World.putObj],fun b hb=> ?_⟩;by_cases e:b=D
   .subst e;exact .inr ⟨h1,h2,_,_,h3,World.putObj_heap_same hlt,rfl,rfl⟩
   .exact .inl (World.putObj_heap_other e)
  have hd:y9 w0.heap.size (w.putObj D (.deferred none)) ds:=by
   refine⟨(List.nodup_cons.1 hnd).2,fun d' hd'=> ?_⟩;obtain⟨D',rfl,k1,k2,k3⟩:=hall d' (aRo _ hd');refine⟨D',rfl,k1,k2,?_⟩;rw[World.putObj_heap_other (fun e:D'=D=>(List.nodup_cons.1 hnd).1 (by subst e;exact hd'))];exact k3
  exact⟨by simp,.inl ⟨D,_,rfl,run_takeDeferred h3,aBL ds _ (hr.turn t hd) (hg.turn hr.heap.sl t) h⟩⟩
def Ev (R:Bool) (P:Program) (c:Code) (s:St) (Q:Ex->St->Prop):Prop:=
 ∀(ro:pO),ro.isSome=R->
 ∀(A:Nat->Nat->Prop) (L:List q9) (g0:Gh) (w0:pQ) (g:Gh) (a:Act) (w:pQ) (B:Nat),B<=w0.heap.size->v8 B g w s a->tH A L g0 w0 g w s.H->s.np=L.length->c.wpIn (CG ro) 0 P (KK B A L g0 w0 Q) a w
variable {R:Bool}
theorem aBM {P:Program}{T:sK}{Γ:tW}(hT:xH P T) (hΓ:D6 P Γ) (hm:P.follows .mixedOrders=true) {c:Code}{s:St}{Q:Ex->St->Prop}(h:wT T Γ c s Q):Ev R P c s Q:=
 fun ro hro A L g0 w0 g a w B hB hr hg hn=>GL hT hΓ hm c s Q g a w h hr hg hn
structure rI (P:Program) (T:sK) (Γ:tW):Prop where
 T:xH P T
 Γ:D6 P Γ
 m:P.follows .mixedOrders=true
@[go_sem] def skS (l:pP) (Γ:tW) (f:Nat):Option qW:=if C1 f l=true then some ⟨[],fun _ _=>none,[],[],none⟩ else Γ f
theorem a1d {P:Program}{T:sK}{Γ:tW}{l:pP}(h:rI P T Γ) (hl:(l.all fun k=>decide (1000000000<=k))=true):rI P T (skS l Γ):=
 ⟨h.T,fun f s hlt hs=>by
  unfold skS at hs;split at hs
  .rename_i hm;have:=aRU (aRX.1 hl f (IE.1 hm));omega
  .exact h.Γ f s hlt hs,h.m⟩
theorem aKo {P:Program}{c:Code}{s:St}{Q Q':Ex->St->Prop}(h:Ev R P c s Q') (hq: ∀e s,Q' e s->Q e s):Ev R P c s Q:=by
 intro ro hro A L g0 w0 g a w B hB hr hg hn;refine aST (h ro hro A L g0 w0 g a w B hB hr hg hn) fun x a' w' hp=> ?_;obtain⟨e,g',s',h1,h2,h3,h4,h5⟩:=hp;exact⟨e,g',s',h1,hq e s' h2,h3,h4,h5⟩
theorem aBO {P:Program}{c:Code}{s:St}{Q:Ex->St->Prop}(k:wK) (h:Ev R P c (s.keep k) Q):Ev R P c s Q:=by
 intro ro hro A L g0 w0 g a w B hB hr hg hn;obtain⟨g1,k1,k2,k3,_⟩:=E5 hr hg hn k;exact h ro hro A L g0 w0 g1 a w B hB k1 k2 k3
section
variable {P:Program}{s:St}{Q:Ex->St->Prop}
theorem r8 (h:Q .normal s):Ev R P .skip s Q:=fun _ _ _ _ _ _ g _ _ _ _ hr hg hn=>wpIn_skip ⟨.normal,g,s,rfl,h,hr,hg,hn⟩
theorem uJ {id:Nat}(h:Q (.exit id) s):Ev R P (.exit id) s Q:=fun _ _ _ _ _ _ g _ _ _ _ hr hg hn=>wpIn_exit ⟨.exit id,g,s,rfl,h,hr,hg,hn⟩
theorem qR (h:Q .ret s):Ev R P .ret s Q:=fun _ _ _ _ _ _ g _ _ _ _ hr hg hn=>wpIn_ret ⟨.ret,g,s,rfl,h,hr,hg,hn⟩
theorem qS {x y:Code}(h:Ev R P x s (PM (fun s'=>Ev R P y s' Q) Q)):Ev R P (.seq x y) s Q:=by
 intro ro hro A L g0 w0 g a w B hB hr hg hn;refine wpIn_seq (aST (h ro hro A L g0 w0 g a w B hB hr hg hn) fun e a' w' hp=> ?_);obtain⟨e',g',s',h1,h2,h3,h4,h5⟩:=hp;cases e<;>simp only[FE,aRd] at h1
 case normal=>subst h1;exact h2 ro hro A L g0 w0 g' a' w' B hB h3 h4 h5
 case exit id=>subst h1;exact⟨.exit id,g',s',rfl,h2,h3,h4,h5⟩
 case ret=>subst h1;exact⟨.ret,g',s',rfl,h2,h3,h4,h5⟩
 all_goals cases h1
theorem aKp {c:Operand}{x y:Code}{b:Bool}{k:pO}(h:uF s.env c=(.val .bool b,k)) (ht:b=true->Ev R P x s Q) (hf:b=false->Ev R P y s Q):Ev R P (.cond c x y) s Q:=by
 intro ro hro A L g0 w0 g a w B hB hr hg hn;have hc:=zR hr.env c;rw[h] at hc;exact wpIn_cond_split (vY hc.1) (fun e=>ht e ro hro A L g0 w0 g a w B hB hr hg hn) (fun e=>hf e ro hro A L g0 w0 g a w B hB hr hg hn)
theorem aBP {c:Operand}{x y:Code}{p q:Prop}{k:pO}(h:uF s.env c=(.flag p q,k)) (ht:p->Ev R P x s Q) (hf:q->Ev R P y s Q):Ev R P (.cond c x y) s Q:=by
 intro ro hro A L g0 w0 g a w B hB hr hg hn;have hc:=zR hr.env c;rw[h] at hc;obtain⟨b,hb,hp,hq⟩:=hc.1;exact wpIn_cond_split hb (fun e=>ht (hp e) ro hro A L g0 w0 g a w B hB hr hg hn) (fun e=>hf (hq e) ro hro A L g0 w0 g a w B hB hr hg hn)
theorem rW {id:Nat}{c:Code}(h:Ev R P c s (IA id Q)):Ev R P (.block id c) s Q:=by
 intro ro hro A L g0 w0 g a w B hB hr hg hn;refine wpIn_block (aST (h ro hro A L g0 w0 g a w B hB hr hg hn) fun e a' w' hp=> ?_);obtain⟨e',g',s',h1,h2,h3,h4,h5⟩:=hp;cases e<;>simp only[FE,aRd] at h1
 case normal=>subst h1;exact⟨.normal,g',s',rfl,h2,h3,h4,h5⟩
 case exit j=>
  subst h1;simp only[IA] at h2;simp only[Exit.inBlock];split
  .rename_i hj;rw[aRf hj] at h2;exact⟨.normal,g',s',rfl,h2,h3,h4,h5⟩
  .rename_i hj;rw[aRk hj] at h2;exact⟨.exit j,g',s',rfl,h2,h3,h4,h5⟩
 case ret=>subst h1;exact⟨.ret,g',s',rfl,h2,h3,h4,h5⟩
 all_goals cases h1
end
@[go_sem] def a1e (k:Nat) (t:Ty) (l:List t.den):qB->qB
 |(.own j m,x)=>if j=k then(.val (.list t) l,some k) else(.own j m,x)
 |s=>s
@[go_sem] def QE (k:Nat) (t:Ty) (l:List t.den):List (Nat×qB)->List (Nat×qB)
 |[]=>[]
 |(i,s)::r=>(i,a1e k t l s)::QE k t l r
@[go_sem] def aBQ (k n:Nat):qB->Prop
 |(.own j m,_)=>j=k->m=n
 |_=>True
@[go_sem] def a1f (k n:Nat):List (Nat×qB)->Prop
 |[]=>True
 |(_,s)::r=>aBQ k n s/\a1f k n r
theorem aBR {k:Nat}{t:Ty}{l:List t.den}: ∀{env:List (Nat×qB)}{i:Nat},lk (QE k t l env) i=a1e k t l (lk env i)
 |[],i=>rfl
 |(j,s)::r,i=>by
  simp only[QE,lk];split
  .rfl
  .exact aBR
theorem aBS {k n:Nat}: ∀{env:List (Nat×qB)}{i:Nat},a1f k n env->aBQ k n (lk env i)
 |[],i,_=>trivial
 |(j,s)::r,i,⟨h1,h2⟩=>by
  simp only[lk];split
  .exact h1
  .exact aBS h2
theorem QF {P:Program}{c:Code}{s:St}{Q:Ex->St->Prop}(k:Nat) {e:TypeId}{t:Ty}{l:List t.den}{n:Nat}(hk:qD s.H k=some (.row e t l n)) (hok:a1f k n s.env)
  (h:Ev R P c ⟨QE k t l s.env,(k,.grow e t.cells (List.length l))::s.H,s.nb,s.N,s.np⟩ Q):Ev R P c s Q:=by
 intro ro hro A L g0 w0 g a w B hB hr hg hn;obtain⟨hl,v,xs,hv,hown,hF,hnone,hseal⟩:=hr.heap.blk k _ hk
 let g':Gh:={g with S:=fun b o=>g.S b o\/(v.ownBlock=some b/\o<n*t.cells)}
 have le:Le g w g' w:=⟨fun _ _ h=> .inl h,fun _ _ _=>rfl,fun _ _ h=>h,fun _ _ _ h=>h⟩;have hown2: ∀b,v.ownBlock=some b->∀o,sA g k (.row e t l n) b o:=fun b hb o=>⟨v,hv,hb⟩;have hlist: ∀u,g.cur k n=some u->((u= .slice none 0 0/\n=0)\/∃b cap,u= .slice (some ⟨b,0,none⟩) n cap/\n<=cap)->tO g' w (.list t) l u:=by
  intro u hu hshape;rw[hv] at hu;obtain rfl:=aRi hu;rcases hshape with⟨rfl,h0⟩ |⟨b,cap,rfl,hcap⟩
  .have:l=[]:=aRS (by rw[hl,h0]);subst this;exact .inr ⟨rfl,none,0,rfl,aRE _,.inl rfl⟩
  .refine .inr ⟨rfl,some ⟨b,0,none⟩,cap,by rw[hl],by rw[hl];exact hcap,.inr ⟨b,0,rfl,MS (D4 (fun _ _ h=>xR le h) hF) (fun j u hu=> ?_) (fun j hj=> ?_)⟩⟩
   .have:=hown.cells (g:=b) rfl j u hu;rwa [aSC] at this
   .right;exact⟨rfl,by rw[hl] at hj;omega⟩
 have hget: ∀i b,qD ((k,q9.grow e t.cells (List.length l))::s.H) i=some b->(i=k/\b= .grow e t.cells (List.length l))\/(i≠k/\qD s.H i=some b):=by
  intro i b hb;simp only[qD] at hb;split at hb
  .rename_i e1;exact .inl ⟨e1.symm,(aRi hb).symm⟩
  .rename_i e1;exact .inr ⟨Ne.symm e1,hb⟩
 have howns: ∀i b bb o,qD ((k,q9.grow e t.cells (List.length l))::s.H) i=some b->sA g' i b bb o->∃b0,qD s.H i=some b0/\sA g i b0 bb o:=by
  intro i b bb o hb ho;rcases hget i b hb with⟨rfl,rfl⟩ |⟨_,h1⟩
  .obtain⟨u,hu,hub⟩:=ho;have hu':g.cur i (List.length l)=some u:=hu;rw[hl] at hu';exact⟨_,hk,u,hu',hub⟩
  .exact⟨b,h1,(zP (g':=g') (g:=g) rfl rfl).1 ho⟩
 have hrel:v8 B g' w ⟨QE k t l s.env,(k,.grow e t.cells (List.length l))::s.H,s.nb,s.N,s.np⟩ a:=by
  refine⟨fun i=> ?_,⟨fun i b hb=> ?_,fun i j bi bj b o hij h1 h2 o1 o2=> ?_,fun b o hS=> ?_,hr.heap.tab.1,fun i b bb oo hb ho=>by
   obtain⟨c1,k1,k2⟩:=howns i b bb oo hb ho;exact hr.heap.tab.2 i c1 bb oo k1 k2⟩,hr.size,hr.nb,hr.def_,hr.np⟩
  .rw[aBR];have h1:=hr.env i;have h2:=aBS (i:=i) hok;generalize lk s.env i=sl at h1 h2;obtain⟨d,x⟩:=sl;cases d with
   |own j m=>
    simp only[a1e];split
    .rename_i hj;subst hj;have hm:m=n:=h2 rfl;subst hm;refine⟨hlist _ h1.1.1 h1.1.2,?_⟩;show g'.cur j (List.length l)=_;rw[hl];exact h1.1.1
    .exact BC le h1
   |_=>exact BC le h1
  .rcases hget i b hb with⟨rfl,rfl⟩ |⟨hne,h1⟩
   .refine⟨v,xs,by rw[hl];exact hv,by rw[hl];exact hown,fun m hm=>hnone m (by rw[hl] at hm;exact hm),fun b hb o hS=> ?_⟩;rw[hl];rcases hS with hS|hS
    .exact absurd hS (hseal b hb o)
    .exact hS.2
   .exact MP (hr.heap.blk i b h1) le rfl rfl (fun _ _ _=>⟨rfl,rfl⟩) (fun _ _=>rfl) (fun bb o ho hS=>by
     rcases hS with hS|hS
     .exact hS
     .exact absurd (hown2 bb hS.1 o) (fun h5=>hr.heap.dis i k b _ bb o hne h1 hk ho h5)) (fun _ _ _ _ h=>h)
  .obtain⟨c1,k1,k2⟩:=howns i bi b o h1 o1;obtain⟨c2,k3,k4⟩:=howns j bj b o h2 o2;exact hr.heap.dis i j c1 c2 b o hij k1 k3 k2 k4
  .rcases hS with hS|hS
   .exact hr.heap.sl b o hS
   .exact PS hown hS.1
 have hgood:tH A L g0 w0 g' w ((k,.grow e t.cells (List.length l))::s.H):=by
  refine⟨fun b o h0=>⟨.inl (hg.shut b o h0).1,(hg.shut b o h0).2⟩,⟨hg.fr.os,hg.fr.tape,hg.fr.output,hg.fr.size,hg.fr.blk,hg.fr.cell,fun b o hS=> ?_,hg.fr.shape⟩,fun i b bb o hb ho=> ?_,hg.J,hg.live,fun i u y us hi hb=> ?_,hg.cur⟩
  .rcases hS with hS|hS
   .exact hg.fr.new b o hS
   .exact .inr (hg.perm k _ b o hk (hown2 b hS.1 o))
  .obtain⟨c1,k1,k2⟩:=howns i b bb o hb ho;exact hg.perm i c1 bb o k1 k2
  .rcases hget i _ hb with⟨_,h1⟩ |⟨_,h1⟩
   .cases h1
   .exact hg.ty i u y us hi h1
 exact h ro hro A L g0 w0 g' a w B hB hrel hgood hn
def iter {σ ρ:Type}(f:σ->Option (σ⊕ρ)):Nat->σ->Option ρ
 |0,_=>none
 |n+1,x=>match f x with
  |none=>none
  |some (.inl y)=>iter f n y
  |some (.inr r)=>some r
theorem aBT {σ ρ:Type}{f:σ->Option (σ⊕ρ)}{r:ρ}: ∀{n:Nat}{x:σ},iter f n x=some r->iter f (n+1) x=some r
 |0,_,h=>by cases h
 |n+1,x,h=>by
  unfold iter at h|-;split
  .rename_i e;rw[e] at h;cases h
  .rename_i y e;rw[e] at h;exact aBT h
  .rename_i r' e;rw[e] at h;exact h
theorem a1g {σ ρ:Type}{f:σ->Option (σ⊕ρ)}{r:ρ}{n:Nat}{x:σ}(h:iter f n x=some r): ∀m,iter f (n+m) x=some r
 |0=>h
 |m+1=>aBT (a1g h m)
theorem aBU {σ ρ:Type}{f:σ->Option (σ⊕ρ)}{r r':ρ}{n m:Nat}{x:σ}(h:iter f n x=some r) (h':iter f m x=some r'):r=r':=by
 have h1:=a1g h m;have h2:=a1g h' n;rw[Nat.add_comm] at h2;exact aRi (h1.symm.trans h2)
noncomputable def QG {σ ρ:Type}(f:σ->Option (σ⊕ρ)) (x:σ):Option ρ:=open Classical in if h: ∃n r,iter f n x=some r then some (Classical.choose (aSR h)) else none
def aKq {ρ:Type}:Option ρ->Option ρ->Option ρ
 |some r,_=>some r
 |none,r=>r
noncomputable def rU {σ ρ:Type}(f:σ->Option (σ⊕ρ)) (x:σ):Option ρ:=aKq (iter f 2000 x) (QG f x)
theorem aKr {σ ρ:Type}{f:σ->Option (σ⊕ρ)}{x:σ}{r:ρ}{n:Nat}(h:iter f n x=some r):QG f x=some r:=by
 have hx: ∃n r,iter f n x=some r:=⟨n,r,h⟩;unfold QG;rw[aTj hx,aBU h (aSR (aSR hx))]
theorem a1h {σ ρ:Type}{f:σ->Option (σ⊕ρ)}{x:σ}{r:ρ}{n:Nat}(h:iter f n x=some r):rU f x=some r:=by
 unfold rU;cases hi:iter f 2000 x with
 |some r'=>rw[aBU h hi];rfl
 |none=>exact aKr h
theorem VZ {σ ρ:Type}{f:σ->Option (σ⊕ρ)}{x:σ}{r:ρ}(h:rU f x=some r): ∃n,iter f n x=some r:=by
 unfold rU at h;cases hi:iter f 2000 x with
 |some r'=>
  rw[hi] at h;cases h;exact⟨_,hi⟩
 |none=>
  rw[hi] at h;have h:QG f x=some r:=h;unfold QG at h;split at h
  .rename_i hx;have:=aSR (aSR hx);rw[aRi h] at this;exact⟨_,this⟩
  .cases h
attribute [irreducible] rU
theorem w4 {σ ρ:Type}{f:σ->Option (σ⊕ρ)}{x y:σ}(h:f x=some (.inl y)):rU f x=rU f y:=by
 cases hy:rU f y with
 |some r=>
  obtain⟨n,hn⟩:=VZ hy;exact a1h (n:=n+1) (by unfold iter;rw[h];exact hn)
 |none=>
  cases hx:rU f x with
  |none=>rfl
  |some r=>
   obtain⟨n,hn⟩:=VZ hx;cases n with
   |zero=>cases hn
   |succ n=>
    unfold iter at hn;rw[h] at hn;rw[a1h hn] at hy;cases hy
theorem vM {σ ρ:Type}{f:σ->Option (σ⊕ρ)}{x:σ}{r:ρ}(h:f x=some (.inr r)):rU f x=some r:=a1h (n:=1) (by unfold iter;rw[h])
def Nxt {σ ρ:Type}(f:σ->Option (σ⊕ρ)) (y:ρ) (n:Nat):σ⊕ρ->Prop
 | .inl x=>iter f n x=some y
 | .inr r=>r=y
def qL {σ ρ:Type}(enc:σ->St) (f:σ->Option (σ⊕ρ)) (y:ρ) (n:Nat) (Q:Ex->St->Prop):Ex->St->Prop
 | .normal,s=> ∃(k:wK) (x:σ),s.keep k=enc x/\iter f n x=some y
 | .exit j,s=>Q (.exit j) s
 | .ret,s=>Q .ret s
theorem aKt {P:Program}{c:Code}{s:St}{Q:Ex->St->Prop}(I:Nat->St->Prop) (h0: ∃(k:wK) (n:Nat),I n (s.keep k))
  (h: ∀n s,I n s->Ev R P c s (fun e s'=>match e with| .normal=> ∃(k:wK) (m:Nat),m<n/\I m (s'.keep k) |e=>Q e s')):Ev R P (.loop c) s Q:=by
 intro ro hro A L g0 w0 g a w B hB hr hg hn;obtain⟨k,n0,h0⟩:=h0;obtain⟨g1,k1,k2,k3,_⟩:=E5 hr hg hn k
 let R:Act->pQ->Nat->Prop:=fun a w n=> ∃g s,I n s/\v8 B g w s a/\tH A L g0 w0 g w s.H/\s.np=L.length
 refine wpIn_loop (fun a w=> ∃n,R a w n) (fun a w=>Q9 (R a w)) ⟨_,g1,s.keep k,h0,k1,k2,k3⟩ (fun a w hI=> ?_);obtain⟨⟨g2,s2,i1,i3,i4,i5⟩,_⟩:=VX hI;refine aST (h _ s2 i1 ro hro A L g0 w0 g2 a w B hB i3 i4 i5) fun e a' w' hp=> ?_;obtain⟨e',g',s',h1,h2,h3,h4,h5⟩:=hp;cases e<;>simp only[FE,aRd] at h1
 case normal=>
  subst h1;obtain⟨k',m,j1,j2⟩:=h2;obtain⟨g3,l1,l2,l3,_⟩:=E5 h3 h4 h5 k';have hR:R a' w' m:=⟨g3,s'.keep k',j2,l1,l2,l3⟩;exact⟨⟨_,hR⟩,Nat.lt_of_le_of_lt ((VX ⟨_,hR⟩).2 _ hR) j1⟩
 case exit id=>subst h1;exact⟨.exit id,g',s',rfl,h2,h3,h4,h5⟩
 case ret=>subst h1;exact⟨.ret,g',s',rfl,h2,h3,h4,h5⟩
 all_goals cases h1
theorem uP {P:Program}{c:Code}{s:St}{Q:Ex->St->Prop}{σ ρ:Type}{f:σ->Option (σ⊕ρ)}{x0:σ}{y:ρ}(hy:rU f x0=some y) (enc:σ->St) (k:wK) (h0:s.keep k=enc x0)
  (round: ∀x w n,f x=some w->Nxt f y n w->Ev R P c (enc x) (qL enc f y n Q)):Ev R P (.loop c) s Q:=by
 obtain⟨n,hn⟩:=VZ hy;refine aKt (fun n s=> ∃x,s=enc x/\iter f n x=some y) ⟨k,n,x0,h0,hn⟩ fun n s ⟨x,e,hx⟩=> ?_;subst e;cases n with
 |zero=>cases hx
 |succ n=>
  unfold iter at hx;refine aKo (Q':=qL enc f y n Q) ?_ (fun e s' hq=> ?_)
  .split at hx
   .cases hx
   .rename_i x' e;exact round x _ n e hx
   .rename_i r e;exact round x _ n e (aRi hx)
  .cases e with
   |normal=>obtain⟨k,x',h1,h2⟩:=hq;exact⟨k,n,pF,x',h1,h2⟩
   |exit j=>exact hq
   |ret=>exact hq
def qX (j:Nat) (X:St->Prop) (Q:Ex->St->Prop):Ex->St->Prop
 | .normal,s=>Q .normal s
 | .exit i,s=>if i=j then∃k:wK,X (s.keep k) else Q (.exit i) s
 | .ret,s=>Q .ret s
theorem uV {P:Program}{c:Code}{s:St}{Q:Ex->St->Prop}(j:Nat) (X:St->Prop) (h:Ev R P c s (qX j X Q)) (J: ∀s',X s'->Q (.exit j) s'):Ev R P c s Q:=by
 intro ro hro A L g0 w0 g a w B hB hr hg hn;refine aST (h ro hro A L g0 w0 g a w B hB hr hg hn) fun x a' w' hp=> ?_;obtain⟨e,g',s',h1,h2,h3,h4,h5⟩:=hp;cases e with
 |normal=>exact⟨.normal,g',s',h1,h2,h3,h4,h5⟩
 |ret=>exact⟨.ret,g',s',h1,h2,h3,h4,h5⟩
 |exit i=>
  have h2:(if i=j then∃k:wK,X (s'.keep k) else Q (.exit i) s'):=h2;by_cases hij:i=j
  .rw[aRf hij] at h2;obtain⟨k,hk⟩:=h2;obtain⟨g1,k1,k2,k3,_⟩:=E5 h3 h4 h5 k;exact⟨.exit i,g1,s'.keep k,h1,by rw[hij];exact J _ hk,k1,k2,k3⟩
  .rw[aRk hij] at h2;exact⟨.exit i,g',s',h1,h2,h3,h4,h5⟩
section
variable {Q:Ex->St->Prop}{s:St}{j i:Nat}{X:St->Prop}{σ ρ:Type}{enc:σ->St}{f:σ->Option (σ⊕ρ)}{y:ρ}{n:Nat}
theorem wW (h:Q .ret s):qX j X Q .ret s:=h
theorem uK (h: ∃k:wK,X (s.keep k)):qX j X Q (.exit j) s:=by show (if j=j then _ else _);rw[aRf rfl];exact h
theorem tC (h: ∃(k:wK) (x:σ),s.keep k=enc x/\iter f n x=some y):qL enc f y n Q .normal s:=h
theorem uL (h:Q (.exit j) s):qL enc f y n Q (.exit j) s:=h
theorem wP (h:Q .ret s):qL enc f y n Q .ret s:=h
end
def qN (X:St->Prop) (Q:Ex->St->Prop):Ex->St->Prop
 | .normal,s=> ∃k:wK,X (s.keep k)
 | .exit j,s=>Q (.exit j) s
 | .ret,s=>Q .ret s
theorem yY {P:Program}{c:Code}{s:St}{Q:Ex->St->Prop}(X:St->Prop) (h:Ev R P c s (qN X Q)) (J: ∀s',X s'->Q .normal s'):Ev R P c s Q:=by
 intro ro hro A L g0 w0 g a w B hB hr hg hn;refine aST (h ro hro A L g0 w0 g a w B hB hr hg hn) fun x a' w' hp=> ?_;obtain⟨e,g',s',h1,h2,h3,h4,h5⟩:=hp;cases e with
 |exit j=>exact⟨.exit j,g',s',h1,h2,h3,h4,h5⟩
 |ret=>exact⟨.ret,g',s',h1,h2,h3,h4,h5⟩
 |normal=>
  obtain⟨k,hk⟩:=h2;obtain⟨g1,k1,k2,k3,_⟩:=E5 h3 h4 h5 k;exact⟨.normal,g1,s'.keep k,h1,J _ hk,k1,k2,k3⟩
section
variable {Q:Ex->St->Prop}{s:St}{j:Nat}{X:St->Prop}
theorem tY (h: ∃k:wK,X (s.keep k)):qN X Q .normal s:=h
end
def val {ρ:Type}[Inhabited ρ] (x:Option ρ):ρ:=x.getD default
theorem rY {ρ:Type}[Inhabited ρ] {x:Option ρ}{y:ρ}(h:x=some y):val x=y:=by rw[h];rfl
theorem qP {ρ:Type}{x:Option ρ}{y:ρ}(h:x=some y):x.isSome=true:=by rw[h];rfl
theorem qG {ρ:Type}{c:Prop}[Decidable c] {x:Option ρ}{r:ρ}(h:(if c then x else none)=some r):c/\x=some r:=by
 by_cases hc:c
 .rw[aRf hc] at h;exact⟨hc,h⟩
 .rw[aRk hc] at h;cases h
theorem qI {σ ρ:Type}{x:Option σ}{k:σ->Option ρ}{r:ρ}(h:x.bind k=some r): ∃y,x=some y/\k y=some r:=by
 cases x with
 |none=>cases h
 |some y=>exact⟨y,rfl,h⟩
theorem aKu {ρ:Type}{b:Bool}{x y:ρ}{r:ρ}(h:(if b=true then x else y)=r) (hb:b=true):x=r:=by rw[aRf hb] at h;exact h
theorem aKv {ρ:Type}{b:Bool}{x y:ρ}{r:ρ}(h:(if b=true then x else y)=r) (hb:b=false):y=r:=by rw[hb,aRk pG] at h;exact h
def vA {σ ρ:Type}(x:Option (σ⊕ρ)) (k:σ->Option ρ):Option ρ:=x.bind fun y=>match y with
 | .inl v=>k v
 | .inr r=>some r
theorem wX {σ ρ:Type}{x:Option (σ⊕ρ)}{k:σ->Option ρ}{r:ρ}(h:vA x k=some r): ∃y,x=some y/\(match y with| .inl v=>k v| .inr r=>some r)=some r:=qI h
def sJ {σ ρ:Type}(x:Option σ) (k:σ->Option ρ):Option ρ:=x.bind k
def a1i {σ ρ:Type}(x:σ) (k:σ->ρ):ρ:=k x
theorem aKw {σ ρ:Type}{x:σ}{k:σ->ρ}{r:ρ}(h:a1i x k=r): ∃y,x=y/\k y=r:=⟨x,rfl,h⟩
theorem sY {x:Bool}(h:x=true):(x==true)=true:=by rw[h];rfl
theorem W3 {G x:Bool}(hG:G=true) (h:x=true):(G&&(x==true))=true:=by rw[hG,h];rfl
theorem IJ {G x:Bool}(hG:G=true) (h:x=false):(G&&(x==false))=true:=by rw[hG,h];rfl
theorem sU {x:Bool}(h:x=false):(x==false)=true:=by rw[h];rfl
section
variable {P:Program}{T:sK}{Γ:tW}(E:rI P T Γ) {s:St}{Q:Ex->St->Prop}
include E
theorem aBV {id:Nat}{ops:Array Oper}{a:vH}(h:uS T Γ ops.toList ops.toList (some ⟨s,[],[]⟩)=some a) (hp:r7 a.side) (hq:Q .normal a.s):Ev R P (.region id ops false) s Q:=
 aBM E.T E.Γ E.m (aIo h hp hq)
theorem aBW {id:Nat}{ops:Array Oper}{a:vH}(h:uS T Γ ops.toList ops.toList (some ⟨s,[],[]⟩)=some a) (hf:F9 ops s.nb a.es.reverse=true) (hp:r7 a.side) (hq:Q .normal a.s):Ev R P (.region id ops true) s Q:=
 aBM E.T E.Γ E.m (aIp h hf hp hq)
end
end Go.Proofs.YtkpflnijijccpaaGreatDoor.Vc
