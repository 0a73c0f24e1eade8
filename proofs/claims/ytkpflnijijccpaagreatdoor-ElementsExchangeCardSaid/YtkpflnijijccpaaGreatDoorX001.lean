/- Packed by a program of mine (wip/tools/pack.py): the same texts with short names and few blanks. -/
import Derived.ChangeKeysEq
import Derived.Laws.BytesArg
import Derived.Laws.StructEq
import Derived.Lib.AppendStr
import Derived.MapKept
import Derived.OrdersIn
import Derived.RangeFuncLeaves
import Derived.RangeFuncNested
import Derived.WalkSpells
import Derived.Test.YtkpflnijijccpaaGreatDoorX000
set_option linter.defProp false
set_option linter.unusedVariables false
set_option linter.unusedSimpArgs false
set_option linter.unusedSectionVars false
set_option maxRecDepth 100000
set_option maxHeartbeats 4000000
namespace Go.Proofs.YtkpflnijijccpaaGreatDoor.Vc
open Go.RowKit
def AN:Ty->TypeDesc
 | .int k=> .int k
 | .str=> .string
 |_=> .bool
theorem a1r {P:Program}{t:TypeId}{ti:TI}(h:uG P t ti) (hk:EH ti.ty=true):P.underlying t=some (AN ti.ty):=by
 have h2:=h.2;unfold yW at h2;obtain⟨ty,el,by',ar,ls⟩:=ti;cases ty<;>simp only[EH,aWD] at hk<;>exact h2
theorem aMj {g:Gh}{w:pT}{k:Ty}(hk:EH k=true) {a x:k.den}{v u:pU}(ha:tT g w k a v) (hx:tT g w k x u):Instr.sameNow (AN k) v u=some (H9 k a x)/\(H9 k a x=true->u=v):=by
 cases k with
 |int k=>
  rw[x5 ha,x5 hx];simp only[AN,Instr.sameNow,aWz,H9];refine⟨?_,fun h=> ?_⟩
  .congr 1
  .rw[aVw h]
 |str=>
  rw[xC ha,xC hx];simp only[AN,Instr.sameNow,H9];refine⟨?_,fun h=> ?_⟩
  .congr 1;rw[aWH,MapKept.bytes_beq,aU8];constructor
   .intro h;have:=aVc (fun z:ByteArray=>z.data.toList) h;simpa using this
   .intro h;rw[h]
  .rw[aVw h]
 |bool=>
  rw[wI ha,wI hx];simp only[AN,Instr.sameNow,H9];refine⟨trivial,fun h=> ?_⟩;rw[beq_iff_eq.1 h]
 |_=>simp [EH] at hk
theorem a1s {g:Gh}{w:pT}{k v:Ty}(hk:EH k=true) {a:k.den}{key:pU}(ha:tT g w k a key): ∀{l:List (k.den×v.den)}{es:List MapEntry}(i:Nat),EI g w k v l es->
  (vW k v l a=false->Instr.findNow (AN k) key es i=some none/\s9 k v l a=v.zero/\∀b val born,tT g w v b val->EI g w k v (tY k v a b l) (es++[⟨key,val,born⟩]))/\
  (vW k v l a=true->∃j e,es[j]? =some e/\Instr.findNow (AN k) key es i=some (some (i+j,e.val))/\tT g w v (s9 k v l a) e.val/\e.key=key/\∀b val,tT g w v b val->EI g w k v (tY k v a b l) (es.modify j fun e=>{e with key:=key,val:=val}))
 |[],es,i,h=>by
  rw[show es=[] from h];exact⟨fun _=>⟨rfl,rfl,fun b val born hb=>⟨_,[],rfl,ha,hb,rfl⟩⟩,fun h=>by simp [vW] at h⟩
 |(x,y)::l,_,i,⟨e,es',rfl,h1,h2,h3⟩=>by
  obtain⟨s1,s2⟩:=aMj hk ha h1;cases hq:H9 k a x with
  |true=>
   rw[hq] at s1;refine⟨fun h=>by simp [vW,hq] at h,fun _=>⟨0,e,rfl,?_,?_,s2 hq,fun b val hb=> ?_⟩⟩
   .simp only[Instr.findNow,s1,aVU]
   .simp only[s9,hq,aWz];exact h2
   .simp only[tY,hq,aWz];exact⟨_,es',rfl,ha,hb,h3⟩
  |false=>
   rw[hq] at s1;obtain⟨f1,f2⟩:=a1s (v:=v) hk ha (i+1) h3;refine⟨fun h=> ?_,fun h=> ?_⟩
   .simp only[vW,hq] at h;obtain⟨g1,g2,g3⟩:=f1 (by simpa using h);refine⟨by simp only[Instr.findNow,s1];exact g1,by simp only[s9,hq];simpa using g2,fun b val born hb=> ?_⟩;simp only[tY,hq];exact⟨e,_,rfl,h1,h2,g3 b val born hb⟩
   .simp only[vW,hq] at h;obtain⟨j,e',g1,g2,g3,g4,g5⟩:=f2 (by simpa using h);refine⟨j+1,e',by simpa using g1,by simp only[Instr.findNow,s1];rw[g2];congr 3;omega,by simp only[s9,hq];simpa using g3,g4,fun b val hb=> ?_⟩;simp only[tY,hq];exact⟨e,_,rfl,h1,h2,g5 b val hb⟩
def LM (ok:Bool) (z:pU):Option (Nat×pU)->pU
 |some (_,v)=>if ok then .tuple #[v,.bool true] else v
 |none=>if ok then .tuple #[z,.bool false] else z
section
variable {P:Program}{o:Oper}{a:Act}{g:Gh}{w:pT}{H:sD}{T:sY}(hT:y5 P T) (hH:sM g w H)
include hT hH
theorem sH.newMap {side:List Prop}{rds:pS}{base:Nat}{k v:Ty}(hf:g.J base=none) (hc:g.cur base=fun _=>none):
  sH g w H ⟨side,(.val .mp (some base),none),[(base,.map k v [])],rds⟩ (g.var base w.heap.size none) (w.alloc (.map #[] 0)) (.map (some w.heap.size)):=by
 have hJ:(g.var base w.heap.size none).J base=some ⟨w.heap.size,0,none⟩:=by simp [Gh.var]
 have le:Le g w (g.var base w.heap.size none) (w.alloc (.map #[] 0)):=⟨fun _ _ h=>h,fun b o h=>aVl (a:=⟨b,o,none⟩) (aVv _ _ _ (hH.sl b o h)),fun i p h=>by
  show (if i=base then _ else _)=_;rw[aUX (fun e1=>by rw[e1,hf] at h;cases h)];exact h,fun _ _ _ h=>h⟩
 have fr:Fr (tE g H (qJ [(base,qD.map k v [])])) w (w.alloc (.map #[] 0)) g.S (g.var base w.heap.size none).S:=
  ⟨rfl,rfl,rfl,by simp,fun b hb _=>aVv _ _ _ hb,fun b o hb _=>⟨aVl (a:=⟨b,o,none⟩) (aVv _ _ _ hb),aVO (a:=⟨b,o,none⟩) (aVv _ _ _ hb)⟩,fun b o h=> .inl h,fun b s h=> .inl ((CX (aVv _ _ _ (CW h))).trans h)⟩
 have gho: ∀i,i∉qJ [(base,qD.map k v [])]->(g.var base w.heap.size none).J i=g.J i/\(g.var base w.heap.size none).cur i=g.cur i:=fun i hi=>⟨by
  show (if i=base then _ else _)=_;rw[aUX (fun e1=>hi (by simp [qJ,e1]))],rfl⟩
 have get: ∀i blk,i∈qJ [(base,qD.map k v [])]->qH (qZ [(base,qD.map k v [])] H) i=some blk->i=base/\blk= .map k v []:=by
  intro i blk hi hg;simp only[qJ,aVb] at hi;subst hi;simp only[qZ,qH,aWz,aUT] at hg;exact⟨rfl,hg.symm⟩
 have perm: ∀i blk b o,i∈qJ [(base,qD.map k v [])]->qH (qZ [(base,qD.map k v [])] H) i=some blk->sG (g.var base w.heap.size none) i blk b o->w.heap.size<=b\/tE g H (qJ [(base,qD.map k v [])]) b o:=by
  intro i blk b o hi hg ho;obtain⟨rfl,rfl⟩:=get i blk hi hg;obtain⟨p,hp,h1⟩:=ho;rw[hJ] at hp;obtain rfl:=aUZ hp;exact .inl (aWx h1.symm)
 refine⟨le,⟨.inr ⟨rfl,_,hJ,rfl⟩,trivial⟩,hH.upd le fr perm gho (fun i blk hi hg=> ?_) (fun i j bi bj b o hi hj hij hgi hgj _ _=>hij ((get i bi hi hgi).1.trans (get j bj hj hgj).1.symm)) (fun b o h=>aVz (hH.sl b o h) pK),fr,perm,gho,fun i u' y us h=>by
  simp only[qZ,qH] at h;split at h
  .cases h
  .exact .inl ⟨y,us,h⟩⟩
 obtain⟨rfl,rfl⟩:=get i blk hi hg;refine⟨⟨w.heap.size,0,none⟩,#[],0,hJ,rfl,?_,rfl,fun o hs=>aWw _ (hH.sl _ _ hs)⟩;show (w.heap.push (.map #[] 0))[w.heap.size]? =_;rw[aWS]
theorem aMk {t:TypeId}{r:Option Operand}(ho:o.op= .makeMap t r) {base:Nat}{e:qU}(hr:a0T T base (s0 T t) r=some e) (hf:zQ g base e):rL P o a g w H e:=by
 generalize hst:s0 T t=ot at hr;unfold a0T at hr;split at hr
 .rename_i el fl ar ls_;unfold aBQ at hr;split at hr
  .split at hr
   .cases hr;have hfr:=hf base (by simp [qJ]) (aVi _);refine rL.value (v:= .map (some w.heap.size)) (w':=w.alloc (.map #[] 0)) ?_ (sH.newMap hT hH hfr.1 (funext hfr.2));unfold execOp;rw[ho];simp only[Instr.makeMap,aVe,run_newObj,aU4,aVm,Option.map_none];rfl
   .cases hr
  .cases hr
 .cases hr
theorem aMl {xt el fl:TypeId}{ok:Bool}{r:Nat}{es:Array MapEntry}{cl:Nat}{key z res:pU}{kd:TypeDesc}(hm:P.underlying xt=some (.map el fl)) (hb:w.heap[r]? =some (.map es cl)) (hkd:P.underlying el=some kd) (hsim: ∀ty,kd≠.interface ty) (hna: ∀n t,kd≠.array n t) (hns: ∀f,kd≠.struct f)
  {q:Option (Nat×pU)}(hq:Instr.findNow kd key es.toList 0=some q) (hz:(zeroValue fl).run P w= .ok z w)
  (hres:res=LM ok z q):(Instr.lookup xt (.map (some r)) key ok).run P w= .ok res w:=by
 have hck: ∀em,(Instr.checkKey em 10000 el key).run P w= .ok () w:=by
  intro em;unfold Instr.checkKey;simp only[aVe,aVh hkd,aU4];cases kd<;>first|rfl|(exact absurd rfl (hsim _)) |(exact absurd rfl (hna _ _)) |(exact absurd rfl (hns _))
 have hfk:(Instr.findKey el key es.toList).run P w= .ok q w:=by
  unfold Instr.findKey;simp only[aVe,aVh hkd,aU4,hq,aVm]
 subst hres;unfold Instr.lookup;simp only[aVe,aVh hm,aU4,MapKept.run_getObj_map hb,aVm,hck,hfk];cases q with
 |none=>cases ok<;>simp [hz,aVe,aU4,LM]
 |some q=>cases ok<;>simp [aVe,aU4,LM]
theorem aMm {xt el fl:TypeId}{ok:Bool}{key z:pU}{kd:TypeDesc}(hm:P.underlying xt=some (.map el fl)) (hkd:P.underlying el=some kd) (hsim: ∀ty,kd≠.interface ty) (hna: ∀n t,kd≠.array n t) (hns: ∀f,kd≠.struct f)
  (hz:(zeroValue fl).run P w= .ok z w):(Instr.lookup xt (.map none) key ok).run P w= .ok (LM ok z none) w:=by
 have hck: ∀em,(Instr.checkKey em 10000 el key).run P w= .ok () w:=by
  intro em;unfold Instr.checkKey;simp only[aVe,aVh hkd,aU4];cases kd<;>first|rfl|(exact absurd rfl (hsim _)) |(exact absurd rfl (hna _ _)) |(exact absurd rfl (hns _))
 have hfk:(Instr.findKey el key ([]:List MapEntry)).run P w= .ok none w:=by
  unfold Instr.findKey;simp only[aVe,aVh hkd,aU4,Instr.findNow,aVm]
 unfold Instr.lookup;simp only[aVe,aVh hm,aU4,aVm,hck,hfk];cases ok<;>simp [hz,aVe,aU4,LM,hfk]
theorem sH.updMap {side:List Prop}{rds:pS}{i:Nat}{k v:Ty}{l l':List (k.den×v.den)}{p:Pl}{es es':Array MapEntry}{cl cl':Nat}(hi:qH H i=some (.map k v l)) (hp:g.J i=some p) (hp0:p.2=0) (hb:w.heap[p.1]? =some (.map es cl)) (hS: ∀o,¬g.S p.1 o) (hM:EI g w k v l' es'.toList):
  sH g w H ⟨side,(.any,none),[(i,.map k v l')],rds⟩ g {w with heap:=w.heap.setIfInBounds p.1 (.map es' cl')} undef:=by
 have hlt:p.1<w.heap.size:=(aVn.1 hb).1;have hoth: ∀b,b≠p.1->(w.heap.setIfInBounds p.1 (.map es' cl'))[b]? =w.heap[b]? :=fun b hne=>by rw[aWn (Ne.symm hne)]
 have hown: ∀o,tE g H (qJ [(i,qD.map k v l')]) p.1 o:=fun o=>⟨i,_,by simp [qJ],hi,p,hp,rfl⟩;have le:Le g w g {w with heap:=w.heap.setIfInBounds p.1 (.map es' cl')}:=⟨fun _ _ h=>h,fun b o h=>aVl (a:=⟨b,o,none⟩) (hoth b (fun e=>hS o (e▸h))),fun _ _ h=>h,fun _ _ _ h=>h⟩
 have fr:Fr (tE g H (qJ [(i,qD.map k v l')])) w {w with heap:=w.heap.setIfInBounds p.1 (.map es' cl')} g.S g.S:=
  ⟨rfl,rfl,rfl,by simp,fun b _ hn=>hoth b (fun e=>hn 0 (e▸hown 0)),fun b o _ hn=>⟨aVl (a:=⟨b,o,none⟩) (hoth b (fun e=>hn (e▸hown o))),aVO (a:=⟨b,o,none⟩) (hoth b (fun e=>hn (e▸hown o)))⟩,fun b o h=> .inl h,fun b s h=>(by
   by_cases e:b=p.1
   .exact .inr fun o=>e▸hown o
   .exact .inl ((CX (hoth b e)).trans h))⟩
 have get: ∀j blk,j∈qJ [(i,qD.map k v l')]->qH (qZ [(i,qD.map k v l')] H) j=some blk->j=i/\blk= .map k v l':=by
  intro j blk hj hg;simp only[qJ,aVb] at hj;subst hj;simp only[qZ,qH,aWz,aUT] at hg;exact⟨rfl,hg.symm⟩
 have perm: ∀j blk b o,j∈qJ [(i,qD.map k v l')]->qH (qZ [(i,qD.map k v l')] H) j=some blk->sG g j blk b o->w.heap.size<=b\/tE g H (qJ [(i,qD.map k v l')]) b o:=by
  intro j blk b o hj hg ho;obtain⟨rfl,rfl⟩:=get j blk hj hg;obtain⟨q,hq,rfl⟩:=ho;rw[hp] at hq;obtain rfl:=aUZ hq;exact .inr (hown o)
 refine⟨le,⟨trivial,trivial⟩,hH.upd le fr perm (fun _ _=>⟨rfl,rfl⟩) (fun j blk hj hg=> ?_) (fun j j' bi bj b o hj hj' hij hgi hgj _ _=>hij ((get j bi hj hgi).1.trans (get j' bj hj' hgj).1.symm)) (fun b o h=>by simpa using hH.sl b o h),fr,perm,fun _ _=>⟨rfl,rfl⟩,fun j u' y us h=>by
  simp only[qZ,qH] at h;split at h
  .cases h
  .exact .inl ⟨y,us,h⟩⟩
 obtain⟨rfl,rfl⟩:=get j blk hj hg;exact⟨p,es',cl',hp,hp0,by simp [aWE,hlt],a03 le hM,hS⟩
theorem aCK {i:Nat}{k:pR}{v:pU}(h:rX g w (.val .mp (some i),k) v): ∃p,g.J i=some p/\v= .map (some p.1):=by
 obtain⟨p,h1,e⟩:=BE rfl h.1;simp only[aVT,and_true] at e;exact⟨p,h1,e⟩
theorem a1t {k:Ty}:(∀ty,AN k≠.interface ty)/\(∀n t,AN k≠.array n t)/\(∀f,AN k≠.struct f):=by
 cases k<;>exact⟨fun _ h=>by simp [AN] at h,fun _ _ h=>by simp [AN] at h,fun _ h=>by simp [AN] at h⟩
theorem aMn {t:TypeId}{x y:Operand}{ok:Bool}(ho:o.op= .lookup t x y ok) {sx sy:qE}(hx:rX g w sx (a.eval x)) (hy:rX g w sy (a.eval y)) {e:qU}(hr:W5 T H ok (s0 T t) sx sy=some e):rL P o a g w H e:=by
 generalize hst:s0 T t=ot at hr;unfold W5 at hr;split at hr
 .rename_i el fl ar ls_ i kk;generalize hk:s0 T el=ok1 at hr;generalize hv:s0 T fl=ok2 at hr;unfold a0U at hr;split at hr
  .rename_i kt vt k a' _;split at hr
   .rename_i hkt;unfold W4 at hr;split at hr
    .rename_i k' v' l hb;split at hr
     .rename_i hkv;obtain⟨rfl,rfl⟩:=hkv;split at hr
      .rename_i hkey;obtain⟨p,es,cl,hp,hp0,hh,hM,hS⟩:=hH.blk i _ hb;obtain⟨p',hp',hxv⟩:=aCK hT hH hx;rw[hp] at hp';obtain rfl:=aUZ hp';have hm:=(tM hT hst).2;simp only[yW] at hm;have hkd:=a1r (tM hT hk) (hkt▸hkey);obtain⟨iv,hi1,hi2,hi3⟩:=EL (tM hT hv);have hz:(zeroValue fl).run P w= .ok (x4 vt.ty) w:=by
        simp only[zeroValue,typeInfo,aVe,aV1,hi1,hi3,aU4,aVm]
       obtain⟨f1,f2⟩:=a1s (v:=vt.ty) hkey hy.1 0 hM;rw[<-hkt] at hkd;obtain⟨p1,p2,p3⟩:=a1t hT hH (k:=k);have go: ∀{q res},Instr.findNow (AN k) (a.eval y) es.toList 0=some q->res=LM ok (x4 vt.ty) q->(execOp a.eval o).run P w= .ok (.value res) w:=by
        intro q res h1 h2;unfold execOp;rw[ho];simp only[hxv,aVe,aMl hT hH hm hh hkd p1 p2 p3 h1 hz h2,aU4,aVm]
       cases hmh:vW k vt.ty l a' with
       |false=>
        obtain⟨g1,g2,_⟩:=f1 hmh;cases ok with
        |true=>
         cases hr;refine rL.pure hH (v:= .tuple #[x4 vt.ty,.bool false]) (go g1 rfl) ?_;simp only[N7,hmh,g2];exact⟨[_,_],rfl,_,[_],rfl,LK g w _,trivial,_,[],rfl,xD g w false,trivial,rfl⟩
        |false=>
         cases hr;refine rL.pure hH (v:=x4 vt.ty) (go g1 rfl) ?_;simp only[N7,g2];exact LK g w _
       |true=>
        obtain⟨j,e',g1,g2,g3,g4,g5⟩:=f2 hmh;cases ok with
        |true=>
         cases hr;refine rL.pure hH (v:= .tuple #[e'.val,.bool true]) (go g2 rfl) ?_;simp only[N7,hmh];exact⟨[_,_],rfl,_,[_],rfl,g3,trivial,_,[],rfl,xD g w true,trivial,rfl⟩
        |false=>
         cases hr;refine rL.pure hH (v:=e'.val) (go g2 rfl) ?_;simp only[N7];exact g3
      .cases hr
     .cases hr
    .cases hr
   .cases hr
  .cases hr
 .rename_i el fl ar ls_ kk;generalize hk:s0 T el=ok1 at hr;generalize hv:s0 T fl=ok2 at hr;unfold aBR at hr;split at hr
  .rename_i kt vt k a' _;split at hr
   .rename_i hkt;split at hr
    .rename_i hkey;have hxv:a.eval x= .map none:=by
      have e1:=BE rfl hx.1;simpa[Rd,LJ] using e1
     have hm:=(tM hT hst).2;simp only[yW] at hm;have hkd:=a1r (tM hT hk) (hkt▸hkey);obtain⟨iv,hi1,hi2,hi3⟩:=EL (tM hT hv);have hz:(zeroValue fl).run P w= .ok (x4 vt.ty) w:=by
      simp only[zeroValue,typeInfo,aVe,aV1,hi1,hi3,aU4,aVm]
     rw[<-hkt] at hkd;obtain⟨p1,p2,p3⟩:=a1t hT hH (k:=k);have go:(execOp a.eval o).run P w= .ok (.value (LM ok (x4 vt.ty) none)) w:=by
      unfold execOp;rw[ho];simp only[hxv,aVe,aMm hT hH hm hkd p1 p2 p3 hz,aU4,aVm]
     cases ok with
     |true=>
      cases hr;exact rL.pure hH (v:= .tuple #[x4 vt.ty,.bool false]) go ⟨[_,_],rfl,_,[_],rfl,LK g w _,trivial,_,[],rfl,xD g w false,trivial,rfl⟩
     |false=>
      cases hr;exact rL.pure hH (v:=x4 vt.ty) go (LK g w _)
    .cases hr
   .cases hr
  .cases hr
 .cases hr
theorem aMo {g:Gh}{w:pT}{k:Ty}(hk:EH k=true) {x:k.den}{v:pU}(h:tT g w k x v) (n:Nat):Instr.sameBits n v v=true:=by
 cases k with
 |int k=>rw[x5 h];cases n<;>simp [Instr.sameBits]
 |str=>rw[xC h];cases n<;>simp [Instr.sameBits,MapKept.bytes_beq]
 |bool=>rw[wI h];cases n<;>simp [Instr.sameBits]
 |_=>simp [EH] at hk
omit hT hH in
theorem aCL {T:sY}{ti:Option TI}{s:qE}{v:pU}(h:rX g w s v):rX g w (W7 T ti s) v:=by
 unfold W7;split
 .unfold aBS;split
  .rename_i f x _;refine⟨.inr ⟨rfl,?_⟩,trivial⟩;rcases h.1 with⟨h1,_⟩ |⟨h1,vs,h2,h3⟩
   .cases h1
   .rw[show vs=[] from h2] at h3;exact h3
  .exact h
 .exact h
theorem aCM {t:TypeId}{m x y:Operand}(ho:o.op= .mapUpdate t m x y\/o.op= .insert t m x y) {sm sx sy:qE}(hm:rX g w sm (a.eval m)) (hx:rX g w sx (a.eval x)) (hy:rX g w sy (a.eval y)) {e:qU}(hr:NJ T H (s0 T t) sm sx sy=some e):rL P o a g w H e:=by
 generalize hst:s0 T t=ot at hr;unfold NJ at hr;split at hr
 .rename_i el fl ar ls_ i kk;generalize hk:s0 T el=ok1 at hr;unfold W6 at hr;split at hr
  .rename_i kt k a' _ u b _;split at hr
   .rename_i hkt;unfold NI at hr;split at hr
    .rename_i k' v' l hb;split at hr
     .rename_i hkv;obtain⟨rfl,rfl⟩:=hkv;split at hr
      .rename_i hkey;cases hr;obtain⟨p,es,cl,hp,hp0,hh,hM,hS⟩:=hH.blk i _ hb;obtain⟨p',hp',hxv⟩:=aCK hT hH hm;rw[hp] at hp';obtain rfl:=aUZ hp';have hmt:=(tM hT hst).2;simp only[yW] at hmt;have hkd:=a1r (tM hT hk) (hkt▸hkey);rw[<-hkt] at hkd;obtain⟨p1,p2,p3⟩:=a1t hT hH (k:=k);have hck:(Instr.checkKey false 10000 el (a.eval x)).run P w= .ok () w:=by
        unfold Instr.checkKey;simp only[aVe,aVh hkd,aU4];generalize AN k=kd at p1 p2 p3;cases kd<;>first|rfl|(exact absurd rfl (p1 _)) |(exact absurd rfl (p2 _ _)) |(exact absurd rfl (p3 _))
       have hfk: ∀{q},Instr.findNow (AN k) (a.eval x) es.toList 0=some q->(Instr.findKey el (a.eval x) es.toList).run P w= .ok q w:=by
        intro q hq;unfold Instr.findKey;simp only[aVe,aVh hkd,aU4,hq,aVm]
       obtain⟨f1,f2⟩:=a1s (v:=u) hkey hx.1 0 hM;cases hmh:vW k u l a' with
       |false=>
        obtain⟨g1,_,g3⟩:=f1 hmh;refine rL.skip (w':={w with heap:=w.heap.setIfInBounds p.1 (.map (es.push ⟨a.eval x,a.eval y,cl⟩) (cl+1))}) ?_ (sH.updMap hT hH hb hp hp0 hh hS ?_)
        .unfold execOp;rcases ho with ho|ho<;>rw[ho]<;>
          simp only[Instr.mapUpdate,hxv,aVe,aVh hmt,aU4,MapKept.run_getObj_map hh,hck,hfk g1,MapKept.run_setObj_map _ hh,aVm]
        .simp only[N7,Array.toList_push];exact g3 b _ _ hy.1
       |true=>
        obtain⟨j,e',g1,g2,g3,g4,g5⟩:=f2 hmh;rw[aVx] at g2;refine rL.skip (w':={w with heap:=w.heap.setIfInBounds p.1 (.map (es.modify j fun e=>{e with key:=a.eval x,val:=a.eval y}) cl)}) ?_ (sH.updMap hT hH hb hp hp0 hh hS ?_)
        .have hj:es[j]? =some e':=by rw[<-aV3];exact g1
         unfold execOp;rcases ho with ho|ho<;>rw[ho]<;>
          simp only[Instr.mapUpdate,hxv,aVe,aVh hmt,aU4,MapKept.run_getObj_map hh,hck,hfk g2,hj,Option.map_some,aW1,g4,Instr.keyThatStays,aMo hT hH hkey hx.1,aWz,MapKept.run_setObj_map _ hh,aVm]
        .simp only[N7,Array.toList_modify];exact g5 b _ hy.1
      .cases hr
     .cases hr
    .cases hr
   .cases hr
  .cases hr
 .cases hr
end
theorem aCN {P:Program}{w:pT}{r:Nat}{s:ByteArray}{n:Nat}(hb:w.heap[r]? =some (.stringIter s n)):(getObj r).run P w= .ok (.stringIter s n) w:=by
 simp [getObj,Sem.run,hb]
theorem aMp {P:Program}{w:pT}{r:Nat}{s:ByteArray}{n:Nat}(o:Obj) (hb:w.heap[r]? =some (.stringIter s n)):(setObj r o).run P w= .ok () {w with heap:=w.heap.setIfInBounds r o}:=by
 simp [setObj,Sem.run,hb]
section
variable {P:Program}{o:Oper}{a:Act}{g:Gh}{w:pT}{H:sD}{T:sY}(hT:y5 P T) (hH:sM g w H)
include hT hH
theorem sH.newIter {side:List Prop}{rds:pS}{base:Nat}{s:pF}(hf:g.J base=none) (hc:g.cur base=fun _=>none):
  sH g w H ⟨side,(.val .ref (some (base,0)),none),[(base,.iter s 0)],rds⟩ (g.var base w.heap.size none) (w.alloc (.stringIter ⟨s.toArray⟩ 0)) (.pointer (some ⟨w.heap.size,0,none⟩)):=by
 have hJ:(g.var base w.heap.size none).J base=some ⟨w.heap.size,0,none⟩:=by simp [Gh.var]
 have le:Le g w (g.var base w.heap.size none) (w.alloc (.stringIter ⟨s.toArray⟩ 0)):=⟨fun _ _ h=>h,fun b o h=>aVl (a:=⟨b,o,none⟩) (aVv _ _ _ (hH.sl b o h)),fun i p h=>by
  show (if i=base then _ else _)=_;rw[aUX (fun e1=>by rw[e1,hf] at h;cases h)];exact h,fun _ _ _ h=>h⟩
 have fr:Fr (tE g H (qJ [(base,qD.iter s 0)])) w (w.alloc (.stringIter ⟨s.toArray⟩ 0)) g.S (g.var base w.heap.size none).S:=
  ⟨rfl,rfl,rfl,by simp,fun b hb _=>aVv _ _ _ hb,fun b o hb _=>⟨aVl (a:=⟨b,o,none⟩) (aVv _ _ _ hb),aVO (a:=⟨b,o,none⟩) (aVv _ _ _ hb)⟩,fun b o h=> .inl h,fun b s h=> .inl ((CX (aVv _ _ _ (CW h))).trans h)⟩
 have gho: ∀i,i∉qJ [(base,qD.iter s 0)]->(g.var base w.heap.size none).J i=g.J i/\(g.var base w.heap.size none).cur i=g.cur i:=fun i hi=>⟨by
  show (if i=base then _ else _)=_;rw[aUX (fun e1=>hi (by simp [qJ,e1]))],rfl⟩
 have get: ∀i blk,i∈qJ [(base,qD.iter s 0)]->qH (qZ [(base,qD.iter s 0)] H) i=some blk->i=base/\blk= .iter s 0:=by
  intro i blk hi hg;simp only[qJ,aVb] at hi;subst hi;simp only[qZ,qH,aWz,aUT] at hg;exact⟨rfl,hg.symm⟩
 have perm: ∀i blk b o,i∈qJ [(base,qD.iter s 0)]->qH (qZ [(base,qD.iter s 0)] H) i=some blk->sG (g.var base w.heap.size none) i blk b o->w.heap.size<=b\/tE g H (qJ [(base,qD.iter s 0)]) b o:=by
  intro i blk b o hi hg ho;obtain⟨rfl,rfl⟩:=get i blk hi hg;obtain⟨p,hp,h1⟩:=ho;rw[hJ] at hp;obtain rfl:=aUZ hp;exact .inl (aWx h1.symm)
 refine⟨le,⟨.inr ⟨rfl,_,hJ,rfl⟩,trivial⟩,hH.upd le fr perm gho (fun i blk hi hg=> ?_) (fun i j bi bj b o hi hj hij hgi hgj _ _=>hij ((get i bi hi hgi).1.trans (get j bj hj hgj).1.symm)) (fun b o h=>aVz (hH.sl b o h) pK),fr,perm,gho,fun i u' y us h=>by
  simp only[qZ,qH] at h;split at h
  .cases h
  .exact .inl ⟨y,us,h⟩⟩
 obtain⟨rfl,rfl⟩:=get i blk hi hg;refine⟨⟨w.heap.size,0,none⟩,hJ,rfl,?_,fun o hs=>aWw _ (hH.sl _ _ hs)⟩;show (w.heap.push (.stringIter ⟨s.toArray⟩ 0))[w.heap.size]? =_;rw[aWS]
theorem sH.updIter {side:List Prop}{rds:pS}{i:Nat}{s:pF}{n n':Nat}{d:qE}{val:pU}{p:Pl}(hi:qH H i=some (.iter s n)) (hp:g.J i=some p) (hp0:p.2=0) (hb:w.heap[p.1]? =some (.stringIter ⟨s.toArray⟩ n)) (hS: ∀o,¬g.S p.1 o) (hd:rX g {w with heap:=w.heap.setIfInBounds p.1 (.stringIter ⟨s.toArray⟩ n')} d val):
  sH g w H ⟨side,d,[(i,.iter s n')],rds⟩ g {w with heap:=w.heap.setIfInBounds p.1 (.stringIter ⟨s.toArray⟩ n')} val:=by
 have hlt:p.1<w.heap.size:=(aVn.1 hb).1;have hoth: ∀b,b≠p.1->(w.heap.setIfInBounds p.1 (.stringIter ⟨s.toArray⟩ n'))[b]? =w.heap[b]? :=fun b hne=>by rw[aWn (Ne.symm hne)]
 have hown: ∀o,tE g H (qJ [(i,qD.iter s n')]) p.1 o:=fun o=>⟨i,_,by simp [qJ],hi,p,hp,rfl⟩;have le:Le g w g {w with heap:=w.heap.setIfInBounds p.1 (.stringIter ⟨s.toArray⟩ n')}:=⟨fun _ _ h=>h,fun b o h=>aVl (a:=⟨b,o,none⟩) (hoth b (fun e=>hS o (e▸h))),fun _ _ h=>h,fun _ _ _ h=>h⟩
 have fr:Fr (tE g H (qJ [(i,qD.iter s n')])) w {w with heap:=w.heap.setIfInBounds p.1 (.stringIter ⟨s.toArray⟩ n')} g.S g.S:=
  ⟨rfl,rfl,rfl,by simp,fun b _ hn=>hoth b (fun e=>hn 0 (e▸hown 0)),fun b o _ hn=>⟨aVl (a:=⟨b,o,none⟩) (hoth b (fun e=>hn (e▸hown o))),aVO (a:=⟨b,o,none⟩) (hoth b (fun e=>hn (e▸hown o)))⟩,fun b o h=> .inl h,fun b s h=>(by
   by_cases e:b=p.1
   .exact .inr fun o=>e▸hown o
   .exact .inl ((CX (hoth b e)).trans h))⟩
 have get: ∀j blk,j∈qJ [(i,qD.iter s n')]->qH (qZ [(i,qD.iter s n')] H) j=some blk->j=i/\blk= .iter s n':=by
  intro j blk hj hg;simp only[qJ,aVb] at hj;subst hj;simp only[qZ,qH,aWz,aUT] at hg;exact⟨rfl,hg.symm⟩
 have perm: ∀j blk b o,j∈qJ [(i,qD.iter s n')]->qH (qZ [(i,qD.iter s n')] H) j=some blk->sG g j blk b o->w.heap.size<=b\/tE g H (qJ [(i,qD.iter s n')]) b o:=by
  intro j blk b o hj hg ho;obtain⟨rfl,rfl⟩:=get j blk hj hg;obtain⟨q,hq,rfl⟩:=ho;rw[hp] at hq;obtain rfl:=aUZ hq;exact .inr (hown o)
 refine⟨le,hd,hH.upd le fr perm (fun _ _=>⟨rfl,rfl⟩) (fun j blk hj hg=> ?_) (fun j j' bi bj b o hj hj' hij hgi hgj _ _=>hij ((get j bi hj hgi).1.trans (get j' bj hj' hgj).1.symm)) (fun b o h=>by simpa using hH.sl b o h),fr,perm,fun _ _=>⟨rfl,rfl⟩,fun j u' y us h=>by
  simp only[qZ,qH] at h;split at h
  .cases h
  .exact .inl ⟨y,us,h⟩⟩
 obtain⟨rfl,rfl⟩:=get j blk hj hg;exact⟨p,hp,hp0,by simp [aWE,hlt],hS⟩
theorem aMq {t:TypeId}{x:Operand}(ho:o.op= .range t x) {sx:qE}(hx:rX g w sx (a.eval x)) {base:Nat}{e:qU}(hr:a0W base (s0 T t) sx=some e) (hf:zQ g base e):rL P o a g w H e:=by
 generalize hst:s0 T t=ot at hr;unfold a0W at hr;split at hr
 .rename_i el b ar ls s k;cases hr;have hfr:=hf base (by simp [qJ]) (aVi _);have hv:=xC hx.1;have hu:=(tM hT hst).2;simp only[yW] at hu;refine rL.value (v:= .pointer (some ⟨w.heap.size,0,none⟩)) (w':=w.alloc (.stringIter ⟨s.toArray⟩ 0)) ?_ (sH.newIter hT hH hfr.1 (funext hfr.2));unfold execOp;rw[ho];simp only[Instr.range,hv,aVe,aVh hu,run_newObj,aU4,aVm];rfl
 .cases hr
theorem aMr {x:Operand}{b:Bool}(ho:o.op= .next x b) {sx:qE}(hx:rX g w sx (a.eval x)) {e:qU}(hr:W8 H b sx=some e):rL P o a g w H e:=by
 unfold W8 at hr;split at hr
 .rename_i i k;unfold a0X at hr;split at hr
  .rename_i s n hb;cases hr;obtain⟨p,hp,hp0,hh,hS⟩:=hH.blk i _ hb;obtain⟨q,hq,hv⟩:=A7 hx.1;rw[hp] at hq;obtain rfl:=aUZ hq;rw[hp0] at hv;by_cases hl:n<s.length
   .have hsz:n<(⟨s.toArray⟩:ByteArray).size:=by simpa[ByteArray.size] using hl
    refine rL.value (v:= .tuple #[.bool true,.int .i64 (n:Int),.int .i32 (y3 s n)]) (w':={w with heap:=w.heap.setIfInBounds p.1 (.stringIter ⟨s.toArray⟩ (BC s n))}) ?_ (sH.updIter hT hH hb hp hp0 hh hS ⟨⟨fun _=>rfl,fun h=>absurd hl (of_decide_eq_false h)⟩,trivial⟩)
    unfold execOp;rw[ho];have hrn:BC s n=n+(Utf8.decode ⟨s.toArray⟩ n).2:=by unfold BC a0V;rw[aUU hl]
    simp only[Instr.next,hv,aVe,aCN hh,aU4,hsz,aWz,aMp _ hh,aVm,hrn];rfl
   .have hsz: ¬n<(⟨s.toArray⟩:ByteArray).size:=by simpa[ByteArray.size] using hl
    have hrn:BC s n=n:=by unfold BC;rw[aUX hl]
    have hw:({w with heap:=w.heap.setIfInBounds p.1 (.stringIter ⟨s.toArray⟩ (BC s n))}:pT)=w:=by
     rw[hrn];have:w.heap.setIfInBounds p.1 (.stringIter ⟨s.toArray⟩ n)=w.heap:=by
      obtain⟨h1,h2⟩:=aVn.1 hh;apply Array.ext_getElem?;intro j;rw[aWE];split
      .rename_i hj;subst hj;first|rw[hh] |rw[aUU h1,hh]
      .rfl
     rw[this]
    refine rL.value (v:= .tuple #[.bool false]) (w':={w with heap:=w.heap.setIfInBounds p.1 (.stringIter ⟨s.toArray⟩ (BC s n))}) ?_ (sH.updIter hT hH hb hp hp0 hh hS ⟨⟨fun h=>absurd (aVw h) hl,fun _=>rfl⟩,trivial⟩)
    rw[hw];unfold execOp;rw[ho];simp only[Instr.next,hv,aVe,aCN hh,aU4,hsz,aW4,aVm]
  .cases hr
 .cases hr
end
def qT:Nat->List qD->sD
 |_,[]=>[]
 |c,b::L=>(c,b)::qT (c+1) L
theorem WS: ∀(L:List qD) (c i:Nat),qH (qT c L) i=if c<=i then L[i-c]? else none
 |[],c,i=>by simp [qT,qH]
 |b::L,c,i=>by
  simp only[qT,qH];by_cases h:c=i
  .subst h;simp
  .rw[aUX h,WS L (c+1) i];by_cases h2:c<=i
   .rw[aUU h2,aUU pI];obtain⟨d,hd⟩: ∃d,i-c=d+1:=⟨i-c-1,pI⟩;rw[hd,aVH];congr 1;omega
   .rw[aUX h2,aUX pI]
theorem y6 (L:List qD) (i:Nat):qH (qT 0 L) i=L[i]? :=by rw[WS];simp
def yY (g:Gh) (H:sD) (b o:Nat):Prop:= ∃i blk,qH H i=some blk/\sG g i blk b o
def vR (g:Gh) (w:pT):List qE->pP->Prop
 |[],vs=>vs=[]
 |s::ss,vs=> ∃v vs',vs=v::vs'/\rX g w s v/\vR g w ss vs'
def RI (g:Gh) (w:pT):List qE->pU->Prop
 |[s],v=>rX g w s v
 |l,v=> ∃vs:pP,v= .tuple vs.toArray/\vR g w l vs
structure EN (g:Gh) (w:pT) (L:List qD) (r:qK) (g':Gh) (w':pT) (v:pU):Prop where
 shut: ∀b o,g.S b o->g'.S b o/\w'.cell? ⟨b,o,none⟩=w.cell? ⟨b,o,none⟩
 heap:sM g' w' (qT 0 r.H)
 ret:RI g' w' r.ret v
 fr:Fr (yY g (qT 0 L)) w w' g.S g'.S
 perm: ∀i blk b o,r.H[i]? =some blk->sG g' i blk b o->w.heap.size<=b\/yY g (qT 0 L) b o
 J: ∀(i:Nat) t x ts,L[i]? =some (.cells t x ts)->g'.J i=g.J i
 ty: ∀(i:Nat) t x ts u y us,L[i]? =some (.cells t x ts)->r.H[i]? =some (.cells u y us)->u=t
 Jt: ∀i p,i<L.length->g.J i=some p->g'.J i=some p
 cur: ∀i n u,i<L.length->g.cur i n=some u->g'.cur i n=some u
def xR (P:Program) (f:FuncId) (C:List qE->List qD->Option qK):Prop:=
 (∀args w,(callFunc f args).run P w= .ok (.enter f args) w)/\
 ∀(g:Gh) (w:pT) (args:List qE) (vals:pP) (L:List qD) (r:qK),sM g w (qT 0 L)->vR g w args vals->C args L=some r->(∀p∈r.side,p)->
  Calls P f vals.toArray w (fun e w'=> ∃v g',e= .returned v/\EN g w L r g' w' v)
def WT (P:Program) (f:FuncId) (F:(t:Ty)->List t.den->Option (List t.den)):Prop:=
 ∀(g:Gh) (w:pT) (e:TypeId) (t:Ty) (l l':List t.den) (v:pU) (n:Nat) (xs:pP),DH w->w.ownsRow 0 e t.cells v n xs->uI (Rd g w t) t.cells l xs->l.length=n->n<4611686018427387904->F t l=some l'->
  Calls P f #[v] w (fun en w'=>en= .returned (.tuple #[])/\l'.length=n/\∃xs',w'.ownsRow 0 e t.cells v n xs'/\uI (Rd g w t) t.cells l' xs'/\w.grownBy w' v.ownBlock)
def EO (P:Program) (Γ:uL):Prop:= ∀f s,f<1000000000->Γ f=some s->xR P f s.C/\∀F,s.row=some F->WT P f F
theorem aCO {g:Gh}{w:pT}{t:Ty}{x:t.den}{v:pU}{k:pR}(h:rX g w (.val t x,k) v):rX g w (.val t x,FS t k) v:=by
 refine⟨h.1,?_⟩;cases t with
 |list u=>exact h.2
 |_=>trivial
theorem aMs {t:Ty}{k:pR}: ∀c,FS t k=some c->∃u,t= .list u:=by
 cases t with
 |list u=>exact fun _ _=>⟨u,rfl⟩
 |_=>intro c h;cases h
theorem WU {g g':Gh}{w:pT}(hS:g'.S=g.S) {t:Ty}(hp:t.pure=true) {x:t.den}{v:pU}{k k':pR}(hl: ∀c,k=some c->∃u,t= .list u) (h:rX g w (.val t x,k) v) (hk: ∀c,k=some c->∃c',k'=some c'/\∀n u,g.cur c n=some u->g'.cur c' n=some u) (hk0:k=none->k'=none):rX g' w (.val t x,k') v:=by
 have hv:tT g' w t x v:=h.1.imp (fun⟨a,cs,e,q⟩=>⟨a,cs,e,wQ hS hp q⟩) (fun⟨a,q⟩=>⟨a,wQ hS hp q⟩);refine⟨hv,?_⟩;cases k with
 |none=>rw[hk0 rfl];trivial
 |some c=>
  obtain⟨c',rfl,h2⟩:=hk c rfl;have h1:=h.2;cases t with
  |list u=>exact h2 _ _ h1
  |pair a b=>obtain⟨u,e⟩:=hl c rfl;cases e
  |_=>exact h1.elim
section
variable {P:Program}{o:Oper}{a:Act}{g:Gh}{w:pT}{H:sD}{T:sY}{Γ:uL}(hT:y5 P T) (hΓ:EO P Γ) (hH:sM g w H)
include hT hΓ hH
theorem a1u {ti:Option TI}{s:qE}{v:pU}(h:rX g w s v):rX g w (N8 ti s) v:=by
 unfold N8;split
 .have:v= .slice none 0 0:=h.1;subst this;exact⟨.inr ⟨rfl,none,0,rfl,aVi _,.inl rfl⟩,trivial⟩
 .exact h
theorem aCP {ρ:Operand->qE}: ∀{xs:List Operand}{ts:List TypeId},xs.length=ts.length->(∀x∈xs,rX g w (ρ x) (a.eval x))->vR g w (H8 T ρ xs ts) (xs.map a.eval)
 |[],[],_,_=>rfl
 |x::xs,t::ts,h,hx=>⟨_,_,rfl,a1u hT hΓ hH (hx x pK),aCP (by simpa using h) (fun y hy=>hx y (by simp [hy]))⟩
theorem aMt {l m:List qE}{vs us:pP}(h:vR g w l vs) (k:vR g w m us):vR g w (l++m) (vs++us):=by
 induction l generalizing vs with
 |nil=>rw[show vs=[] from h];exact k
 |cons s l ih=>
  obtain⟨v,vs',rfl,h1,h2⟩:=h;exact⟨v,_,rfl,h1,ih h2⟩
theorem aCQ: ∀{caps:pN}{vs:pP},yV g caps vs->vR g w (a0Q caps) vs
 |[],_,h=>h
 |(i,o)::caps,_,⟨p,vs',h1,h2,h3⟩=>⟨_,_,h2,⟨.inr ⟨rfl,p,h1,rfl⟩,trivial⟩,aCQ h3⟩
end
theorem aCR {P:Program}{o:Oper}{a:Act}{f:FuncId}{fop:Operand}{args:Array Operand}{tys:Array TypeId}(ho:o.op= .call ⟨.value fop,args,tys⟩) {caps:pP}(hf:a.eval fop= .func (.func f) #[] caps.toArray)
  (hen: ∀args w,(callFunc f args).run P w= .ok (.enter f args) w) {w:pT}{K:Act->pT->Prop}{Q:Exit->Act->pT->Prop}
  (h:Calls P f ((args.toList.map a.eval)++caps).toArray w (fun e w'=> ∃v,e= .returned v/\K (a.put o.dst v) w')):o.wp P a w K Q:=by
 unfold Oper.wp;have:(execOp a.eval o).run P w= .ok (.enter f ((args.toList.map a.eval)++caps).toArray) w:=by
  unfold execOp;rw[ho];simp only[resolve,hf,Deferred.ofValue,aVe,aVm,aU4,invoke];rw[hen];congr 2;apply aV6.1;simp
 rw[this];unfold Oper.upon;refine h.mono fun e w' ⟨v,he,hk⟩=> ?_;subst he;exact hk
def x7 (g:Gh):Option rV->Option Pl
 |some (.box i _ _ _ o)=>(g.J i).map fun p=>⟨p.1,p.2+o,p.3⟩
 |some (.tok k)=>g.J k
 |none=>none
def BY (g:Gh):Option rV->Nat->Option pU
 |some (.tok k),n=>g.cur k n
 |_,_=>none
def w6 (g:Gh) (ws:List rV):Gh:=⟨g.S,fun c=>x7 g ws[c]?,fun c n=>BY g ws[c]? n⟩
def WV (H:sD) (ws:List rV):rV->qD->Prop
 | .box i u x toks o,.cells t y ts=>qH H i=some (.cells u x toks)/\rJ t u x o=some y/\∀q n,(q,n)∈ts->∃k,ws[n]? =some (.tok k)/\xZ toks (o+q)=some k/\q<t.cells
 | .tok k,.grow e c m=>qH H k=some (.grow e c m)
 | .tok k,.map s t l=>qH H k=some (.map s t l)/\s.pure=true/\t.pure=true
 | .tok k,.row e t l n=>qH H k=some (.row e t l n)/\t.pure=true
 |_,_=>False
structure HE (H:sD) (ws:List rV) (L:List qD):Prop where
 len:ws.length=L.length
 ok: ∀(c:Nat) wh b,ws[c]? =some wh->L[c]? =some b->WV H ws wh b
 nodup:(sK ws).Nodup
def a1v (ws:List rV) (t:Ty) (x y:t.den):Prop:=(t.pure=true/\y=x)\/DJ ws t x=some y
def WW (H:sD) (ws:List rV):rV->qD->Prop
 | .box i u x toks o,.cells t y ts=>qH H i=some (.cells u x toks)/\(∃y0,rJ t u x o=some y0/\a1v ws t y0 y)/\∀q n,(q,n)∈ts->∃k,ws[n]? =some (.tok k)/\xZ toks (o+q)=some k/\q<t.cells
 | .tok k,.grow e c m=>qH H k=some (.grow e c m)
 | .tok k,.map s t l=>qH H k=some (.map s t l)/\s.pure=true/\t.pure=true
 | .tok k,.row e t l n=>qH H k=some (.row e t l n)/\t.pure=true
 |_,_=>False
theorem WX {i o:Nat}: ∀{ws:List rV}{c0:Nat}{c q:Nat},H4 i o ws c0=some (c,q)->∃d u x toks oc,c=c0+d/\ws[d]? =some (.box i u x toks oc)/\o=oc+q
 |[],_,_,_,h=>by simp [H4] at h
 | .box j u x toks oc::r,c0,c,q,h=>by
  simp only[H4] at h;split at h
  .rename_i hc;simp only[aUT,aVs] at h;obtain⟨rfl,rfl⟩:=h;obtain⟨rfl,h2⟩:=hc;exact⟨0,u,x,toks,oc,rfl,rfl,pI⟩
  .obtain⟨d,u',x',toks',oc',h1,h2,h3⟩:=WX h;exact⟨d+1,u',x',toks',oc',pI,by simpa using h2,h3⟩
 | .tok k::r,c0,c,q,h=>by
  simp only[H4] at h;obtain⟨d,u',x',toks',oc',h1,h2,h3⟩:=WX h;exact⟨d+1,u',x',toks',oc',pI,by simpa using h2,h3⟩
theorem NZ {i:Nat}: ∀{ws:List rV}{c0 c:Nat},xA i ws c0=some c->∃d,c=c0+d/\ws[d]? =some (.tok i)
 |[],_,_,h=>by simp [xA] at h
 | .tok j::r,c0,c,h=>by
  simp only[xA] at h;split at h
  .rename_i hc;simp only[aUT] at h;subst h;subst hc;exact⟨0,rfl,rfl⟩
  .obtain⟨d,h1,h2⟩:=NZ h;exact⟨d+1,pI,by simpa using h2⟩
 | .box _ _ _ _ _::r,c0,c,h=>by
  simp only[xA] at h;obtain⟨d,h1,h2⟩:=NZ h;exact⟨d+1,pI,by simpa using h2⟩
theorem a1w {α β:Type}{a:Option α}{b:Option β}{p:α×β}(h:L3 a b=some p):a=some p.1/\b=some p.2:=by
 cases a<;>cases b<;>simp [L3] at h
 subst h;exact⟨rfl,rfl⟩
theorem aMu {x y:Option (Nat×pN)}(h:QI x=some y):y=x/\∀f l,x=some (f,l)->l=[]:=by
 unfold QI at h;split at h
 .cases h;exact⟨rfl,fun _ _ h=>by cases h⟩
 .cases h;exact⟨rfl,fun _ _ h=>by cases h;rfl⟩
 .cases h
theorem aMv {g g':Gh}{x:Option (Nat×pN)}{cs:pP}(hx: ∀f l,x=some (f,l)->l=[]) (h:R4 g x cs):R4 g' x cs:=by
 cases x with
 |none=>exact h
 |some q=>
  obtain⟨f,l⟩:=q;obtain rfl:=hx f l rfl;exact h
theorem WY {g g':Gh}{w:pT}(hS:g'.S=g.S) (f:(t:Ty)->t.den->Option t.den)
  (hp: ∀a b x,f (.pair a b) x=L3 (if a.pure=true then some x.1 else f a x.1) (if b.pure=true then some x.2 else f b x.2))
  (hl: ∀t x,f (.list t) x=if t.pure=true then some x else none) (hb: ∀x,f .bool x=some x) (hi: ∀k x,f (.int k) x=some x) (hs: ∀x,f .str x=some x) (hu: ∀x,f .unit x=some x) (hfn: ∀x,f .fn x=some x) (hrl: ∀e t x y cs,f (.rl e t) x=some y->FX g x cs->FX g' y cs) (hmr: ∀x y cs,f .mref x=some y->R5 g x cs->R5 g' y cs)
  (hr: ∀x y cs,f .ref x=some y->R3 g x cs->R3 g' y cs) (hm: ∀x y cs,f .mp x=some y->LJ g x cs->LJ g' y cs) (hc: ∀x,f .clo x=QI x):
  ∀{t:Ty}{x y:t.den}{cs:pP},Rd g w t x cs->f t x=some y->Rd g' w t y cs
 | .bool,_,_,_,r,h=>by rw[hb] at h;cases h;exact r
 | .int _,_,_,_,r,h=>by rw[hi] at h;cases h;exact r
 | .str,_,_,_,r,h=>by rw[hs] at h;cases h;exact r
 | .unit,_,_,_,r,h=>by rw[hu] at h;cases h;exact r
 | .rl e t,x,y,_,r,h=>hrl e t x y _ h r
 | .fn,_,_,_,r,h=>by rw[hfn] at h;cases h;exact r
 | .mref,x,y,_,r,h=>hmr x y _ h r
 | .list t,x,y,_,r,h=>by
  rw[hl] at h;split at h
  .rename_i hpu;cases h;exact wQ hS (t:= .list t) (by simpa[Ty.pure] using hpu) r
  .cases h
 | .ref,x,y,_,r,h=>hr x y _ h r
 | .clo,x,y,_,r,h=>by
  rw[hc] at h;obtain⟨rfl,h2⟩:=aMu h;exact aMv h2 r
 | .mp,x,y,_,r,h=>hm x y _ h r
 | .pair a b,x,y,_,⟨c1,c2,e,r1,r2⟩,h=>by
  rw[hp] at h;obtain⟨h1,h2⟩:=a1w h;refine⟨c1,c2,e,?_,?_⟩
  .split at h1
   .rename_i hpu;exact(aUZ h1)▸wQ hS hpu r1
   .exact WY hS f hp hl hb hi hs hu hfn hrl hmr hr hm hc r1 h1
  .split at h2
   .rename_i hpu;exact(aUZ h2)▸wQ hS hpu r2
   .exact WY hS f hp hl hb hi hs hu hfn hrl hmr hr hm hc r2 h2
theorem a1x (f:(t:Ty)->t.den->Option t.den)
  (hp: ∀a b x,f (.pair a b) x=L3 (if a.pure=true then some x.1 else f a x.1) (if b.pure=true then some x.2 else f b x.2))
  (hl: ∀t x,f (.list t) x=if t.pure=true then some x else none) {u:Ty}: ∀{t:Ty}{x y:t.den}{o:Nat}{l:List u.den},f t x=some y->rJ (.list u) t x o=some l->rJ (.list u) t y o=some l:=by
 intro t
 induction t with
 |pair a b iha ihb=>
  intro x y o l h hg;rw[hp] at h;obtain⟨h1,h2⟩:=a1w h;have key: ∀z:(Ty.pair a b).den,∀q,rJ (.list u) (.pair a b) z q=if q<a.cells then rJ (.list u) a z.1 q else rJ (.list u) b z.2 (q-a.cells):=by
   intro z q;cases q with
   |zero=>
    conv=>lhs;unfold rJ
    rw[aWB (by intro e;cases e),Nat.zero_sub]
   |succ q=>simp [rJ]
  rw[key] at hg|-;split
  .rename_i ho;rw[aUU ho] at hg;split at h1
   .rw[<-aUZ h1];exact hg
   .exact iha h1 hg
  .rename_i ho;rw[aUX ho] at hg;split at h2
   .rw[<-aUZ h2];exact hg
   .exact ihb h2 hg
 |list v=>
  intro x y o l h hg;rw[hl] at h;split at h
  .cases h;exact hg
  .cases h
 |_=>
  intro x y o l h hg;cases o with
  |zero=>
   unfold rJ at hg;split at hg
   .rename_i e;cases e
   .cases hg
  |succ o=>simp [rJ] at hg
theorem aMw {g:Gh}{w:pT}{ws:List rV}{t:Ty}{x y:t.den}{cs:pP}(r:Rd g w t x cs) (h:DJ ws t x=some y):Rd (w6 g ws) w t y cs:=by
 refine WY (g:=g) (g':=w6 g ws) rfl (DJ ws) (fun a b x=>rfl) (fun t x=>rfl) (fun _=>rfl) (fun _ _=>rfl) (fun _=>rfl) (fun _=>rfl) (fun _=>rfl) (fun _ _ x y cs h r=> ?_) (fun x y cs h r=> ?_) (fun x y cs h r=> ?_) (fun x y cs h r=> ?_) (fun _=>rfl) r h
 .cases x with
  |none=>cases h;exact r
  |some q=>
   obtain⟨k,n⟩:=q;simp only[DJ,aBu] at h;cases hc:xA k ws 0 with
   |none=>rw[hc] at h;cases h
   |some c=>
    rw[hc] at h;cases h;obtain⟨d,rfl,h2⟩:=NZ hc;obtain⟨v,hv,hs⟩:=r;refine⟨v,?_,hs⟩;show BY g ws[0+d]? n=_;rw[aVx,h2];exact hv
 .cases x with
  |none=>cases h;exact r
  |some q=>
   obtain⟨i,o⟩:=q;simp only[DJ,V3] at h;cases hc:H4 i o ws 0 with
   |none=>rw[hc] at h;cases h
   |some q=>
    obtain⟨c,q⟩:=q;rw[hc] at h;cases h;obtain⟨d,u,x,toks,oc,rfl,h2,rfl⟩:=WX hc;obtain⟨p,hp,hv⟩:=r;refine⟨⟨p.1,p.2+oc,p.3⟩,?_,by have:=hv.1;rwa [<-aVF] at this,hv.2.imp id fun hv=>by rw[hv];simp [aVF]⟩;show x7 g ws[0+d]? =_;rw[aVx,h2];simp [x7,hp]
 .cases x with
  |none=>cases h;exact r
  |some q=>
   obtain⟨i,o⟩:=q;simp only[DJ,V3] at h;cases hc:H4 i o ws 0 with
   |none=>rw[hc] at h;cases h
   |some q=>
    obtain⟨c,q⟩:=q;rw[hc] at h;cases h;obtain⟨d,u,x,toks,oc,rfl,h2,rfl⟩:=WX hc;obtain⟨p,hp,hv⟩:=r;refine⟨⟨p.1,p.2+oc,p.3⟩,?_,by rw[hv];simp [aVF]⟩;show x7 g ws[0+d]? =_;rw[aVx,h2];simp [x7,hp]
 .cases x with
  |none=>cases h;exact r
  |some i=>
   simp only[DJ,aBt] at h;cases hc:xA i ws 0 with
   |none=>rw[hc] at h;cases h
   |some c=>
    rw[hc] at h;cases h;obtain⟨d,rfl,h2⟩:=NZ hc;obtain⟨p,hp,hv⟩:=r;refine⟨p,?_,hv⟩;show x7 g ws[0+d]? =_;rw[aVx,h2];exact hp
theorem aMx {g:Gh}{w:pT}{ws:List rV}{t:Ty}{x y:t.den}{cs:pP}(h:a1v ws t x y) (r:Rd g w t x cs):Rd (w6 g ws) w t y cs:=by
 rcases h with⟨hp,rfl⟩ |h
 .exact wQ (g:=g) (g':=w6 g ws) rfl hp r
 .exact aMw r h
theorem aMy {ws:List rV}{t u:Ty}{x y:t.den}{o:Nat}{l:List u.den}(h:a1v ws t x y) (hg:rJ (.list u) t x o=some l):rJ (.list u) t y o=some l:=by
 rcases h with⟨_,rfl⟩ |h
 .exact hg
 .exact a1x (DJ ws) (fun _ _ _=>rfl) (fun _ _=>rfl) h hg
structure RJ (H:sD) (ws:List rV) (L:List qD):Prop where
 len:ws.length=L.length
 ok: ∀(c:Nat) wh b,ws[c]? =some wh->L[c]? =some b->WW H ws wh b
 nodup:(sK ws).Nodup
theorem a1y: ∀(ws:List rV) (c:Nat),(sK ws)[c]? =(ws[c]?).map rV.id
 |[],c=>by simp [sK]
 |w::ws,0=>rfl
 |w::ws,c+1=>by simpa[sK] using a1y ws c
theorem JB: ∀ws ws':List rV,sK (ws++ws')=sK ws++sK ws'
 |[],_=>rfl
 |w::ws,ws'=>by simp [sK,JB ws ws']
theorem JC: ∀{i:Nat}{l:pS},CL i l=true↔i∈l
 |i,[]=>by simp [CL]
 |i,j::r=>by
  simp only[CL,aU9];by_cases h:i=j
  .simp [h]
  .rw[aUX h,JC];simp [h]
theorem WZ {ws:List rV}(h:(sK ws).Nodup) {c c':Nat}{x y:rV}(hx:ws[c]? =some x) (hy:ws[c']? =some y) (he:x.id=y.id):c=c':=by
 have h1:(sK ws)[c]? =some x.id:=by rw[a1y,hx];rfl
 have h2:(sK ws)[c']? =some x.id:=by rw[a1y,hy,he];rfl
 obtain⟨l1,e1⟩:=aVd.1 h1;obtain⟨l2,e2⟩:=aVd.1 h2;have hp:=aVV.1 h;rcases Nat.lt_trichotomy c c' with h3|h3|h3
 .exact absurd (e1.trans e2.symm) (hp c c' l1 l2 h3)
 .exact h3
 .exact absurd (e2.trans e1.symm) (hp c' c l2 l1 h3)
theorem aCS: ∀{toks:pN}{q k:Nat},xZ toks q=some k->(q,k)∈toks
 |[],_,_,h=>by simp [xZ] at h
 |(q',k')::r,q,k,h=>by
  simp only[xZ] at h;split at h
  .rename_i e;subst e;simp only[aUT] at h;subst h;simp
  .exact aU3 _ (aCS h)
theorem aMz {v t:Ty}: ∀{u:Ty}{x:u.den}{o q:Nat}{y:t.den}{l:(Ty.list v).den},rJ t u x o=some y->rJ (.list v) u x (o+q)=some l->q<t.cells->rJ (.list v) t y q=some l:=by
 intro u
 induction u with
 |pair a b iha ihb=>
  intro x o q y l h g hq;by_cases hu:o=0/\t= .pair a b
  .obtain⟨rfl,rfl⟩:=hu;unfold rJ at h;rw[aW0 rfl] at h;simp only[v7,aUT] at h;subst h;simpa using g
  .have keyh:(if o<a.cells then rJ t a x.1 o else rJ t b x.2 (o-a.cells))=some y:=by
    cases o with
    |zero=>
     unfold rJ at h;rw[aWB (fun e=>hu ⟨rfl,e.symm⟩)] at h;simpa using h
    |succ o=>simpa[rJ] using h
   have keyg: ∀z,rJ (.list v) (.pair a b) x z=(if z<a.cells then rJ (.list v) a x.1 z else rJ (.list v) b x.2 (z-a.cells)):=by
    intro z;cases z with
    |zero=>
     conv=>lhs;unfold rJ
     rw[aWB (by intro e;cases e),Nat.zero_sub]
    |succ z=>simp [rJ]
   rw[keyg] at g;by_cases ho:o<a.cells
   .rw[aUU ho] at keyh;have hfit:o+t.cells<=a.cells:=by
     have: ∀{u:Ty}{x:u.den}{o:Nat}{y:t.den},rJ t u x o=some y->o+t.cells<=u.cells:=by
      intro u
      induction u with
      |pair a b iha ihb=>
       intro x o y h;have key: ∀o,(if o<a.cells then rJ t a x.1 o else rJ t b x.2 (o-a.cells))=some y->o+t.cells<=a.cells+b.cells:=by
        intro o h;by_cases ho:o<a.cells
        .rw[aUU ho] at h;have:=iha h;omega
        .rw[aUX ho] at h;have:=ihb h;omega
       cases o with
       |zero=>
        unfold rJ at h;split at h
        .rename_i e;subst e;simp
        .exact key 0 (by simpa using h)
       |succ o=>exact key (o+1) (by simpa[rJ] using h)
      |_=>
       intro x o y h;cases o with
       |zero=>
        unfold rJ at h;split at h
        .rename_i e;subst e;simp
        .simp at h
       |succ o=>simp [rJ] at h
     exact this keyh
    rw[aUU pI] at g;exact iha keyh g hq
   .rw[aUX ho] at keyh;rw[aUX pI,show o+q-a.cells=o-a.cells+q from by omega] at g;exact ihb keyh g hq
 |_=>
  intro x o q y l h g hq;cases o with
  |zero=>
   unfold rJ at h;split at h
   .rename_i e;subst e;simp only[v7,aUT] at h
    try subst h
    simpa using g
   .simp at h
  |succ o=>simp [rJ] at h
theorem aMA {g:Gh}{w:pT}{H:sD}{ws:List rV}{L:List qD}(hH:sM g w H) (hm:RJ H ws L):sM (w6 g ws) w (qT 0 L):=by
 have wsL: ∀c b,qH (qT 0 L) c=some b->∃wh,ws[c]? =some wh/\WW H ws wh b:=by
  intro c b h;rw[y6] at h;have hlt:c<ws.length:=hm.len▸(aVd.1 h).1;exact⟨ws[c],aU5 hlt,hm.ok c _ b (aU5 hlt) h⟩
 have own: ∀c b wh,ws[c]? =some wh->WW H ws wh b->∀bb oo,sG (w6 g ws) c b bb oo->∃blk,qH H wh.id=some blk/\sG g wh.id blk bb oo:=by
  intro c b wh hwh hw bb oo ho;cases wh with
  |box i u x toks off=>
   cases b with
   |cells t y ts=>
    obtain⟨h1,⟨y0,h2,h3⟩,h4⟩:=hw;obtain⟨p,hp,e1,e2,e3⟩:=ho;have hp':x7 g ws[c]? =some p:=hp;rw[hwh] at hp';obtain⟨p0,hp0,rfl⟩:=aU1.1 hp';obtain⟨p1,cs,hp1,hR,_⟩:=hH.blk i _ h1;obtain⟨c1,c2,c3,hcs,hl,hR2⟩:=EJ hR h2;have l1:=tC hR;have l2:=tC hR2;rw[hcs] at l1;simp only[aUW] at l1;exact⟨_,h1,p0,hp0,e1,by simp at e2;omega,by simp at e3;omega⟩
   |_=>exact hw.elim
  |tok k=>
   cases b with
   |grow e cc m=>
    obtain⟨v,hv,hb⟩:=ho;have hv':BY g ws[c]? m=some v:=hv;rw[hwh] at hv';exact⟨_,hw,v,hv',hb⟩
   |map s t l=>
    obtain⟨p,hp,hb⟩:=ho;have hp':x7 g ws[c]? =some p:=hp;rw[hwh] at hp';exact⟨_,hw.1,p,hp',hb⟩
   |row e t l m=>
    obtain⟨v,hv,hb⟩:=ho;have hv':BY g ws[c]? m=some v:=hv;rw[hwh] at hv';exact⟨_,hw.1,v,hv',hb⟩
   |_=>exact hw.elim
 refine⟨fun c b h=> ?_,fun c c' b b' bb oo hne h1 h2 o1 o2=> ?_,hH.sl,hH.tab.1,fun c b bb oo h ho=> ?_⟩
 rotate_right
 .obtain⟨wh,hwh,hw⟩:=wsL c b h;obtain⟨k1,g1,p1⟩:=own c b wh hwh hw bb oo ho;exact hH.tab.2 _ _ bb oo g1 p1
 .obtain⟨wh,hwh,hw⟩:=wsL c b h;cases wh with
  |box i u x toks off=>
   cases b with
   |cells t y ts=>
    obtain⟨h1,⟨y0,h2,h3⟩,h4⟩:=hw;obtain⟨p,cs,hp,hR,hra,hth,hns,htk⟩:=hH.blk i _ h1;obtain⟨c1,c2,c3,rfl,rfl,hR2⟩:=EJ hR h2;have l1:=tC hR;have l2:=tC hR2;simp only[aUW] at l1;refine⟨⟨p.1,p.2+c1.length,p.3⟩,c2,?_,aMx h3 hR2,fun j v hv=> ?_,⟨fun j hj=> ?_,fun h0 s hs=>hth.2 pI s hs⟩,fun j hj hs=> ?_,fun q n hm'=> ?_⟩
    .show x7 g ws[c]? =_;rw[hwh];simp [x7,hp]
    .have:=hra (c1.length+j) v (by
      have hj':=(aVd.1 hv).1;rw[aU0,aVa pI,aVK,aVf hj'];exact hv)
     rw[aVF];exact this
    .have:=hth.1 (c1.length+j) pI;rw[aVF];exact this
    .exact hns (c1.length+j) pI (by rw[<-aVF];exact hs)
    .obtain⟨k,k1,k2,k3⟩:=h4 q n hm';have hmem:(c1.length+q,k)∈toks:=aCS k2;obtain⟨u',l,v,g1,g2,g3⟩:=htk _ _ hmem;refine⟨u',l,v,aMy h3 (aMz h2 g1 k3),?_,?_⟩
     .rw[aU0,aVa pI,aVK,aVf pI] at g2;exact g2
     .show BY g ws[n]? _=_;rw[k1];exact g3
   |_=>exact hw.elim
  |tok k=>
   cases b with
   |grow e cc m=>
    have e1:(w6 g ws).cur c=g.cur k:=by
     funext n;show BY g ws[c]? n=_;rw[hwh];rfl
    obtain⟨v,xs,hv,hr,hn,hs⟩:=hH.blk k _ hw;exact⟨v,xs,by rw[e1];exact hv,hr,fun m hm'=>by rw[e1];exact hn m hm',hs⟩
   |map s t l=>
    obtain⟨p,es,cl,hp,hp0,hh,hM,hS⟩:=hH.blk k _ hw.1;refine⟨p,es,cl,?_,hp0,hh,R6 (g:=g) (g':=w6 g ws) rfl hw.2.1 hw.2.2 hM,hS⟩;show x7 g ws[c]? =_;rw[hwh];exact hp
   |row e t l m=>
    have e1:(w6 g ws).cur c=g.cur k:=by
     funext n;show BY g ws[c]? n=_;rw[hwh];rfl
    obtain⟨hl,v,xs,hv,hr,hF,hn,hs⟩:=hH.blk k _ hw.1;exact⟨hl,v,xs,by rw[e1];exact hv,hr,DM (fun _ _ h=>wQ (g:=g) (g':=w6 g ws) rfl hw.2 h) hF,fun m hm'=>by rw[e1];exact hn m hm',hs⟩
   |_=>exact hw.elim
 .obtain⟨wh,hwh,hw⟩:=wsL c b h1;obtain⟨wh',hwh',hw'⟩:=wsL c' b' h2;obtain⟨k1,g1,p1⟩:=own c b wh hwh hw bb oo o1;obtain⟨k2,g2,p2⟩:=own c' b' wh' hwh' hw' bb oo o2;exact hH.dis wh.id wh'.id k1 k2 bb oo (fun e=>hne (WZ hm.nodup hwh hwh' e)) g1 g2 p1 p2
theorem aCT {H:sD}{ws more:List rV}: ∀{wh:rV}{b:qD},WV H ws wh b->WV H (ws++more) wh b
 | .box _ _ _ _ _,.cells _ _ _,⟨h1,h2,h4⟩=>⟨h1,h2,fun q n h=>let ⟨k,k1,k2⟩:=h4 q n h;⟨k,by rw[aVf (aVd.1 k1).1];exact k1,k2⟩⟩
 | .box _ _ _ _ _,.grow _ _ _,h=>h.elim
 | .box _ _ _ _ _,.dead,h=>h.elim
 | .box _ _ _ _ _,.row _ _ _ _,h=>h.elim
 | .box _ _ _ _ _,.map _ _ _,h=>h.elim
 | .box _ _ _ _ _,.iter _ _,h=>h.elim
 | .tok _,.iter _ _,h=>h.elim
 | .tok _,.row _ _ _ _,h=>h
 | .tok _,.grow _ _ _,h=>h
 | .tok _,.map _ _ _,h=>h
 | .tok _,.cells _ _ _,h=>h.elim
 | .tok _,.dead,h=>h.elim
theorem O0 (g:Gh) (w:pT) (ws more:List rV):Le (w6 g ws) w (w6 g (ws++more)) w:=by
 refine⟨fun _ _ h=>h,fun _ _ _=>rfl,fun c p h=> ?_,fun c n v h=> ?_⟩
 .have h':x7 g ws[c]? =some p:=h;show x7 g (ws++more)[c]? =some p;cases hc:ws[c]? with
  |none=>rw[hc] at h';cases h'
  |some wh=>rw[aVf (aVd.1 hc).1];exact h'
 .have h':BY g ws[c]? n=some v:=h;show BY g (ws++more)[c]? n=some v;cases hc:ws[c]? with
  |none=>rw[hc] at h';cases h'
  |some wh=>rw[aVf (aVd.1 hc).1];exact h'
theorem O1 {g g':Gh}{w w':pT}(h:Le g w g' w'): ∀{ss:List qE}{vs:pP},vR g w ss vs->vR g' w' ss vs
 |[],_,r=>r
 |_::_,_,⟨v,vs',e,r1,r2⟩=>⟨v,vs',e,DL h r1,O1 h r2⟩
theorem HF {g:Gh}{w:pT}: ∀{ss:List qE}{vs:pP}{s:qE}{v:pU},vR g w ss vs->rX g w s v->vR g w (ss++[s]) (vs++[v])
 |[],_,_,_,h,k=>by rw[show _=[] from h];exact⟨_,_,rfl,k,rfl⟩
 |_::_,_,_,_,⟨v,vs',e,r1,r2⟩,k=>⟨v,vs'++_,by rw[e];rfl,r1,HF r2 k⟩
theorem HE.tok {H:sD}{ws:List rV}{L:List qD}(h:HE H ws L) {k:Nat}{b0:qD}(hk:WV H (ws++[.tok k]) (.tok k) b0) (hn:k∉sK ws):HE H (ws++[.tok k]) (L++[b0]):=by
 refine⟨by simp [h.len],fun i wh b h1 h2=> ?_,?_⟩
 .by_cases hi:i<ws.length
  .rw[aVf hi] at h1;rw[aVf (h.len▸hi)] at h2;exact aCT (h.ok i wh b h1 h2)
  .rw[aVa pI] at h1;rw[aVa (by rw[<-h.len];omega),<-h.len] at h2;obtain⟨d,hd⟩: ∃d,i-ws.length=d:=⟨_,rfl⟩;rw[hd] at h1 h2;cases d with
   |zero=>
    simp only[aVt,aUT] at h1 h2;subst h1;subst h2;exact hk
   |succ d=>simp at h1
 .rw[JB];exact List.nodup_append.2 ⟨h.nodup,by simp [sK],fun a ha b hb=>by
   simp only[sK,rV.id,aVb] at hb;subst hb;intro e;exact hn (e▸ha)⟩
theorem aCU: ∀{os:pS}{n q m:Nat},(q,m)∈L1 os n->∃j:Nat,os[j]? =some q/\m=n+j
 |[],_,_,_,h=>by simp [L1] at h
 |q'::os,n,q,m,h=>by
  simp only[L1,aU9,aVs] at h;rcases h with⟨rfl,rfl⟩ |h
  .exact⟨0,rfl,rfl⟩
  .obtain⟨j,h1,h2⟩:=aCU h;exact⟨j+1,by simpa using h1,pI⟩
theorem aCV {n:Nat}: ∀{os:pS}{j q:Nat},N9 n os=true->os[j]? =some q->q<n
 |[],_,_,_,h=>by simp at h
 |q'::os,0,q,h,h2=>by
  simp only[N9,aU6,aU8] at h;simp only[aVt,aUT] at h2;exact h2▸h.1
 |q'::os,j+1,q,h,h2=>by
  simp only[N9,aU6] at h;exact aCV h.2 (by simpa using h2)
theorem X0 {H:sD}{toks:pN}{o:Nat}: ∀{os:pS}{a a':tI},zF H toks o os (some a)=some a'->
  ∃(ks:pS) (bs:List qD),ks.length=os.length/\bs.length=os.length/\a'.args=a.args/\a'.H.reverse=a.H.reverse++bs/\a'.ws.reverse=a.ws.reverse++ks.map rV.tok/\a'.n=a.n+os.length/\
   (∀(j:Nat) q k,os[j]? =some q->ks[j]? =some k->xZ toks (o+q)=some k)/\(∀(j:Nat) k b,ks[j]? =some k->bs[j]? =some b->qH H k=some b/\∃e c m,b= .grow e c m)/\(∀k∈ks,k∉sK a.ws.reverse)/\ks.Nodup
 |[],a,a',h=>by
  simp only[zF,aUT] at h;subst h;exact⟨[],[],rfl,rfl,rfl,by simp,by simp,rfl,by simp,by simp,by simp,by simp⟩
 |q::os,a,a',h=>by
  simp only[zF] at h;have none_no: ∀os,zF H toks o os none=none:=by
   intro os
   induction os with
   |nil=>rfl
   |cons q os ih=>
    have:A1 H (xZ toks (o+q)) none=none:=by
     cases xZ toks (o+q) with
     |none=>rfl
     |some k=>simp only[A1];cases qH H k with
      |none=>rfl
      |some b=>cases b<;>rfl
    simp only[zF,this,ih]
  cases hk:xZ toks (o+q) with
  |none=>rw[hk] at h;simp only[A1,none_no] at h;cases h
  |some k=>
   rw[hk] at h;simp only[A1] at h;cases hb:qH H k with
   |none=>rw[hb] at h;simp only[CM,none_no] at h;cases h
   |some b=>
    rw[hb] at h;cases b with
    |grow e c m=>
     simp only[CM] at h;by_cases hm:CL k (sK a.ws)=true
     .rw[aUU hm,none_no] at h;cases h
     .rw[aUX hm] at h;obtain⟨ks,bs,h1,h2,h3,h4,h5,h6,h7,h8,h9,h10⟩:=X0 h;simp only[aVI] at h4 h5 h9;have hrev: ∀ws:List rV,∀i,i∈sK ws.reverse↔i∈sK ws:=by
       intro ws i
       induction ws with
       |nil=>simp
       |cons x r ih=>rw[aVI,JB];simp [sK,ih,or_comm]
      refine⟨k::ks,.grow e c m::bs,by simp [h1],by simp [h2],h3,by rw[h4];simp,by rw[h5];simp,by rw[h6];simp;omega,fun j q' k'=> ?_,fun j k' b'=> ?_,fun k' hk'=> ?_,?_⟩
      .cases j with
       |zero=>intro e1 e2;simp only[aVt,aUT] at e1 e2;subst e1;subst e2;exact hk
       |succ j=>intro e1 e2;exact h7 j q' k' (by simpa using e1) (by simpa using e2)
      .cases j with
       |zero=>intro e1 e2;simp only[aVt,aUT] at e1 e2;subst e1;subst e2;exact⟨hb,_,_,_,rfl⟩
       |succ j=>intro e1 e2;exact h8 j k' b' (by simpa using e1) (by simpa using e2)
      .rcases aU9.1 hk' with rfl|hk'
       .rw[hrev];exact fun hmem=>hm (JC.2 hmem)
       .intro hmem;exact h9 k' hk' (by rw[JB];exact List.mem_append_left _ hmem)
      .refine List.nodup_cons.2 ⟨fun hmem=>h9 k hmem (by rw[JB];simp [sK,rV.id]),h10⟩
    |cells t y ts=>simp only[CM,none_no] at h;cases h
    |row=>simp only[CM,none_no] at h;cases h
    |map=>simp only[CM,none_no] at h;cases h
    |iter=>simp only[CM,none_no] at h;cases h
    |dead=>simp only[CM,none_no] at h;cases h
theorem aCW: ∀ks:pS,sK (ks.map rV.tok)=ks
 |[]=>rfl
 |k::ks=>by simp [sK,rV.id,aCW ks]
theorem HE.box {H:sD}{ws:List rV}{L:List qD}(h:HE H ws L) {t u:Ty}{x:u.den}{y:t.den}{toks:pN}{i o:Nat}{os ks:pS}{bs:List qD}(hi:qH H i=some (.cells u x toks)) (hy:rJ t u x o=some y) (hlt:N9 t.cells os=true) (hn:i∉sK ws)
  (h1:ks.length=os.length) (h2:bs.length=os.length) (h7: ∀(j:Nat) q k,os[j]? =some q->ks[j]? =some k->xZ toks (o+q)=some k) (h8: ∀(j:Nat) k b,ks[j]? =some k->bs[j]? =some b->qH H k=some b/\∃e c m,b= .grow e c m) (h9: ∀k∈ks,k∉sK (ws++[.box i u x toks o])) (h10:ks.Nodup):
  HE H ((ws++[.box i u x toks o])++ks.map rV.tok) ((L++[.cells t y (L1 os (ws.length+1))])++bs):=by
 have hlen1:(ws++[rV.box i u x toks o]).length=ws.length+1:=by simp
 have hlen2:(L++[qD.cells t y (L1 os (ws.length+1))]).length=ws.length+1:=by simp [h.len]
 refine⟨by simp [h.len,h1,h2],fun c wh b e1 e2=> ?_,?_⟩
 .by_cases hc:c<ws.length
  .rw[aVf pI,aVf hc] at e1;rw[aVf pI,aVf (h.len▸hc)] at e2;rw[aU0];exact aCT (h.ok c wh b e1 e2)
  .by_cases hc2:c=ws.length
   .subst hc2;rw[aVf pI,aVa (aVi _),aWZ] at e1;rw[aVf pI,aVa (by rw[h.len];exact aVi _),h.len,aWZ] at e2;simp only[aVt,aUT] at e1 e2;subst e1;subst e2;refine⟨hi,hy,fun q n hm=> ?_⟩;rw[<-h.len] at hm;obtain⟨j,hj,rfl⟩:=aCU hm;have hjl:j<ks.length:=by rw[h1];exact(aVd.1 hj).1
    refine⟨ks[j],?_,h7 j q _ hj (aU5 hjl),aCV hlt hj⟩;rw[aVa pI,hlen1,show ws.length+1+j- (ws.length+1)=j from by omega];simp [hjl]
   .rw[aVa pI,hlen1] at e1;rw[aVa pI,hlen2] at e2;rw[List.getElem?_map] at e1;obtain⟨k,hk,rfl⟩:=aU1.1 e1;obtain⟨hg,e,cc,m,rfl⟩:=h8 _ k b hk e2;exact hg
 .rw[JB,aCW];refine List.nodup_append.2 ⟨?_,h10,fun a ha b hb e=>h9 b hb (e▸ha)⟩;rw[JB];exact List.nodup_append.2 ⟨h.nodup,by simp [sK],fun a ha b hb=>by
   simp only[sK,rV.id,aVb] at hb;subst hb;intro e;exact hn (e▸ha)⟩
theorem X1 (ws:List rV) (i:Nat):i∈sK ws.reverse↔i∈sK ws:=by
 induction ws with
 |nil=>simp
 |cons x r ih=>rw[aVI,JB];simp [sK,ih,or_comm]
structure BZ (g:Gh) (w:pT) (H:sD) (vals:pP) (a:tI):Prop where
 n:a.n=a.ws.reverse.length
 m:HE H a.ws.reverse a.H.reverse
 args:vR (w6 g a.ws.reverse) w a.args.reverse vals
theorem aMB {g:Gh}{w:pT}{ws:List rV}{t:Ty}(hp:t.pure=true) {x:t.den}{v:pU}{k:pR}(h:rX g w (.val t x,k) v):rX (w6 g ws) w (.val t x,none) v:=
 ⟨h.1.imp (fun⟨a,cs,e,q⟩=>⟨a,cs,e,wQ (g:=g) (g':=w6 g ws) rfl hp q⟩) (fun⟨a,q⟩=>⟨a,wQ (g:=g) (g':=w6 g ws) rfl hp q⟩),trivial⟩
theorem aMC {H:sD}{k:pR}{a b:tI}{l m:List qE}(h:A1 H k (some ⟨l,a.H,a.ws,a.n⟩)=some b):b.args=l/\A1 H k (some ⟨m,a.H,a.ws,a.n⟩)=some ⟨m,b.H,b.ws,b.n⟩:=by
 cases k with
 |none=>cases h
 |some k=>
  simp only[A1] at h|-;cases hb:qH H k with
  |none=>rw[hb] at h;simp [CM] at h
  |some bl=>
   rw[hb] at h;cases bl with
   |grow e c n=>
    simp only[CM] at h|-;split at h
    .cases h
    .rename_i hc;rw[aUX hc];cases h;exact⟨rfl,rfl⟩
   |_=>simp [CM] at h
theorem aCX {H:sD}{toks:pN}{o:Nat}{m:List qE}: ∀{os:pS}{a b:tI},zF H toks o os (some a)=some b->b.args=a.args/\zF H toks o os (some ⟨m,a.H,a.ws,a.n⟩)=some ⟨m,b.H,b.ws,b.n⟩
 |[],a,b,h=>by simp only[zF,aUT] at h;subst h;exact⟨rfl,rfl⟩
 |q::os,a,b,h=>by
  simp only[zF] at h|-;have none_no: ∀os,zF H toks o os none=none:=by
   intro os
   induction os with
   |nil=>rfl
   |cons q os ih=>
    have:A1 H (xZ toks (o+q)) none=none:=by
     cases xZ toks (o+q) with
     |none=>rfl
     |some k=>simp only[A1];cases qH H k with
      |none=>rfl
      |some b=>cases b<;>rfl
    simp only[zF,this,ih]
  cases hm:A1 H (xZ toks (o+q)) (some a) with
  |none=>rw[hm,none_no] at h;cases h
  |some c=>
   rw[hm] at h;obtain⟨h1,h2⟩:=aMC (a:=a) (l:=a.args) (m:=m) hm;obtain⟨h3,h4⟩:=aCX (m:=m) h;rw[h2];exact⟨h3.trans h1,h4⟩
theorem aMD {H:sD}{t:Ty}{os:pS}{i o:Nat}{a b:tI}{m:List qE}(h:wP H t os i o a (qH H i)=some b):wP H t os i o ⟨m,a.H,a.ws,a.n⟩ (qH H i)=some ⟨(.val .ref (some (a.n,0)),none)::m,b.H,b.ws,b.n⟩:=by
 cases hb:qH H i with
 |none=>rw[hb] at h;simp [wP] at h
 |some bl=>
  rw[hb] at h;cases bl with
  |cells u x toks=>
   simp only[wP] at h|-;cases hy:rJ t u x o with
   |none=>rw[hy] at h;simp [FT] at h
   |some y=>
    rw[hy] at h;simp only[FT] at h|-;split at h
    .rename_i hc;rw[aUU hc];exact(aCX (m:=(.val .ref (some (a.n,0)),none)::m) h).2
    .cases h
  |_=>simp [wP] at h
theorem aCY {g:Gh}{i o:Nat}{p:Pl}{v:pU}: ∀{l:pN}{vs:pP},yV g l vs->g.J i=some p->v= .pointer (some ⟨p.1,p.2+o,none⟩)->yV g (l++[(i,o)]) (vs++[v])
 |[],vs,h,hp,hv=>by rw[show vs=[] from h];exact⟨p,[],hp,by rw[hv];rfl,rfl⟩
 |(_,_)::l,vs,⟨q,vs',h1,h2,h3⟩,hp,hv=>⟨q,vs'++[v],h1,by rw[h2];rfl,aCY h3 hp hv⟩
theorem aCZ {α:Type}: ∀(l acc:List α),A0 l acc=l.reverse++acc
 |[],_=>rfl
 |x::l,acc=>by simp [A0,aCZ l]
theorem aC0 {g:Gh}{w:pT}{H:sD}(hH:sM g w H) {t:Ty}{os:pS}{i o:Nat}{vals:pP}{a a':tI}(ha:BZ g w H vals a) {p:Pl}(hp:g.J i=some p) (h:wP H t os i o a (qH H i)=some a'):
  BZ g w H vals ⟨a.args,a'.H,a'.ws,a'.n⟩/\∃more,a'.ws.reverse=a.ws.reverse++more/\a'.args=(.val .ref (some (a.n,0)),none)::a.args/\(w6 g a'.ws.reverse).J a.n=some ⟨p.1,p.2+o,p.3⟩:=by
 cases hb:qH H i with
 |none=>rw[hb] at h;simp [wP] at h
 |some b=>
  rw[hb] at h;cases b with
  |cells u x toks=>
   simp only[wP] at h;cases hy:rJ t u x o with
   |none=>rw[hy] at h;simp [FT] at h
   |some y=>
    rw[hy] at h;simp only[FT] at h;split at h
    .rename_i hc;simp only[aU6,aVo] at hc;obtain⟨ks,bs,h1,h2,h3,h4,h5,h6,h7,h8,h9,h10⟩:=X0 h;simp only[aVI] at h3 h4 h5 h6 h9;have hnm:i∉sK a.ws.reverse:=fun hmem=>by
      have:=JC.2 ((X1 _ _).1 hmem);rw[hc.2] at this;cases this
     have e5:a'.ws.reverse=a.ws.reverse++([rV.box i u x toks o]++ks.map rV.tok):=by rw[h5];simp only[aU0]
     refine⟨⟨by rw[h6];simp only;rw[h5,ha.n];simp [h1];omega,?_,?_⟩,_,e5,h3,?_⟩
     .simp only;rw[h4,h5,ha.n];exact ha.m.box hb hy hc.1 hnm h1 h2 h7 h8 h9 h10
     .simp only;rw[e5];exact O1 (O0 g w _ _) ha.args
     .show x7 g a'.ws.reverse[a.n]? =_;rw[e5,ha.n,aVa (aVi _),aWZ];show (g.J i).map _=_;rw[hp];rfl
    .cases h
  |grow=>simp [wP] at h
  |row=>simp [wP] at h
  |map=>simp [wP] at h
  |iter=>simp [wP] at h
  |dead=>simp [wP] at h
theorem aC1 {H:sD}{f:FuncId}{args0:List qE}: ∀{ks:List (Ty×pS)}{cs ids:pN}{a a':tI},yG H f args0 ks cs ids (some a)=some a'->∃s more,a'.args=s::args0/\a'.ws.reverse=a.ws.reverse++more
 |[],[],ids,a,a',h=>by
  simp only[yG,aUT] at h;subst h;exact⟨_,[],rfl,by simp⟩
 |[],_::_,_,_,_,h=>by simp [yG] at h
 |_::_,[],_,_,_,h=>by simp [yG] at h
 |(t,os)::ks,(i,o)::cs,ids,a,a',h=>by
  simp only[yG] at h;cases hb:wP H t os i o a (qH H i) with
  |none=>rw[hb] at h;cases ks<;>cases cs<;>simp [yG] at h
  |some b=>
   rw[hb] at h;obtain⟨s,more,h1,h2⟩:=aC1 h;obtain⟨more0,h3⟩: ∃more0,b.ws.reverse=a.ws.reverse++more0:=by
    unfold wP at hb;split at hb
    .unfold FT at hb;split at hb
     .split at hb
      .obtain⟨ks,bs,_,_,_,_,h5,_⟩:=X0 hb;exact⟨_,by rw[h5];simp only[aVI];exact aU0 ..⟩
      .cases hb
     .cases hb
    .cases hb
   exact⟨s,more0++more,h1,by rw[h2,h3,aU0]⟩
theorem aC2 {g:Gh}{w:pT}{H:sD}(hH:sM g w H) {f:FuncId}{args0:List qE}{vals:pP}: ∀{ks:List (Ty×pS)}{cs:pN}{ids:pN}{vs us:pP}{a a':tI},BZ g w H vals ⟨args0,a.H,a.ws,a.n⟩->
  yV g cs vs->yV (w6 g a.ws.reverse) ids.reverse us->yG H f args0 ks cs ids (some a)=some a'->
  BZ g w H vals ⟨args0,a'.H,a'.ws,a'.n⟩/\∃ids',a'.args=(.val .clo (some (f,ids')),none)::args0/\(∃more,a'.ws.reverse=a.ws.reverse++more)/\yV (w6 g a'.ws.reverse) ids' (us++vs)
 |[],[],ids,vs,us,a,a',ha,hv,hu,h=>by
  simp only[yG,aCZ,List.append_nil,aUT] at h;subst h;rw[show vs=[] from hv,List.append_nil];exact⟨ha,_,rfl,⟨[],by simp⟩,hu⟩
 |[],_::_,_,_,_,_,_,_,_,_,h=>by simp [yG] at h
 |_::_,[],_,_,_,_,_,_,_,_,h=>by simp [yG] at h
 |(t,os)::ks,(i,o)::cs,ids,vs,us,a,a',ha,⟨p,vs',hp,hv1,hv2⟩,hu,h=>by
  simp only[yG] at h;cases hb:wP H t os i o a (qH H i) with
  |none=>rw[hb] at h;cases ks<;>cases cs<;>simp [yG] at h
  |some b=>
   rw[hb] at h;have hb':wP H t os i o ⟨args0,a.H,a.ws,a.n⟩ (qH H i)=some ⟨(.val .ref (some (a.n,0)),none)::args0,b.H,b.ws,b.n⟩:=aMD hb;obtain⟨q1,more,q2,q3,q4⟩:=aC0 hH ha hp hb';simp only at q1 q2 q3 q4;have hmono:=O0 g w a.ws.reverse more;rw[<-q2] at hmono;have hu2:yV (w6 g b.ws.reverse) ((a.n,0)::ids).reverse (us++[.pointer (some ⟨p.1,p.2+o,none⟩)]):=by
    simp only[aVI];exact aCY (a01 hmono.J hu) q4 pK
   obtain⟨z1,ids',z2,⟨more',z3⟩,z4⟩:=aC2 hH (a:=b) q1 hv2 hu2 h;refine⟨z1,ids',z2,⟨more++more',by rw[z3,q2,aU0]⟩,?_⟩;rw[hv1];rw[aU0] at z4;exact z4
theorem aC3 {g:Gh}{w:pT}{H:sD}(hH:sM g w H) {p:PK}{s:qE}{v:pU}{vals:pP}{a a':tI}(ha:BZ g w H vals a) (hs:rX g w s v) (h:yT H a p s=some a'):BZ g w H (vals++[v]) a':=by
 unfold yT at h;split at h
 .rename_i f k;simp only[V1,aUT] at h;subst h;refine⟨ha.n,ha.m,?_⟩;simp only[aVI];refine HF ha.args ⟨?_,trivial⟩;rcases hs.1 with⟨h1,_⟩ |⟨h1,vs,h2,h3⟩
  .cases h1
  .rw[show vs=[] from h2] at h3;exact .inr ⟨rfl,[],rfl,h3⟩
 .rename_i t x k _;simp only[V0] at h;split at h
  .rename_i hp;simp only[aUT] at h;subst h;refine⟨ha.n,ha.m,?_⟩;simp only[aVI];exact HF ha.args (aMB hp hs)
  .cases h
 .simp only[V2,aUT] at h;subst h;refine⟨ha.n,ha.m,?_⟩;simp only[aVI];exact HF ha.args ⟨hs.1,trivial⟩
 .rename_i t x k;cases hb:qH H k with
  |none=>rw[hb] at h;simp [CN] at h
  |some b=>
   rw[hb] at h;cases b with
   |grow e c m=>
    simp only[CN] at h;split at h
    .rename_i hc;simp only[aU6,aVo] at hc;simp only[aUT] at h;subst h;have hnm:k∉sK a.ws.reverse:=fun hmem=>by
      have:=JC.2 ((X1 _ _).1 hmem);rw[hc.2] at this;cases this
     refine⟨by simp [ha.n],by simpa using ha.m.tok (b0:= .grow e c m) hb hnm,?_⟩;simp only[aVI];refine HF (O1 (O0 g w _ _) ha.args) (WU (g:=g) (g':=w6 g (a.ws.reverse++[.tok k])) (k':=some a.n) rfl hc.1 (fun _ _=>⟨_,rfl⟩) hs (fun c' e1=> ?_) (fun e1=>by cases e1));cases e1;refine⟨_,rfl,fun n u hu=> ?_⟩;show BY g (a.ws.reverse++[rV.tok k])[a.n]? n=some u;rw[ha.n,aVa (aVi _),aWZ];exact hu
    .cases h
   |cells=>simp [CN] at h
   |row=>simp [CN] at h
   |map=>simp [CN] at h
   |iter=>simp [CN] at h
   |dead=>simp [CN] at h
 .rename_i t os i o k;obtain⟨p,hp,hv⟩:=A7 hs.1;obtain⟨h1,more,h2,h3,h4⟩:=aC0 hH ha hp h;refine⟨h1.n,h1.m,?_⟩;rw[h3];simp only[aVI];exact HF h1.args ⟨.inr ⟨rfl,_,h4,by rw[hv];rfl⟩,trivial⟩
 .rename_i i k;cases hb:qH H i with
  |none=>rw[hb] at h;simp [CO] at h
  |some b=>
   rw[hb] at h;cases b with
   |map s t l=>
    simp only[CO] at h;split at h
    .rename_i hc;simp only[aU6,aVo] at hc;simp only[aUT] at h;subst h;have hnm:i∉sK a.ws.reverse:=fun hmem=>by
      have:=JC.2 ((X1 _ _).1 hmem);rw[hc.2] at this;cases this
     refine⟨by simp [ha.n],by simpa using ha.m.tok (b0:= .map s t l) ⟨hb,hc.1.1,hc.1.2⟩ hnm,?_⟩;simp only[aVI];obtain⟨p,hp,hv⟩: ∃p,g.J i=some p/\v= .map (some p.1):=by
      obtain⟨p,h1,e⟩:=BE rfl hs.1;simp only[aVT,and_true] at e;exact⟨p,h1,e⟩
     refine HF (O1 (O0 g w _ _) ha.args) ⟨.inr ⟨rfl,p,?_,by rw[hv]⟩,trivial⟩;show x7 g (a.ws.reverse++[rV.tok i])[a.n]? =_;rw[ha.n,aVa (aVi _),aWZ];exact hp
    .cases h
   |cells=>simp [CO] at h
   |row=>simp [CO] at h
   |grow=>simp [CO] at h
   |iter=>simp [CO] at h
   |dead=>simp [CO] at h
 .rename_i k n k';cases hb:qH H k with
  |none=>rw[hb] at h;simp [CP] at h
  |some b=>
   rw[hb] at h;cases b with
   |row e t l m=>
    simp only[CP] at h;split at h
    .rename_i hc;simp only[aU6,aVo] at hc;simp only[aUT] at h;subst h;have hnm:k∉sK a.ws.reverse:=fun hmem=>by
      have:=JC.2 ((X1 _ _).1 hmem);rw[hc.2] at this;cases this
     refine⟨by simp [ha.n],by simpa using ha.m.tok (b0:= .row e t l m) ⟨hb,hc.1⟩ hnm,?_⟩;simp only[aVI];obtain⟨h1,h2⟩:=hs.1;refine HF (O1 (O0 g w _ _) ha.args) ⟨⟨?_,h2⟩,trivial⟩;show BY g (a.ws.reverse++[rV.tok k])[a.n]? n=_;rw[ha.n,aVa (aVi _),aWZ];exact h1
    .cases h
   |cells=>simp [CP] at h
   |grow=>simp [CP] at h
   |map=>simp [CP] at h
   |iter=>simp [CP] at h
   |dead=>simp [CP] at h
 .rename_i ks f cs k';obtain⟨vs,hv1,hv2⟩: ∃vs,yV g cs vs/\v= .func (.func f) #[] vs.toArray:=by
   rcases hs.1 with⟨h1,_⟩ |⟨_,vs,h2,h3⟩
   .cases h1
   .simp only[aVT,and_true] at h3;exact⟨vs,h2,h3⟩
  obtain⟨z1,ids',z2,_,z4⟩:=aC2 hH (ids:=[]) (a:=a) (us:=[]) ha hv1 rfl h;refine⟨z1.n,z1.m,?_⟩;rw[z2];simp only[aVI];exact HF z1.args ⟨.inr ⟨rfl,vs,by simpa using z4,by rw[hv2]⟩,trivial⟩
 .cases h
theorem aC4 {g:Gh}{w:pT}{H:sD}(hH:sM g w H): ∀{ps:List PK}{ss:List qE}{vs vals:pP}{a a':tI},BZ g w H vals a->vR g w ss vs->yH H ps ss (some a)=some a'->BZ g w H (vals++vs) a'
 |[],[],vs,vals,a,a',ha,hs,h=>by
  simp only[yH,aUT] at h;subst h;rw[show vs=[] from hs,List.append_nil];exact ha
 |p::ps,s::ss,vs,vals,a,a',ha,⟨v,vs',e,h1,h2⟩,h=>by
  simp only[yH] at h;cases ho:yT H a p s with
  |none=>rw[ho] at h;cases ps<;>cases ss<;>simp [yH] at h
  |some a1=>
   rw[ho] at h;have:=aC4 hH (aC3 hH ha h1 ho) h2 h;rw[e];simpa using this
 |[],_::_,_,_,_,_,_,_,h=>by simp [yH] at h
 |_::_,[],_,_,_,_,_,_,h=>by simp [yH] at h
theorem BZ.nil (g:Gh) (w:pT) (H:sD):BZ g w H [] ⟨[],[],[],0⟩:=
 ⟨rfl,⟨rfl,fun c wh b h _=>by simp at h,by simp [sK]⟩,rfl⟩
theorem aC5: ∀(l:List qD) (n:Nat),IX l n=l[n]?
 |[],_=>by simp [IX]
 |_::_,0=>rfl
 |_::r,n+1=>by simpa[IX] using aC5 r n
theorem aME {g:Gh}{w:pT}: ∀{t:Ty}{x:t.den}{cs:pP}{o:Nat}{y:pQ},Rd g w t x cs->H0 t x o=some y->∃cs',FX g y cs':=by
 intro t
 induction t with
 |pair a b iha ihb=>
  intro x cs o y r h;obtain⟨c1,c2,_,r1,r2⟩:=r;simp only[H0] at h;split at h
  .exact iha r1 h
  .exact ihb r2 h
 |rl e u=>
  intro x cs o y r h;cases o with
  |zero=>simp only[H0,aUT] at h;subst h;exact⟨cs,r⟩
  |succ o=>simp [H0] at h
 |_=>intro x cs o y r h;cases o<;>simp [H0] at h
theorem aMF {g:Gh}{w:pT}{H:sD}(hH:sM g w H) {vals:pP}{a:tI}(ha:BZ g w H vals a) (c q:Nat) (pk:PK): ∃v,rX g w (L2 q pk (IX a.H c)) v:=by
 rw[aC5];have any: ∃v,rX g w (.any,none) v:=⟨undef,trivial,trivial⟩;cases hb:a.H[c]? with
 |none=>cases pk<;>exact any
 |some b=>
  cases b with
  |cells t y ts=>
   have hlt:c<a.H.length:=(aVd.1 hb).1;have hb':a.H.reverse[a.H.length-1-c]? =some (.cells t y ts):=by
    rw[List.getElem?_reverse pI,show a.H.length-1- (a.H.length-1-c)=c by omega];exact hb
   obtain⟨wh,hwh⟩: ∃wh,a.ws.reverse[a.H.length-1-c]? =some wh:=by
    have hl:=ha.m.len;simp only[List.length_reverse] at hl;exact⟨_,aU5 (by rw[List.length_reverse];omega)⟩
   have hw:=ha.m.ok _ wh _ hwh hb';cases wh with
   |tok k=>exact hw.elim
   |box i u x toks off=>
    obtain⟨h1,h2,_⟩:=hw;obtain⟨p,cs,hp,hR,_⟩:=hH.blk i _ h1;obtain⟨c1,c2,c3,hcs,hl,hR2⟩:=EJ hR h2;cases pk with
    |p t' os=>
     simp only[L2];cases hg:rJ .ref t y q with
     |none=>exact any
     |some z=>
      cases z with
      |none=>exact any
      |some z=>
       obtain⟨d1,d2,d3,_,_,hR3⟩:=EJ hR2 hg;obtain⟨p',hp',e⟩:=hR3;exact⟨_,.inr ⟨rfl,p',hp',rfl⟩,trivial⟩
    |m=>
     simp only[L2];cases hg:rJ .mp t y q with
     |none=>exact any
     |some z=>
      cases z with
      |none=>exact any
      |some z=>
       obtain⟨d1,d2,d3,_,_,hR3⟩:=EJ hR2 hg;obtain⟨p',hp',e⟩:=hR3;exact⟨_,.inr ⟨rfl,p',hp',rfl⟩,trivial⟩
    |v=>exact any
    |own=>exact any
    |f ks=>exact any
    |r=>
     simp only[L2];cases hg:H0 t y q with
     |none=>exact any
     |some z=>
      cases z with
      |none=>exact any
      |some z=>
       obtain⟨cs',hR3⟩:=aME hR2 hg;obtain⟨v,hv,_,hsh⟩:=hR3;exact⟨v,⟨hv,hsh⟩,trivial⟩
  |_=>cases pk<;>exact any
theorem aC6 {g:Gh}{w:pT}{H:sD}(hH:sM g w H) {vals:pP}: ∀{gs:List (Nat×Nat×PK)}{a a':tI},BZ g w H vals a->BU H gs (some a)=some a'->BZ g w H vals a'
 |[],a,a',ha,h=>by
  simp only[BU,aUT] at h;subst h;exact ha
 |(c,q,pk)::gs,a,a',ha,h=>by
  simp only[BU] at h;obtain⟨v,hv⟩:=aMF hH ha (a.n-1-c) q pk;cases hp:yT H a pk (L2 q pk (IX a.H (a.n-1-c))) with
  |none=>
   rw[hp] at h;simp only[NA] at h;cases gs<;>simp [BU] at h
  |some b=>
   rw[hp] at h;simp only[NA] at h;have hb:=aC3 hH ha hv hp;refine aC6 hH (a:=⟨a.args,b.H,b.ws,b.n⟩) ⟨hb.n,hb.m,?_⟩ h;obtain⟨s,more,e1,e2⟩: ∃s more,b.args=s::a.args/\b.ws.reverse=a.ws.reverse++more:=by
    have hp':=hp;unfold yT at hp';split at hp'
    .simp only[V1,aUT] at hp';subst hp';exact⟨_,[],rfl,by simp⟩
    .simp only[V0] at hp';split at hp'
     .simp only[aUT] at hp';subst hp';exact⟨_,[],rfl,by simp⟩
     .cases hp'
    .simp only[V2,aUT] at hp';subst hp';exact⟨_,[],rfl,by simp⟩
    .unfold CN at hp';split at hp'
     .split at hp'
      .simp only[aUT] at hp';subst hp';exact⟨_,[_],rfl,aVI ..⟩
      .cases hp'
     .cases hp'
    .unfold wP at hp';split at hp'
     .unfold FT at hp';split at hp'
      .split at hp'
       .obtain⟨ks,bs,_,_,h3,_,h5,_⟩:=X0 hp';exact⟨_,_,h3,by rw[h5];simp only[aVI];exact aU0 ..⟩
       .cases hp'
      .cases hp'
     .cases hp'
    .unfold CO at hp';split at hp'
     .split at hp'
      .simp only[aUT] at hp';subst hp';exact⟨_,[_],rfl,aVI ..⟩
      .cases hp'
     .cases hp'
    .unfold CP at hp';split at hp'
     .split at hp'
      .simp only[aUT] at hp';subst hp';exact⟨_,[_],rfl,aVI ..⟩
      .cases hp'
     .cases hp'
    .exact aC1 hp'
    .cases hp'
   rw[e2];exact O1 (O0 g w _ _) ha.args
theorem aMG {b:Option qD}{l:Option (List qD)}{r:List qD}(h:a0l b l=some r): ∃b' l',b=some b'/\l=some l'/\r=b'::l':=by
 cases b<;>cases l<;>simp [a0l] at h
 exact⟨_,_,rfl,rfl,h.symm⟩
theorem aC7 {W:List rV}: ∀{L0 L:List qD},IY W L0=some L->L.length=L0.length/\∀(c:Nat) (b:qD),L[c]? =some b->∃b0,L0[c]? =some b0/\V4 W b0=some b
 |[],L,h=>by
  simp only[IY,aUT] at h;subst h;exact⟨rfl,fun c b h=>by simp at h⟩
 |b0::L0,L,h=>by
  simp only[IY] at h;obtain⟨b',l',h1,h2,rfl⟩:=aMG h;obtain⟨k1,k2⟩:=aC7 h2;refine⟨by simp [k1],fun c b hc=> ?_⟩;cases c with
  |zero=>simp only[aVt,aUT] at hc;subst hc;exact⟨b0,rfl,h1⟩
  |succ c=>obtain⟨b1,q1,q2⟩:=k2 c b (by simpa using hc);exact⟨b1,by simpa using q1,q2⟩
theorem HE.ren {H:sD}{ws:List rV}{L0 L:List qD}(h:HE H ws L0) (hc:IY ws L0=some L):RJ H ws L:=by
 obtain⟨k1,k2⟩:=aC7 hc;refine⟨h.len.trans k1.symm,fun c wh b hw hb=> ?_,h.nodup⟩;obtain⟨b0,q1,q2⟩:=k2 c b hb;have hok:=h.ok c wh b0 hw q1;cases b0 with
 |cells t y ts=>
  cases wh with
  |tok k=>exact hok.elim
  |box i u x toks o=>
   obtain⟨h1,h2,h3⟩:=hok;simp only[V4] at q2;split at q2
   .rename_i hp;obtain rfl:=aUZ q2;exact⟨h1,⟨y,h2,.inl ⟨hp,rfl⟩⟩,h3⟩
   .cases hy:DJ ws t y with
    |none=>rw[hy] at q2;cases q2
    |some z=>
     rw[hy] at q2;obtain rfl:=aUZ q2;exact⟨h1,⟨y,h2,.inr hy⟩,h3⟩
 |_=>
  simp only[V4,aUT] at q2;subst q2;cases wh<;>exact hok
theorem AO: ∀(W:List rV) (c:Nat),B9 W c=W[c]?
  |[],c=>by simp [B9]
  |_::_,0=>rfl
  |_::W,c+1=>by simpa[B9] using AO W c
theorem aC8: ∀L:List qD,r6 L=L.length
  |[]=>rfl
  |_::L=>by simp [r6,aC8 L]
theorem aC9 {α:Type}: ∀(l acc:List α),A0 l acc=l.reverse++acc
  |[],_=>rfl
  |x::l,acc=>by simp [A0,aC9 l]
theorem a1z {a:Option (Nat×qD)}{b:Option (List (Nat×qD))}{l:List (Nat×qD)}(h:QJ a b=some l): ∃q r,a=some q∧b=some r∧l=q::r:=by
  cases a<;>cases b<;>simp [QJ] at h
  exact⟨_,_,rfl,rfl,h.symm⟩
def JD (base n:Nat) (W ws:List rV) (R:List qD) (c0:Nat) (id:Nat) (b:qD):Prop:=
  (∃(c:Nat) (i:Nat) (u:Ty) (x:u.den) (toks:pN) (o:Nat) (b0:qD),ws[c]? =some (.box i u x toks o)∧id=i∧R[c]? =some b0∧yI base n i o W u x toks b0=some (i,b))∨
  (∃(c k:Nat) (b0:qD),ws[c]? =some (.tok k)∧id=k∧R[c]? =some b0∧AI k b0=some (k,b))∨
  (∃(c:Nat) (b0:qD),R[c]? =some b0∧id=base+(c0+c)∧ws[c]? =none∧EF base n (c0+c) W b0=some (id,b))
theorem JD.succ {base n:Nat}{W:List rV}{wh:rV}{ws:List rV}{b0:qD}{R:List qD}{c0 id:Nat}{b:qD}(h:JD base n W ws R (c0+1) id b):JD base n W (wh::ws) (b0::R) c0 id b:=by
  rcases h with⟨c,i,u,x,toks,o,b1,h1,h2,h3,h4⟩ |⟨c,k,b1,h1,h2,h3,h4⟩ |⟨c,b1,h1,h2,h3,h4⟩
  .exact .inl ⟨c+1,i,u,x,toks,o,b1,by simpa using h1,h2,by simpa using h3,h4⟩
  .exact .inr (.inl ⟨c+1,k,b1,by simpa using h1,h2,by simpa using h3,h4⟩)
  .exact .inr (.inr ⟨c+1,b1,by simpa using h1,by rw[h2];omega,by simpa using h3,by rw[show c0+(c+1)=c0+1+c from by omega];exact h4⟩)
theorem JD.succ0 {base n:Nat}{W:List rV}{b0:qD}{R:List qD}{c0 id:Nat}{b:qD}(h:JD base n W [] R (c0+1) id b):JD base n W [] (b0::R) c0 id b:=by
  rcases h with⟨c,i,u,x,toks,o,b1,h1,_⟩ |⟨c,k,b1,h1,_⟩ |⟨c,b1,h1,h2,h3,h4⟩
  .simp at h1
  .simp at h1
  .exact .inr (.inr ⟨c+1,b1,by simpa using h1,by rw[h2];omega,by simp,by rw[show c0+(c+1)=c0+1+c from by omega];exact h4⟩)
theorem aDa {i:Nat}{t:Ty}{ts:pN}{o:Option t.den}{q:Nat×qD}(h:aBy i t ts o=some q): ∃y,o=some y∧q=(i,.cells t y ts):=by
  cases o with
  |none=>cases h
  |some y=>exact⟨y,rfl,(aUZ h).symm⟩
theorem aMH {base n c:Nat}{W:List rV}{b:qD}{q:Nat×qD}(h:EF base n c W b=some q):q.1=base+c:=by
  cases b<;>simp only[EF] at h
  · split at h
    .exact(aUZ h)▸rfl
    .obtain⟨y,_,rfl⟩:=aDa h;rfl
  .exact(aUZ h)▸rfl
  · split at h
    .exact(aUZ h)▸rfl
    .cases h
  · split at h
    .exact(aUZ h)▸rfl
    .cases h
  .cases h
  .exact(aUZ h)▸rfl
def bY (base n:Nat) (W:List rV) (t:Ty) (x y:t.den):Prop:=(t.pure=true∧y=x)∨CQ base n W t x=some y
theorem a1A {base n i o:Nat}{W:List rV}{u t:Ty}{x:u.den}{y:t.den}{toks ts:pN}{q:Nat×qD}(h:yI base n i o W u x toks (.cells t y ts)=some q):
    ∃y2 z,bY base n W t y y2∧t8 t y2 u x o=some z∧q=(i,.cells u z (qZ (EE base n W o ts) (wG toks o t.cells))):=by
  simp only[yI] at h;split at h
  · rename_i hp
    cases hs:t8 t y u x o with
    |none=>rw[hs] at h;simp [V6] at h
    |some z=>rw[hs] at h;exact⟨y,z,.inl ⟨hp,rfl⟩,hs,(aUZ h).symm⟩
  · cases hy:CQ base n W t y with
    |none=>rw[hy] at h;cases h
    | some y2=>
      rw[hy] at h;simp only[aBz] at h;cases hs:t8 t y2 u x o with
      |none=>rw[hs] at h;simp [V6] at h
      |some z=>rw[hs] at h;exact⟨y2,z,.inr hy,hs,(aUZ h).symm⟩
theorem aMI {k:Nat}{b:qD}{q:Nat×qD}(h:AI k b=some q):q.1=k:=by
  cases b<;>simp only[AI] at h
  .cases h
  .exact(aUZ h)▸rfl
  · split at h
    .exact(aUZ h)▸rfl
    .cases h
  · split at h
    .exact(aUZ h)▸rfl
    .cases h
  .cases h
  .exact(aUZ h)▸rfl
theorem aMJ {base n i o:Nat}{W:List rV}{u:Ty}{x:u.den}{toks:pN}{b:qD}{q:Nat×qD}(h:yI base n i o W u x toks b=some q):q.1=i:=by
  cases b with
  |cells t y ts=>obtain⟨y2,z,_,_,rfl⟩:=a1A h;rfl
  |grow=>simp [yI] at h
  |row=>simp [yI] at h
  |map=>simp [yI] at h
  |iter=>simp [yI] at h
  |dead=>simp only[yI,aUT] at h;exact h▸rfl
theorem O2 {base n:Nat}{W:List rV}: ∀{ws:List rV}{R:List qD}{c0:Nat}{upd:List (Nat×qD)},BV base n W c0 ws R=some upd→
    ws.length≤R.length∧(∀id b,qH upd id=some b→JD base n W ws R c0 id b)∧(∀id,id∈qJ upd→∃b,qH upd id=some b)∧
    (∀(c:Nat) wh,ws[c]? =some wh→wh.id∈qJ upd)∧(∀(c:Nat) b,R[c]? =some b→ws[c]? =none→base+(c0+c)∈qJ upd)
  | [],[],_,upd,h=>by
    simp only[BV,aUT] at h;subst h;exact⟨aVi _,fun _ _ h=>by simp [qH] at h,fun _ h=>by simp [qJ] at h,fun _ _ h=>by simp at h,fun _ _ h=>by simp at h⟩
  | [],b::R,c0,upd,h=>by
    simp only[BV] at h;obtain⟨q,r,h1,h2,rfl⟩:=a1z h;obtain⟨k1,k2,k3,k4,k5⟩:=O2 h2;have hq:=aMH h1;obtain⟨q1,q2⟩:=q;simp only at hq;subst hq;refine⟨by simp,fun id b' hg=> ?_,fun id hi=> ?_,fun c wh hw=>by simp at hw,fun c b' hb hn=> ?_⟩
    · simp only[qH] at hg
      split at hg
      · rename_i e
        obtain rfl:=aUZ hg;subst e;exact .inr (.inr ⟨0,b,rfl,rfl,by simp,h1⟩)
      .exact(k2 id b' hg).succ0
    · simp only[qH]
      by_cases e:base+c0=id
      .rw[aUU e];exact⟨_,rfl⟩
      · rw[aUX e]
        simp only[qJ,aU9] at hi;exact k3 id (hi.resolve_left (Ne.symm e))
    · cases c with
      |zero=>simp [qJ]
      | succ c=>
        have:=k5 c b' (by simpa using hb) pK;simp only[qJ,aU9];right;rw[show base+(c0+(c+1))=base+(c0+1+c) from by omega];exact this
  | .box i u x toks o::ws,[],c0,upd,h=>by simp [BV] at h
  | .tok k::ws,[],c0,upd,h=>by simp [BV] at h
  | .box i u x toks o::ws,b::R,c0,upd,h=>by
    simp only[BV] at h;obtain⟨q,r,h1,h2,rfl⟩:=a1z h;obtain⟨k1,k2,k3,k4,k5⟩:=O2 h2;have hq:=aMJ h1;obtain⟨q1,q2⟩:=q;simp only at hq;subst hq;refine⟨by simp;omega,fun id b' hg=> ?_,fun id hi=> ?_,fun c wh hw=> ?_,fun c b' hb hn=> ?_⟩
    · simp only[qH] at hg
      split at hg
      · rename_i e
        obtain rfl:=aUZ hg;subst e;exact .inl ⟨0,q1,u,x,toks,o,b,rfl,rfl,rfl,h1⟩
      .exact(k2 id b' hg).succ
    · simp only[qH]
      by_cases e:q1=id
      .rw[aUU e];exact⟨_,rfl⟩
      · rw[aUX e]
        simp only[qJ,aU9] at hi;exact k3 id (hi.resolve_left (Ne.symm e))
    · cases c with
      |zero=>simp only[aVt,aUT] at hw;subst hw;simp [qJ,rV.id]
      |succ c=>simp only[qJ,aU9];exact .inr (k4 c wh (by simpa using hw))
    · cases c with
      |zero=>simp at hn
      | succ c=>
        have:=k5 c b' (by simpa using hb) (by simpa using hn);simp only[qJ,aU9];right;rw[show base+(c0+(c+1))=base+(c0+1+c) from by omega];exact this
  | .tok k::ws,b::R,c0,upd,h=>by
    simp only[BV] at h;obtain⟨q,r,h1,h2,rfl⟩:=a1z h;obtain⟨k1,k2,k3,k4,k5⟩:=O2 h2;have hq:=aMI h1;obtain⟨q1,q2⟩:=q;simp only at hq;subst hq;refine⟨by simp;omega,fun id b' hg=> ?_,fun id hi=> ?_,fun c wh hw=> ?_,fun c b' hb hn=> ?_⟩
    · simp only[qH] at hg
      split at hg
      · rename_i e
        obtain rfl:=aUZ hg;subst e;exact .inr (.inl ⟨0,q1,b,rfl,rfl,rfl,h1⟩)
      .exact(k2 id b' hg).succ
    · simp only[qH]
      by_cases e:q1=id
      .rw[aUU e];exact⟨_,rfl⟩
      · rw[aUX e]
        simp only[qJ,aU9] at hi;exact k3 id (hi.resolve_left (Ne.symm e))
    · cases c with
      |zero=>simp only[aVt,aUT] at hw;subst hw;simp [qJ,rV.id]
      |succ c=>simp only[qJ,aU9];exact .inr (k4 c wh (by simpa using hw))
    · cases c with
      |zero=>simp at hn
      | succ c=>
        have:=k5 c b' (by simpa using hb) (by simpa using hn);simp only[qJ,aU9];right;rw[show base+(c0+(c+1))=base+(c0+1+c) from by omega];exact this
def uN (g g':Gh) (base:Nat) (W:List rV) (ids:pS):Gh:=
  ⟨g'.S,fun i=>if base≤i∧i∈ids then g'.J (i-base) else match xA i W 0 with|some c=>g'.J c|none=>g.J i,
   fun i=>if base≤i∧i∈ids then g'.cur (i-base) else match xA i W 0 with|some c=>g'.cur c|none=>g.cur i⟩
theorem X2 {n c:Nat}{wh:Option rV}:NB n c wh=true↔c<n∧wh=none:=by
  cases wh with
  |none=>simp [NB]
  |some wh=>simp [NB]
theorem aMK {base n c i:Nat}{wh:Option rV}(h:BA base n c wh=some i):wh=some (.tok i)∨(wh=none∧c<n∧i=base+c):=by
  cases wh with
  | none=>
    simp only[BA] at h;split at h
    .rename_i hc;exact .inr ⟨rfl,hc,(aUZ h).symm⟩
    .cases h
  | some wh=>
    cases wh with
    |box=>cases h
    |tok k=>simp only[BA,aUT] at h;subst h;exact .inl rfl
theorem X3 {i:Nat}: ∀{ws:List rV}{c0:Nat},(∀c:Nat,ws[c]? ≠some (.tok i))→xA i ws c0=none
  |[],_,_=>rfl
  | .tok j::r,c0,h=>by
    simp only[xA];split
    .rename_i e;subst e;exact absurd rfl (h 0)
    .exact X3 (fun c=>by have:=h (c+1);simpa using this)
  | .box _ _ _ _ _::r,c0,h=>by
    simp only[xA];exact X3 (fun c=>by have:=h (c+1);simpa using this)
theorem aML {i c:Nat}{ws:List rV}(hnd:(sK ws).Nodup) (h:ws[c]? =some (.tok i)):xA i ws 0=some c:=by
  cases hc:xA i ws 0 with
  | none=>
    exfalso
    have: ∀{ws:List rV}{c0 c:Nat},ws[c]? =some (.tok i)→xA i ws c0≠none:=by
      intro ws
      induction ws with
      |nil=>intro c0 c h;simp at h
      | cons wh r ih=>
        intro c0 c h;cases c with
        | zero=>
          simp only[aVt,aUT] at h;subst h;simp [xA]
        | succ c=>
          simp only[aVH] at h;cases wh with
          |box=>exact ih h
          | tok j=>
            simp only[xA];split
            .simp
            .exact ih h
    exact this h hc
  | some d=>
    obtain⟨d',e1,h2⟩:=NZ hc;rw[aVx] at e1;subst e1;rw[WZ hnd h h2 rfl]
theorem Fr.mono {A B:Nat→Nat→Prop}{w w':pT}{S S':Nat→Nat→Prop}(h:Fr A w w' S S') (hAB: ∀b o,A b o→B b o):Fr B w w' S S':=
  ⟨h.os,h.tape,h.output,h.size,fun b hb hn=>h.blk b hb (fun o ho=>hn o (hAB b o ho)),fun b o hb hn=>h.cell b o hb (fun ho=>hn (hAB b o ho)),fun b o hs=>(h.new b o hs).imp id (Or.imp id (hAB b o)),fun b s hs=>(h.shape b s hs).imp id fun h o=>hAB b o (h o)⟩
theorem X4 {base n:Nat}{W:List rV}{o:Nat}: ∀{ts:pN}{q k:Nat},(q,k)∈EE base n W o ts→∃q' c,(q',c)∈ts∧BA base n c (B9 W c)=some k∧q=o+q'
  |[],_,_,h=>by simp [EE] at h
  | (q',c)::r,q,k,h=>by
    simp only[EE] at h;cases hn:BA base n c (B9 W c) with
    | none=>
      rw[hn] at h;obtain⟨a,b,h1,h2⟩:=X4 h;exact⟨a,b,aU3 _ h1,h2⟩
    | some k'=>
      rw[hn] at h;rcases aU9.1 h with h|h
      · simp only[aVs] at h
        obtain⟨rfl,rfl⟩:=h;exact⟨q',c,by simp,hn,rfl⟩
      · obtain⟨a,b,h1,h2⟩:=X4 h
        exact⟨a,b,aU3 _ h1,h2⟩
theorem xS {α:Type}{x:α}: ∀{l m:List α},x∈qZ l m↔x∈l∨x∈m
  |[],m=>by simp [qZ]
  |y::l,m=>by simp [qZ,xS (l:=l),or_assoc]
theorem a1B: ∀{toks:pN}{off n q k:Nat},(q,k)∈wG toks off n→(q,k)∈toks∧¬(off≤q∧q<off+n)
  |[],_,_,_,_,h=>by simp [wG] at h
  | (q',k')::r,off,n,q,k,h=>by
    simp only[wG] at h;split at h
    · obtain⟨h1,h2⟩:=a1B h
      exact⟨aU3 _ h1,h2⟩
    · rename_i hn
      rcases aU9.1 h with h|h
      · cases h
        exact⟨by simp,hn⟩
      · obtain⟨h1,h2⟩:=a1B h
        exact⟨aU3 _ h1,h2⟩
section
variable {g g':Gh}{w w':pT}{H:sD}{W:List rV}{L:List qD}{r:qK}{v:pU}{base:Nat}{upd:List (Nat×qD)}
variable (hH:sM g w H) (hm:RJ H W L) (hr:EN (w6 g W) w L r g' w' v) (hb:BV base r.H.length W 0 W r.H=some upd) (hf: ∀i,i∈qJ upd→base≤i→g.J i=none∧∀n,g.cur i n=none)
include hH hm hr hb hf
theorem FZ {c:Nat}{wh:rV}(hw:W[c]? =some wh):wh.id∈qJ upd∧wh.id<base∧∃b,L[c]? =some b∧WW H W wh b:=by
  have hin:=(O2 hb).2.2.2.1 c wh hw;have hlt:c<L.length:=hm.len▸(aVd.1 hw).1;have hok:=hm.ok c wh _ hw (aU5 hlt);refine⟨hin,Nat.lt_of_not_le fun hle=> ?_,_,aU5 hlt,hok⟩;have hfr:=hf _ hin hle;cases wh with
  | box i u x toks o=>
    cases hL:L[c] with
    | cells t y ts=>
      rw[hL] at hok;obtain⟨p,cs,hp,_⟩:=hH.blk i _ hok.1;rw[show (rV.box i u x toks o).id=i from rfl] at hfr;rw[hfr.1] at hp;cases hp
    |_=>rw[hL] at hok;exact hok.elim
  | tok k=>
    cases hL:L[c] with
    | grow e cc m=>
      rw[hL] at hok;obtain⟨v,xs,hv,_⟩:=hH.blk k _ hok;rw[show (rV.tok k).id=k from rfl] at hfr;rw[hfr.2] at hv;cases hv
    | map s t l=>
      rw[hL] at hok;obtain⟨p,es,cl,hp,_⟩:=hH.blk k _ hok.1;rw[show (rV.tok k).id=k from rfl] at hfr;rw[hfr.1] at hp;cases hp
    | row e t l m=>
      rw[hL] at hok;obtain⟨_,v,xs,hv,_⟩:=hH.blk k _ hok.1;rw[show (rV.tok k).id=k from rfl] at hfr;rw[hfr.2] at hv;cases hv
    |_=>rw[hL] at hok;exact hok.elim
theorem aMM {c:Nat}(hc:c<r.H.length) (hn:W[c]? =none):base+c∈qJ upd:=by
  have:=(O2 hb).2.2.2.2 c _ (aU5 hc) hn;simpa using this
theorem O3 {c:Nat}(hc:c<r.H.length) (hn:W[c]? =none):(uN g g' base W (qJ upd)).J (base+c)=g'.J c∧(uN g g' base W (qJ upd)).cur (base+c)=g'.cur c:=by
  have hin:=aMM hH hm hr hb hf hc hn;refine⟨?_,?_⟩
  · show (if base≤base+c∧base+c∈qJ upd then _ else _)=_
    rw[aUU ⟨pI,hin⟩,aVK]
  · show (if base≤base+c∧base+c∈qJ upd then _ else _)=_
    rw[aUU ⟨pI,hin⟩,aVK]
theorem aDb {i:Nat}(hi: ¬(base≤i∧i∈qJ upd)) (hn:xA i W 0=none):(uN g g' base W (qJ upd)).J i=g.J i∧(uN g g' base W (qJ upd)).cur i=g.cur i:=by
  refine⟨?_,?_⟩
  · show (if base≤i∧i∈qJ upd then _ else _)=_
    rw[aUX hi,hn]
  · show (if base≤i∧i∈qJ upd then _ else _)=_
    rw[aUX hi,hn]
theorem aDc {c k:Nat}(hw:W[c]? =some (.tok k)):(uN g g' base W (qJ upd)).J k=g'.J c∧(uN g g' base W (qJ upd)).cur k=g'.cur c:=by
  have hlt:=(FZ hH hm hr hb hf hw).2.1;simp only[rV.id] at hlt;have hc:=aML hm.nodup hw;refine⟨?_,?_⟩
  · show (if base≤k∧k∈qJ upd then _ else _)=_
    rw[aUX pI,hc]
  · show (if base≤k∧k∈qJ upd then _ else _)=_
    rw[aUX pI,hc]
theorem RK {c i:Nat}{u:Ty}{x:u.den}{toks:pN}{o:Nat}(hw:W[c]? =some (.box i u x toks o)):(uN g g' base W (qJ upd)).J i=g.J i∧(uN g g' base W (qJ upd)).cur i=g.cur i:=by
  have hlt:=(FZ hH hm hr hb hf hw).2.1;simp only[rV.id] at hlt;refine aDb hH hm hr hb hf pI (X3 fun d hd=> ?_);have:=WZ hm.nodup hw hd rfl;subst this;rw[hw] at hd;cases hd
theorem LN {c i:Nat}(hi:BA base r.H.length c W[c]? =some i):(uN g g' base W (qJ upd)).J i=g'.J c∧(uN g g' base W (qJ upd)).cur i=g'.cur c:=by
  rcases aMK hi with h|⟨h1,h2,rfl⟩
  .exact aDc hH hm hr hb hf h
  .exact O3 hH hm hr hb hf h2 h1
theorem aDd:Le g w (uN g g' base W (qJ upd)) w':=by
  have len: ∀{i c:Nat},xA i W 0=some c→W[c]? =some (.tok i)∧c<L.length:=by
    intro i c h;obtain⟨d,e1,h2⟩:=NZ h;rw[aVx] at e1;subst e1;exact⟨h2,hm.len▸(aVd.1 h2).1⟩
  refine⟨fun b o h=>(hr.shut b o h).1,fun b o h=>(hr.shut b o h).2,fun i p h=> ?_,fun i n u h=> ?_⟩
  · show (if base≤i∧i∈qJ upd then _ else _)=_
    rw[aUX (fun⟨h1,h2⟩=>by rw[(hf i h2 h1).1] at h;cases h)];cases hc:xA i W 0 with
    |none=>exact h
    | some c=>
      obtain⟨h1,h2⟩:=len hc;refine hr.Jt c p h2 ?_;show x7 g W[c]? =_;rw[h1];exact h
  · show (if base≤i∧i∈qJ upd then g'.cur (i-base) else match xA i W 0 with|some c=>g'.cur c|none=>g.cur i) n=_
    rw[aUX (fun⟨h1,h2⟩=>by rw[(hf i h2 h1).2] at h;cases h)];cases hc:xA i W 0 with
    |none=>exact h
    | some c=>
      obtain⟨h1,h2⟩:=len hc;refine hr.cur c n u h2 ?_;show BY g W[c]? n=_;rw[h1];exact h
theorem aMN {t:Ty}{x y:t.den}{cs:pP}(hx:Rd g' w' t x cs) (h:CQ base r.H.length W t x=some y):Rd (uN g g' base W (qJ upd)) w' t y cs:=by
  refine WY (g:=g') (g':=uN g g' base W (qJ upd)) rfl (CQ base r.H.length W) (fun a b x=>rfl) (fun t x=>rfl) (fun _=>rfl) (fun _ _=>rfl) (fun _=>rfl) (fun _=>rfl) (fun _=>rfl) (fun _ _ x y cs h hx=> ?_) (fun x y cs h hx=> ?_) (fun x y cs h hx=> ?_) (fun x y cs h hx=> ?_) (fun _=>rfl) hx h
  · cases x with
    |none=>cases h;exact hx
    | some q=>
      obtain⟨c,n⟩:=q;simp only[CQ,aBx,AO] at h;obtain⟨i,hi,rfl⟩:=aU1.1 h;obtain⟨v,hv,hs⟩:=hx;exact⟨v,by rw[(LN hH hm hr hb hf hi).2];exact hv,hs⟩
  · cases x with
    |none=>cases h;exact hx
    | some q=>
      obtain⟨c,o⟩:=q;simp only[CQ,L5] at h;obtain⟨p,hp,hv⟩:=hx;unfold L5.back2 at h;split at h
      · rename_i i uu x toks o' hwh
        cases h;rw[AO] at hwh;obtain⟨_,hlt,b,hL,hok⟩:=FZ hH hm hr hb hf hwh;cases b with
        | cells t y ts=>
          have hJ:=hr.J c t y ts hL;rw[hp] at hJ;have hJ':x7 g W[c]? =some p:=hJ.symm;rw[hwh] at hJ';obtain⟨p0,hp0,rfl⟩:=aU1.1 hJ';exact⟨p0,by rw[(RK hH hm hr hb hf hwh).1];exact hp0,by have:=hv.1;rwa [aVF] at this,hv.2.imp id fun hv=>by rw[hv];simp [aVF]⟩
        |_=>exact hok.elim
      · split at h
        · rename_i hn
          cases h;obtain⟨h1,h2⟩:=X2.1 hn;rw[AO] at h2;exact⟨p,by rw[(O3 hH hm hr hb hf h1 h2).1];exact hp,hv⟩
        .cases h
  · cases x with
    |none=>cases h;exact hx
    | some q=>
      obtain⟨c,o⟩:=q;simp only[CQ,L5] at h;obtain⟨p,hp,hv⟩:=hx;unfold L5.back2 at h;split at h
      · rename_i i uu x toks o' hwh
        cases h;rw[AO] at hwh;obtain⟨_,hlt,b,hL,hok⟩:=FZ hH hm hr hb hf hwh;cases b with
        | cells t y ts=>
          have hJ:=hr.J c t y ts hL;rw[hp] at hJ;have hJ':x7 g W[c]? =some p:=hJ.symm;rw[hwh] at hJ';obtain⟨p0,hp0,rfl⟩:=aU1.1 hJ';exact⟨p0,by rw[(RK hH hm hr hb hf hwh).1];exact hp0,by rw[hv];simp [aVF]⟩
        |_=>exact hok.elim
      · split at h
        · rename_i hn
          cases h;obtain⟨h1,h2⟩:=X2.1 hn;rw[AO] at h2;exact⟨p,by rw[(O3 hH hm hr hb hf h1 h2).1];exact hp,hv⟩
        .cases h
  · cases x with
    |none=>cases h;exact hx
    | some c=>
      simp only[CQ,aBw,AO] at h;obtain⟨i,hi,rfl⟩:=aU1.1 h;obtain⟨p,hp,hv⟩:=hx;exact⟨p,by rw[(LN hH hm hr hb hf hi).1];exact hp,hv⟩
theorem aDe {t:Ty}{x y:t.den}{cs:pP}(hx:Rd g' w' t x cs) (h:bY base r.H.length W t x y):Rd (uN g g' base W (qJ upd)) w' t y cs:=by
  rcases h with⟨hp,rfl⟩ |h
  .exact wQ (g:=g') (g':=uN g g' base W (qJ upd)) rfl hp hx
  .exact aMN hH hm hr hb hf hx h
omit hH hm hr hb hf in
theorem aDf {n:Nat}{t u:Ty}{x y:t.den}{o:Nat}{l:List u.den}(h:bY base n W t x y) (hg:rJ (.list u) t x o=some l):rJ (.list u) t y o=some l:=by
  rcases h with⟨_,rfl⟩ |h
  .exact hg
  .exact a1x (CQ base n W) (fun _ _ _=>rfl) (fun _ _=>rfl) h hg
theorem aDg: ∀(cs:pN) {l:pN}{vs:pP},yV g' cs vs→NC base r.H.length W cs=some l→yV (uN g g' base W (qJ upd)) l vs
  |[],l,vs,h,e=>by cases e;exact h
  | (c,o)::cs,l,vs,⟨p,vs',hp,hv,hr'⟩,e=>by
    unfold NC at e;cases h1:a0m base r.H.length c o (B9 W c) with
    |none=>rw[h1] at e;cases e
    | some q=>
      cases h2:NC base r.H.length W cs with
      |none=>rw[h1,h2] at e;cases e
      | some l'=>
        rw[h1,h2] at e;cases e;refine(?_ : ∃p vs',_);have ih:=aDg cs hr' h2;unfold a0m at h1;split at h1
        · rename_i i uu x toks o' hwh
          cases h1;rw[AO] at hwh;obtain⟨_,hlt,b,hL,hok⟩:=FZ hH hm hr hb hf hwh;cases b with
          | cells t y ts=>
            have hJ:=hr.J c t y ts hL;rw[hp] at hJ;have hJ':x7 g W[c]? =some p:=hJ.symm;rw[hwh] at hJ';obtain⟨p0,hp0,rfl⟩:=aU1.1 hJ';exact⟨p0,vs',by rw[(RK hH hm hr hb hf hwh).1];exact hp0,by rw[hv];simp [aVF],ih⟩
          |_=>exact hok.elim
        · split at h1
          · rename_i hn
            cases h1;obtain⟨h3,h4⟩:=X2.1 hn;rw[AO] at h4;exact⟨p,vs',by rw[(O3 hH hm hr hb hf h3 h4).1];exact hp,hv,ih⟩
          .cases h1
theorem aMO {s:qE}{u:pU}(h:rX g' w' s u):rX (uN g g' base W (qJ upd)) w' (V5 base r.H.length W s) u:=by
  obtain⟨d,k⟩:=s
  have tokk: ∀{t:Ty}(hp:t.pure=true) {x:t.den}{k:pR},(∀c,k=some c→∃u,t= .list u)→rX g' w' (.val t x,k) u→rX (uN g g' base W (qJ upd)) w' (.val t x,L4 base r.H.length W k) u:=by
    intro t hp x k hl h;cases k with
    |none=>exact WU (g:=g') (g':=uN g g' base W (qJ upd)) (k:=none) (k':=none) rfl hp (fun c e=>by cases e) h (fun c e=>by cases e) (fun _=>rfl)
    | some c=>
      simp only[L4,AO];cases hn:BA base r.H.length c W[c]? with
      | some i=>
        refine WU (g:=g') (g':=uN g g' base W (qJ upd)) (k:=some c) (k':=some i) rfl hp hl h (fun c' e=> ?_) (fun e=>by cases e);cases e;refine⟨_,rfl,fun n u hu=> ?_⟩;rw[(LN hH hm hr hb hf hn).2];exact hu
      | none=>
        exact WU (g:=g') (g':=uN g g' base W (qJ upd)) (k:=none) (k':=none) rfl hp (fun c e=>by cases e) ⟨h.1,trivial⟩ (fun c e=>by cases e) (fun _=>rfl)
  unfold V5;split
  · rename_i c m k' heq
    simp only[aVs] at heq;obtain⟨rfl,rfl⟩:=heq;simp only[L4,AO];cases hn:BA base r.H.length c W[c]? with
    | some i=>
      obtain⟨h3,h4⟩:=h.1;exact⟨⟨by rw[(LN hH hm hr hb hf hn).2];exact h3,h4⟩,trivial⟩
    |none=>exact⟨trivial,trivial⟩
  · rename_i c o k' heq
    simp only[aVs] at heq;obtain⟨rfl,rfl⟩:=heq;obtain⟨p,hp,hv⟩:=A7 h.1;unfold aBv;split
    · rename_i i uu x toks o' hwh
      rw[AO] at hwh;obtain⟨_,hlt,b,hL,hok⟩:=FZ hH hm hr hb hf hwh;cases b with
      | cells t y ts=>
        have hJ:=hr.J c t y ts hL;rw[hp] at hJ;have hJ':x7 g W[c]? =some p:=hJ.symm;rw[hwh] at hJ';obtain⟨p0,hp0,rfl⟩:=aU1.1 hJ';refine⟨.inr ⟨rfl,p0,by rw[(RK hH hm hr hb hf hwh).1];exact hp0,?_⟩,trivial⟩;rw[hv];simp [aVF]
      |_=>exact hok.elim
    · split
      · rename_i hn
        obtain⟨h1,h2⟩:=X2.1 hn;rw[AO] at h2;exact⟨.inr ⟨rfl,p,by rw[(O3 hH hm hr hb hf h1 h2).1];exact hp,by rw[hv]⟩,trivial⟩
      .exact⟨trivial,trivial⟩
  · rename_i k' heq
    simp only[aVs] at heq;obtain⟨rfl,rfl⟩:=heq;rcases h.1 with⟨h1,_⟩ |⟨h1,h2⟩
    .cases h1
    .exact⟨.inr ⟨h1,h2⟩,trivial⟩
  · rename_i c k' heq
    simp only[aVs] at heq;obtain⟨rfl,rfl⟩:=heq;simp only[L4,AO];cases hn:BA base r.H.length c W[c]? with
    | some i=>
      obtain⟨p,hp,hv⟩:LJ g' (some c) [u]:=BE rfl h.1;exact⟨.inr ⟨rfl,p,by rw[(LN hH hm hr hb hf hn).1];exact hp,hv⟩,trivial⟩
    |none=>exact⟨trivial,trivial⟩
  · rename_i k' heq
    simp only[aVs] at heq;obtain⟨rfl,rfl⟩:=heq;rcases h.1 with⟨h1,_⟩ |⟨h1,h2⟩
    .cases h1
    .exact⟨.inr ⟨h1,h2⟩,trivial⟩
  · rename_i f cs k' heq
    simp only[aVs] at heq;obtain⟨rfl,rfl⟩:=heq;cases hc:NC base r.H.length W cs with
    |none=>exact⟨trivial,trivial⟩
    | some l=>
      rcases h.1 with⟨h1,_⟩ |⟨_,vs,h2,h3⟩
      .cases h1
      .exact⟨.inr ⟨rfl,vs,aDg hH hm hr hb hf cs h2 hc,h3⟩,trivial⟩
  · rename_i t x k' hno hno0 hno2 hno3 hno4 heq
    simp only[aVs] at heq;obtain⟨rfl,rfl⟩:=heq;split
    · rename_i hp
      exact tokk hp aMs (aCO h)
    .exact⟨trivial,trivial⟩
  .exact⟨trivial,trivial⟩
end
theorem aDh {g:Gh}{w:pT}{H:sD}{W:List rV}{L:List qD}(hH:sM g w H) (hm:RJ H W L) {bb oo:Nat}(h:yY (w6 g W) (qT 0 L) bb oo):
  ∃(c:Nat) (wh:rV) (b blk:qD),W[c]? =some wh/\L[c]? =some b/\sG (w6 g W) c b bb oo/\qH H wh.id=some blk/\sG g wh.id blk bb oo:=by
 obtain⟨c,b,hc,ho⟩:=h;rw[y6] at hc;have hlt:c<W.length:=hm.len▸(aVd.1 hc).1;have hwh:W[c]? =some W[c]:=aU5 hlt;have hw:=hm.ok c _ b hwh hc;refine⟨c,W[c],b,?_⟩;generalize W[c]=wh at hwh hw;cases wh with
 |box i u x toks off=>
  cases b with
  |cells t y ts=>
   obtain⟨h1,⟨y0,h2,h3⟩,h4⟩:=hw;obtain⟨p,hp,e1,e2,e3⟩:=ho;have hp':x7 g W[c]? =some p:=hp;rw[hwh] at hp';obtain⟨p0,hp0,rfl⟩:=aU1.1 hp';obtain⟨p1,cs,hp1,hR,_⟩:=hH.blk i _ h1;obtain⟨c1,c2,c3,hcs,hl,hR2⟩:=EJ hR h2;have l1:=tC hR;have l2:=tC hR2;rw[hcs] at l1;simp only[aUW] at l1;exact⟨_,hwh,hc,⟨_,hp,e1,e2,e3⟩,h1,p0,hp0,e1,by simp at e2;omega,by simp at e3;omega⟩
  |_=>exact hw.elim
 |tok k=>
  cases b with
  |grow e cc m=>
   obtain⟨v,hv,hb⟩:=ho;have hv':BY g W[c]? m=some v:=hv;rw[hwh] at hv';exact⟨_,hwh,hc,⟨v,hv,hb⟩,hw,v,hv',hb⟩
  |map s t l=>
   obtain⟨p,hp,hb⟩:=ho;have hp':x7 g W[c]? =some p:=hp;rw[hwh] at hp';exact⟨_,hwh,hc,⟨p,hp,hb⟩,hw.1,p,hp',hb⟩
  |row e t l m=>
   obtain⟨v,hv,hb⟩:=ho;have hv':BY g W[c]? m=some v:=hv;rw[hwh] at hv';exact⟨_,hwh,hc,⟨v,hv,hb⟩,hw.1,v,hv',hb⟩
  |_=>exact hw.elim
section
variable {g g':Gh}{w w':pT}{H:sD}{W:List rV}{L:List qD}{r:qK}{v:pU}{base:Nat}{upd:List (Nat×qD)}
variable (hH:sM g w H) (hm:RJ H W L) (hr:EN (w6 g W) w L r g' w' v) (hb:BV base r.H.length W 0 W r.H=some upd) (hf: ∀i,i∈qJ upd->base<=i->g.J i=none/\∀n,g.cur i n=none)
include hH hm hr hb hf
theorem a1C {b o:Nat}(h:yY (w6 g W) (qT 0 L) b o):tE g H (qJ upd) b o:=by
 obtain⟨c,wh,b0,blk,h1,h2,h3,h4,h5⟩:=aDh hH hm h;exact⟨wh.id,blk,(FZ hH hm hr hb hf h1).1,h4,h5⟩
theorem aMP:Fr (tE g H (qJ upd)) w w' g.S (uN g g' base W (qJ upd)).S:=hr.fr.mono fun _ _ h=>a1C hH hm hr hb hf h
theorem X5 {id:Nat}{b:qD}(hi:id∈qJ upd) (hg:qH (qZ upd H) id=some b):JD base r.H.length W W r.H 0 id b:=by
 obtain⟨_,k2,k3,_⟩:=O2 hb;obtain⟨b',hb'⟩:=k3 id hi;have:qH (qZ upd H) id=some b':=by
  have: ∀{u:List (Nat×qD)},qH u id=some b'->qH (qZ u H) id=some b':=by
   intro u
   induction u with
   |nil=>intro h;cases h
   |cons q u ih=>
    intro h;simp only[qZ,qH] at h|-;split
    .rename_i e;rw[aUU e] at h;exact h
    .rename_i e;rw[aUX e] at h;exact ih h
  exact this hb'
 rw[this] at hg;obtain rfl:=aUZ hg;exact k2 id b' hb'
theorem a1D {c i o:Nat}{u:Ty}{x:u.den}{toks:pN}{b0 b:qD}(hW:W[c]? =some (.box i u x toks o)) (hR:r.H[c]? =some b0) (hbb:yI base r.H.length i o W u x toks b0=some (i,b)):
  AM (uN g g' base W (qJ upd)) w' i b/\(∀bb oo,sG (uN g g' base W (qJ upd)) i b bb oo->sG g i (.cells u x toks) bb oo/\qH H i=some (.cells u x toks))/\
   ∀bb oo,sG (uN g g' base W (qJ upd)) i b bb oo->sG g' c b0 bb oo\/(bb<w.heap.size/\¬yY (w6 g W) (qT 0 L) bb oo):=by
 obtain⟨hin,hlt,bL,hL,hok⟩:=FZ hH hm hr hb hf hW;have hJi:=(RK hH hm hr hb hf hW).1;have hle:=aDd hH hm hr hb hf;cases bL with
 |grow=>exact hok.elim
 |row=>exact hok.elim
 |map=>exact hok.elim
 |iter=>exact hok.elim
 |dead=>exact hok.elim
 |cells tL yL tsL=>
  obtain⟨h1,h2,h4⟩:=hok;obtain⟨p,cs,hp,hRd,hra,hth,hns,htk⟩:=hH.blk i _ h1;cases b0 with
  |grow=>simp [yI] at hbb
  |row=>simp [yI] at hbb
  |map=>simp [yI] at hbb
  |iter=>simp [yI] at hbb
  |dead=>
   simp only[yI,aUT,aVs,true_and] at hbb;subst hbb;exact⟨trivial,fun _ _ h=>h.elim,fun _ _ h=>h.elim⟩
  |cells t y ts=>
   have htt:=hr.ty c _ _ _ _ _ _ hL hR;subst htt;obtain⟨y2,z,hbY,hset,hq⟩:=a1A hbb
   .simp only[aVs,true_and] at hq;subst hq;have hblk:=hr.heap.blk c _ (by rw[y6];exact hR);obtain⟨p',cs',hp',hRd',hra',hth',hns',htk'⟩:=hblk;have hJc:=hr.J c _ _ _ hL;have hpc:g'.J c=some ⟨p.1,p.2+o,p.3⟩:=by
     rw[hJc];show x7 g W[c]? =_;rw[hW];simp [x7,hp]
    rw[hpc] at hp';obtain rfl:=aUZ hp';have hRdx:Rd (uN g g' base W (qJ upd)) w' u x cs:=y4 hle hRd;have hRdy:Rd (uN g g' base W (qJ upd)) w' t y2 cs':=aDe hH hm hr hb hf hRd' hbY;obtain⟨c1,c2,c3,hcs,hl1,hl2,hz⟩:=WJ hRdy hRdx hset;subst hcs;subst hl1;have l0:=tC hRd;have l1:=tC hRd';simp only[aUW] at l0;have hfar: ∀q,q<u.cells->¬(c1.length<=q/\q<c1.length+t.cells)->¬yY (w6 g W) (qT 0 L) p.1 (p.2+q):=by
     intro q hq hno hown;obtain⟨c',wh',b',blk',k1,k2,k3,k4,k5⟩:=aDh hH hm hown;by_cases hcc:c'=c
     .subst hcc;rw[hW] at k1;obtain rfl:=aUZ k1;rw[hL] at k2;obtain rfl:=aUZ k2;obtain⟨pp,hpp,e1,e2,e3⟩:=k3;have hpp':x7 g W[c']? =some pp:=hpp;rw[hW] at hpp';simp only[x7,hp,Option.map_some,aUT] at hpp';subst hpp';simp only at e2 e3;exact hno ⟨pI,pI⟩
     .have hid:wh'.id≠i:=fun e=>hcc (WZ hm.nodup k1 hW e);exact hH.dis wh'.id i blk' _ p.1 (p.2+q) hid k4 h1 k5 ⟨p,hp,rfl,pI,pI⟩
    have hlt': ∀q,q<u.cells->p.1<w.heap.size:=fun q hq=>NR (hH.blk i _ h1) (b:=p.1) (o:=p.2+q) ⟨p,hp,rfl,pI,pI⟩;have hkeep: ∀q,q<u.cells->¬(c1.length<=q/\q<c1.length+t.cells)->w'.cell? ⟨p.1,p.2+q,none⟩=w.cell? ⟨p.1,p.2+q,none⟩/\w'.frozen? ⟨p.1,p.2+q,none⟩=w.frozen? ⟨p.1,p.2+q,none⟩:=fun q hq hno=>hr.fr.cell _ _ (hlt' q hq) (hfar q hq hno);refine⟨⟨p,c1++cs'++c3,by rw[hJi];exact hp,hz,fun q vv hv=> ?_,⟨fun q hq=> ?_,fun h0 s hs=> ?_⟩,fun q hq hs=> ?_,?_⟩,fun bb oo ho=>⟨?_,h1⟩,fun bb oo ho=> ?_⟩
    .by_cases a1:q<c1.length
     .rw[(hkeep q pI pI).1];refine hra q vv ?_;rw[aU0,aVf a1] at hv|-;exact hv
     .by_cases a2:q<c1.length+t.cells
      .rw[aU0,aVa pI,aVf pI] at hv;have:=hra' (q-c1.length) vv hv;rwa [show p.2+c1.length+(q-c1.length)=p.2+q from by omega] at this
      .rw[aU0,aVa pI,aVa pI] at hv;have hq:q<u.cells:=by
        have:=(aVd.1 hv).1;omega
       rw[(hkeep q hq pI).1];refine hra q vv ?_;rw[aU0,aVa pI,aVa pI,hl2];rw[l1] at hv;exact hv
    .by_cases a1:c1.length<=q/\q<c1.length+t.cells
     .have:=hth'.1 (q-c1.length) pI;rwa [show p.2+c1.length+(q-c1.length)=p.2+q from by omega] at this
     .rw[(hkeep q hq a1).1,(hkeep q hq a1).2];exact hth.1 q hq
    .by_cases ht0:0<t.cells
     .exact hth'.2 ht0 s hs
     .exact(hr.fr.shape p.1 s (hth.2 h0 s hs)).resolve_right fun h=>hfar 0 h0 pI (h (p.2+0))
    .by_cases a1:c1.length<=q/\q<c1.length+t.cells
     .exact hns' (q-c1.length) pI (by rw[show p.2+c1.length+(q-c1.length)=p.2+q from by omega];exact hs)
     .rcases hr.fr.new _ _ hs with k|k|k
      .exact hns q hq k
      .have:=hlt' q hq;omega
      .exact hfar q hq a1 k
    .intro q kk hmem;rcases xS.1 hmem with hmem|hmem
     .obtain⟨q',c',k1,k2,rfl⟩:=X4 hmem;rw[AO] at k2;obtain⟨u',l,vv,g1,g2,g3⟩:=htk' q' c' k1;have hq':=aCH g1;refine⟨u',l,vv,aCG hset (aDf hbY g1) hq',?_,?_⟩
      .rw[aU0,aVa pI,aVK,aVf pI];exact g2
      .rw[(LN hH hm hr hb hf k2).2];exact g3
     .obtain⟨k1,k2⟩:=a1B hmem;obtain⟨u',l,vv,g1,g2,g3⟩:=htk q kk k1;refine⟨u',l,vv,aCw hH hset g1 k2,?_,hle.cur _ _ _ g3⟩;rcases aV8 q c1.length with a1|a1
      .rw[aU0,aVf a1] at g2|-;exact g2
      .rw[aU0,aVa pI,aVa pI] at g2|-;rw[l1];rw[hl2] at g2;exact g2
    .obtain⟨pp,hpp,e1,e2,e3⟩:=ho;rw[hJi,hp] at hpp;obtain rfl:=aUZ hpp;exact⟨p,hp,e1,e2,e3⟩
    .obtain⟨pp,hpp,e1,e2,e3⟩:=ho;rw[hJi,hp] at hpp;obtain rfl:=aUZ hpp;subst e1;by_cases a1:c1.length<=oo-p.2/\oo-p.2<c1.length+t.cells
     .exact .inl ⟨_,hpc,rfl,by simp only;omega,by simp only;omega⟩
     .right;refine⟨hlt' (oo-p.2) pI,?_⟩;have:=hfar (oo-p.2) pI a1;rwa [show p.2+(oo-p.2)=oo from by omega] at this
theorem a1E {c:Nat}{b0 b:qD}(hn:W[c]? =none) (hR:r.H[c]? =some b0) (hbn:EF base r.H.length c W b0=some (base+c,b)):
  AM (uN g g' base W (qJ upd)) w' (base+c) b/\∀bb oo,sG (uN g g' base W (qJ upd)) (base+c) b bb oo->sG g' c b0 bb oo:=by
 have hc:=(aVd.1 hR).1;obtain⟨hJ,hcur⟩:=O3 hH hm hr hb hf hc hn;have hblk:=hr.heap.blk c _ (by rw[y6];exact hR);cases b0 with
 |dead=>
  simp only[EF,aUT,aVs,true_and] at hbn;subst hbn;exact⟨trivial,fun _ _ h=>h.elim⟩
 |grow e m k=>
  simp only[EF,aUT,aVs,true_and] at hbn;subst hbn;obtain⟨u,xs,hv,h1,h2,h3⟩:=hblk;exact⟨⟨u,xs,by rw[hcur];exact hv,h1,fun m hm'=>by rw[hcur];exact h2 m hm',h3⟩,fun bb oo ⟨v',hv',hb'⟩=>⟨v',by rw[hcur] at hv';exact hv',hb'⟩⟩
 |row e t l n=>
  simp only[EF] at hbn;split at hbn
  .rename_i hp;simp only[aUT,aVs,true_and] at hbn;subst hbn;obtain⟨h0,u,xs,hv,h1,h4,h2,h3⟩:=hblk;exact⟨⟨h0,u,xs,by rw[hcur];exact hv,h1,DM (fun _ _ h=>wQ (g:=g') (g':=uN g g' base W (qJ upd)) rfl hp h) h4,fun m hm'=>by rw[hcur];exact h2 m hm',h3⟩,fun bb oo ⟨v',hv',hb'⟩=>⟨v',by rw[hcur] at hv';exact hv',hb'⟩⟩
  .cases hbn
 |iter s n=>simp [EF] at hbn
 |map k v l=>
  simp only[EF] at hbn;split at hbn
  .rename_i hp;rw[aU6] at hp;simp only[aUT,aVs,true_and] at hbn;subst hbn;obtain⟨p,es,cl,hp1,hp0,hh,hM,hS⟩:=hblk;exact⟨⟨p,es,cl,by rw[hJ];exact hp1,hp0,hh,R6 (g:=g') (g':=uN g g' base W (qJ upd)) rfl hp.1 hp.2 hM,hS⟩,fun bb oo ⟨pp,hpp,e⟩=>⟨pp,by rw[hJ] at hpp;exact hpp,e⟩⟩
  .cases hbn
 |cells t y ts=>
  have wV: ∀y2,bY base r.H.length W t y y2->AM (uN g g' base W (qJ upd)) w' (base+c) (.cells t y2 (EE base r.H.length W 0 ts))/\∀bb oo,sG (uN g g' base W (qJ upd)) (base+c) (.cells t y2 (EE base r.H.length W 0 ts)) bb oo->sG g' c (.cells t y ts) bb oo:=by
   intro y2 hbY;obtain⟨p,cs,hp1,hR1,h1,h2,h3,h4⟩:=hblk;refine⟨⟨p,cs,by rw[hJ];exact hp1,aDe hH hm hr hb hf hR1 hbY,h1,h2,h3,fun q kk hmem=> ?_⟩,fun bb oo ⟨pp,hpp,e⟩=>⟨pp,by rw[hJ] at hpp;exact hpp,e⟩⟩;obtain⟨q',c',k1,k2,rfl⟩:=X4 hmem;rw[AO] at k2;obtain⟨u',l,vv,g1,g2,g3⟩:=h4 q' c' k1;exact⟨u',l,vv,by rw[aVx];exact aDf hbY g1,by rw[aVx];exact g2,by rw[(LN hH hm hr hb hf k2).2];exact g3⟩
  simp only[EF] at hbn;split at hbn
  .rename_i hp;simp only[aUT,aVs,true_and] at hbn;subst hbn;exact wV y (.inl ⟨hp,rfl⟩)
  .obtain⟨y2,hy,hq⟩:=aDa hbn;simp only[aVs,true_and] at hq;subst hq;exact wV y2 (.inr hy)
theorem a1F {c k:Nat}{b0 b:qD}(hW:W[c]? =some (.tok k)) (hR:r.H[c]? =some b0) (hbk:AI k b0=some (k,b)):
  AM (uN g g' base W (qJ upd)) w' k b/\∀bb oo,sG (uN g g' base W (qJ upd)) k b bb oo->sG g' c b0 bb oo:=by
 obtain⟨hJ,hcur⟩:=aDc hH hm hr hb hf hW;have hblk:=hr.heap.blk c _ (by rw[y6];exact hR);cases b0 with
 |dead=>
  simp only[AI,aUT,aVs,true_and] at hbk;subst hbk;exact⟨trivial,fun _ _ h=>h.elim⟩
 |grow e m n=>
  simp only[AI,aUT,aVs,true_and] at hbk;subst hbk;obtain⟨u,xs,hv,h1,h2,h3⟩:=hblk;exact⟨⟨u,xs,by rw[hcur];exact hv,h1,fun m hm'=>by rw[hcur];exact h2 m hm',h3⟩,fun bb oo ⟨v',hv',hb'⟩=>⟨v',by rw[hcur] at hv';exact hv',hb'⟩⟩
 |row e t l n=>
  simp only[AI] at hbk;split at hbk
  .rename_i hp;simp only[aUT,aVs,true_and] at hbk;subst hbk;obtain⟨h0,u,xs,hv,h1,h4,h2,h3⟩:=hblk;exact⟨⟨h0,u,xs,by rw[hcur];exact hv,h1,DM (fun _ _ h=>wQ (g:=g') (g':=uN g g' base W (qJ upd)) rfl hp h) h4,fun m hm'=>by rw[hcur];exact h2 m hm',h3⟩,fun bb oo ⟨v',hv',hb'⟩=>⟨v',by rw[hcur] at hv';exact hv',hb'⟩⟩
  .cases hbk
 |iter s n=>simp [AI] at hbk
 |map s v l=>
  simp only[AI] at hbk;split at hbk
  .rename_i hp;rw[aU6] at hp;simp only[aUT,aVs,true_and] at hbk;subst hbk;obtain⟨p,es,cl,hp1,hp0,hh,hM,hS⟩:=hblk;exact⟨⟨p,es,cl,by rw[hJ];exact hp1,hp0,hh,R6 (g:=g') (g':=uN g g' base W (qJ upd)) rfl hp.1 hp.2 hM,hS⟩,fun bb oo ⟨pp,hpp,e⟩=>⟨pp,by rw[hJ] at hpp;exact hpp,e⟩⟩
  .cases hbk
 |cells t y ts=>simp [AI] at hbk
theorem aMQ {side:List Prop}{s:qE}{rds:pS}{vv:pU}(hs:rX (uN g g' base W (qJ upd)) w' s vv):sH g w H ⟨side,s,upd,rds⟩ (uN g g' base W (qJ upd)) w' vv:=by
 have le:=aDd hH hm hr hb hf;have fr:=aMP hH hm hr hb hf;have gho: ∀i,i∉qJ upd->(uN g g' base W (qJ upd)).J i=g.J i/\(uN g g' base W (qJ upd)).cur i=g.cur i:=fun i hi=>
  aDb hH hm hr hb hf (fun h=>hi h.2) (X3 fun c hc=>hi ((FZ hH hm hr hb hf hc).1))
 have perm: ∀i blk b o,i∈qJ upd->qH (qZ upd H) i=some blk->sG (uN g g' base W (qJ upd)) i blk b o->w.heap.size<=b\/tE g H (qJ upd) b o:=by
  intro i blk b o hi hg ho;rcases X5 hH hm hr hb hf hi hg with⟨c,i',u,x,toks,off,b0,h1,h2,h3,h4⟩ |⟨c,k,b0,h1,h2,h3,h4⟩ |⟨c,b0,h1,h2,h3,h4⟩
  .subst h2;obtain⟨_,k2,_⟩:=a1D hH hm hr hb hf h1 h3 h4;exact .inr ⟨i,_,hi,(k2 b o ho).2,(k2 b o ho).1⟩
  .subst h2;obtain⟨_,k2⟩:=a1F hH hm hr hb hf h1 h3 h4;exact(hr.perm c b0 b o h3 (k2 b o ho)).imp id fun h=>a1C hH hm hr hb hf h
  .rw[aVx] at h2 h4;subst h2;obtain⟨_,k2⟩:=a1E hH hm hr hb hf h3 h1 h4;exact(hr.perm c b0 b o h1 (k2 b o ho)).imp id fun h=>a1C hH hm hr hb hf h
 refine⟨le,hs,hH.upd le fr perm gho (fun i blk hi hg=> ?_) (fun i j bi bj b o hi hj hij hgi hgj hoi hoj=> ?_) (fun b o h=>hr.heap.sl b o h),fr,perm,gho,fun i u' y us h=> ?_⟩
 .rcases X5 hH hm hr hb hf hi hg with⟨c,i',u,x,toks,off,b0,h1,h2,h3,h4⟩ |⟨c,k,b0,h1,h2,h3,h4⟩ |⟨c,b0,h1,h2,h3,h4⟩
  .subst h2;exact(a1D hH hm hr hb hf h1 h3 h4).1
  .subst h2;exact(a1F hH hm hr hb hf h1 h3 h4).1
  .rw[aVx] at h2 h4;subst h2;exact(a1E hH hm hr hb hf h3 h1 h4).1
 .have cls: ∀{i:Nat}{blk:qD},i∈qJ upd->qH (qZ upd H) i=some blk->sG (uN g g' base W (qJ upd)) i blk b o->
    (∃c u x toks off b0,W[c]? =some (.box i u x toks off)/\r.H[c]? =some b0/\sG g i (.cells u x toks) b o/\qH H i=some (.cells u x toks)/\(sG g' c b0 b o\/(b<w.heap.size/\¬yY (w6 g W) (qT 0 L) b o)))\/
    (∃c b0,BA base r.H.length c W[c]? =some i/\r.H[c]? =some b0/\sG g' c b0 b o):=by
   intro i blk hi hg ho;rcases X5 hH hm hr hb hf hi hg with⟨c,i',u,x,toks,off,b0,h1,h2,h3,h4⟩ |⟨c,k,b0,h1,h2,h3,h4⟩ |⟨c,b0,h1,h2,h3,h4⟩
   .subst h2;obtain⟨_,k2,k3⟩:=a1D hH hm hr hb hf h1 h3 h4;exact .inl ⟨c,u,x,toks,off,b0,h1,h3,(k2 b o ho).1,(k2 b o ho).2,k3 b o ho⟩
   .subst h2;obtain⟨_,k2⟩:=a1F hH hm hr hb hf h1 h3 h4;exact .inr ⟨c,b0,by rw[h1];rfl,h3,k2 b o ho⟩
   .rw[aVx] at h2 h4;subst h2;obtain⟨_,k2⟩:=a1E hH hm hr hb hf h3 h1 h4;exact .inr ⟨c,b0,by rw[h3];simp only[BA];rw[aUU (aVd.1 h1).1],h1,k2 b o ho⟩
  have cross: ∀{c c':Nat}{b0 b1:qD},c≠c'->r.H[c]? =some b0->r.H[c']? =some b1->sG g' c b0 b o->sG g' c' b1 b o->False:=fun hne h1 h2 o1 o2=>
   hr.heap.dis _ _ _ _ b o hne (by rw[y6];exact h1) (by rw[y6];exact h2) o1 o2
  rcases cls hi hgi hoi with⟨c,u,x,toks,off,b0,h1,h2,h3,h4,h5⟩ |⟨c,b0,h1,h3,h4⟩<;>rcases cls hj hgj hoj with⟨c',u',x',toks',off',b0',k1,k2,k3,k4,k5⟩ |⟨c',b0',k1,k3,k4⟩
  .exact hH.dis i j _ _ b o hij h4 k4 h3 k3
  .rcases h5 with h5|⟨h5,h6⟩
   .exact cross (fun e=>by subst e;rw[h1] at k1;cases k1) h2 k3 h5 k4
   .rcases hr.perm c' b0' b o k3 k4 with h|h
    .omega
    .exact h6 h
  .rcases k5 with k5|⟨k5,k6⟩
   .exact cross (fun e=>by subst e;rw[k1] at h1;cases h1) h3 k2 h4 k5
   .rcases hr.perm c b0 b o h3 h4 with h|h
    .omega
    .exact k6 h
  .exact cross (fun e=>by subst e;rw[h1] at k1;exact hij (aUZ k1)) h3 k3 h4 k4
 .by_cases hi:i∈qJ upd
  .rcases X5 hH hm hr hb hf hi h with⟨c,i',u,x,toks,off,b0,h1,h2,h3,h4⟩ |⟨c,k,b0,h1,h2,h3,h4⟩ |⟨c,b0,h1,h2,h3,h4⟩
   .subst h2;obtain⟨_,_,bL,hL,hok⟩:=FZ hH hm hr hb hf h1;cases b0 with
    |cells t y0 ts=>
     obtain⟨y2,z,_,hset,hq⟩:=a1A h4;simp only[aVs,qD.cells.injEq,true_and] at hq;obtain⟨rfl,_⟩:=hq;cases bL with
     |cells=>exact .inl ⟨x,toks,hok.1⟩
     |_=>exact hok.elim
    |grow=>simp [yI] at h4
    |row=>simp [yI] at h4
    |map=>simp [yI] at h4
    |iter=>simp [yI] at h4
    |dead=>simp [yI] at h4
   .cases b0 with
    |cells t y0 ts=>simp [AI] at h4
    |iter=>simp [AI] at h4
    |map=>simp only[AI] at h4;split at h4<;>simp at h4
    |row=>simp only[AI] at h4;split at h4<;>simp at h4
    |_=>simp [AI] at h4
   .rw[aVx] at h2;exact .inr (hf i hi pI)
  .exact .inl ⟨y,us,(CY hi).symm.trans h⟩
end
section
variable {P:Program}{g:Gh}{w:pT}
def aMR (P:Program) (g:Gh) (w:pT) (d:Nat) (ty:Ty) (x y:ty.den):a04->Prop
 | .ty t=> ∀vx vy,tT g w ty x vx->tT g w ty y vy->∃b,CK ty x y=some b/\(Op.equalIn (d+1) t vx vy).run P w= .ok b w
 | .fs o l=> ∀px py cx cy,px.length=o->py.length=o->Rd g w ty x cx->Rd g w ty y cy->∃b,CK ty x y=some b/\(Op.eqFields (d+1) (px++cx).toArray (py++cy).toArray l).run P w= .ok b w
 | .el e i m=> ∀px py cx cy,px.length=i*P.cellsOf e->py.length=i*P.cellsOf e->Rd g w ty x cx->Rd g w ty y cy->∃b,CK ty x y=some b/\(Op.eqItems (d+1) e (P.cellsOf e) (px++cx).toArray (py++cy).toArray (List.range' i m)).run P w= .ok b w
theorem aMS {e:TypeId}{n:Nat}(h:(P.info? e).map (·.size)=some n):P.cellsOf e=n:=by
 obtain⟨i,h1,h2⟩:=aU1.1 h;simp [Program.cellsOf,h1,h2]
theorem zI.run {n:Nat}{ix:a04}{ty:Ty}(h:zI P n ix ty): ∀(d:Nat),n<=d->∀x y:ty.den,aMR P g w d ty x y ix:=by
 induction h with
 |bool hu=>
  intro d _ x y vx vy hx hy;obtain rfl:=wI hx;obtain rfl:=wI hy;exact⟨_,rfl,run_equalIn_bool' w d _ _ _ hu⟩
 |int hu=>
  intro d _ x y vx vy hx hy;obtain rfl:=x5 hx;obtain rfl:=x5 hy;refine⟨_,rfl,(run_equalIn_int w d _ _ _ _ _ hu).trans ?_⟩;congr 1
 |str hu=>
  intro d _ x y vx vy hx hy;obtain rfl:=xC hx;obtain rfl:=xC hy;refine⟨_,rfl,(run_equalIn_string w d _ _ _ hu).trans ?_⟩;congr 1;rw[ByteArray.toList_eq,ByteArray.toList_eq];exact RB _ _
 | @struct h0 t0 fs0 ty0 hr hu hs _ ih=>
  intro d hd x y vx vy hx hy;obtain⟨cx,rfl,rx⟩:=LL hr hx;obtain⟨cy,rfl,ry⟩:=LL hr hy;obtain⟨d,rfl⟩: ∃d',d=d'+1:=⟨d-1,pI⟩;obtain⟨b,h1,h2⟩:=ih d pI x y [] [] cx cy rfl rfl rx ry;refine⟨b,h1,?_⟩;have hf:P.fieldsOf t0=fs0:=by unfold Program.fieldsOf;rw[hu]
  rw[run_equalIn_struct w _ _ _ _ (by rw[hf];exact hu) hs,hf];simpa using h2
 |arr hr hu hi _ ih=>
  intro d hd x y vx vy hx hy;obtain⟨cx,rfl,rx⟩:=LL hr hx;obtain⟨cy,rfl,ry⟩:=LL hr hy;obtain⟨d,rfl⟩: ∃d',d=d'+1:=⟨d-1,pI⟩;obtain⟨b,h1,h2⟩:=ih d pI x y [] [] cx cy pK pK rx ry;refine⟨b,h1,?_⟩;obtain⟨i,hi⟩:=aUV.1 hi;rw[run_equalIn_array w _ _ _ hu hi,List.range_eq_range'];simpa using h2
 |nil=>
  intro d _ x y px py cx cy _ _ _ _;exact⟨true,rfl,by simp [Op.eqFields]⟩
 |anil=>
  intro d _ x y px py cx cy _ _ _ _;exact⟨true,rfl,by simp [Op.eqItems]⟩
 | @cons h o f r a b hn ho hsz hrow _ _ iha ihb=>
  intro d hd x y px py cx cy hpx hpy ⟨x1,x2,ex,rx1,rx2⟩ ⟨y1,y2,ey,ry1,ry2⟩;subst ex;subst ey;obtain⟨vx,p1,v1⟩:=RC (P:=P) (c1:=px) (c3:=x2) hsz hrow rx1;obtain⟨vy,p2,v2⟩:=RC (P:=P) (c1:=py) (c3:=y2) hsz hrow ry1;obtain⟨b1,e1,r1⟩:=iha d hd x.1 y.1 vx vy v1 v2;obtain⟨b2,e2,r2⟩:=ihb d hd x.2 y.2 (px++x1) (py++y1) x2 y2 (by rw[aUW,hpx,tC rx1]) (by rw[aUW,hpy,tC ry1]) rx2 ry2;refine⟨b1&&b2,by simp only[CK,e1,e2,CK.eqAnd],?_⟩;rw[aU0] at p1 p2 r2;rw[aU0] at r2;rw[hpx,<-ho] at p1;rw[hpy,<-ho] at p2;simp only[Op.eqFields,aUU hn,aVe,p1,p2,aU4,r1];cases b1
  .simp
  .simpa using r2
 | @acons h e i m a b hsz hrow _ _ iha ihb=>
  intro d hd x y px py cx cy hpx hpy ⟨x1,x2,ex,rx1,rx2⟩ ⟨y1,y2,ey,ry1,ry2⟩;subst ex;subst ey;have hc:=aMS hsz;obtain⟨vx,p1,v1⟩:=RC (P:=P) (c1:=px) (c3:=x2) hsz hrow rx1;obtain⟨vy,p2,v2⟩:=RC (P:=P) (c1:=py) (c3:=y2) hsz hrow ry1;obtain⟨b1,e1,r1⟩:=iha d hd x.1 y.1 vx vy v1 v2;obtain⟨b2,e2,r2⟩:=ihb d hd x.2 y.2 (px++x1) (py++y1) x2 y2 (by rw[aUW,hpx,tC rx1,hc,aV7]) (by rw[aUW,hpy,tC ry1,hc,aV7]) rx2 ry2;refine⟨b1&&b2,by simp only[CK,e1,e2,CK.eqAnd],?_⟩;rw[aU0] at p1 p2 r2;rw[aU0] at r2;rw[hpx] at p1;rw[hpy] at p2;simp only[aW2,Op.eqItems,aVe,p1,p2,aU4,r1];cases b1
  .simp
  .simpa using r2
variable {o:Oper}{a:Act}{H:sD}{T:sY}(hT:y5 P T) (hH:sM g w H)
include hT hH
theorem aMT {op:BinOp}{xt yt:TypeId}{x y:Operand}(ho:o.op= .binOp op xt x y yt) {sx sy:qE}(hx:rX g w sx (a.eval x)) (hy:rX g w sy (a.eval y)) {e:qU}
  (hr:B7 (a0g (s0 T xt) op sx sy)=some e):rL P o a g w H e:=by
 obtain⟨q,hq,rfl⟩:=JA hr;have go: ∀{u v:pU},a.eval x=u->a.eval y=v->(∃z,(do eqGuard op xt x y u v;Go.binOp op xt u v:Sem pU).run P w= .ok z w/\AL g w q.2 z)->rL P o a g w H ⟨q.1,(q.2,none),[],[]⟩:=by
  rintro u v rfl rfl ⟨z,hz,hd⟩;refine rL.pure hH (v:=z) ?_ hd;unfold execOp;rw[ho];simp only[aVe,aVm] at hz|-;rw[hz];rfl
 replace hx:=hx.1;replace hy:=hy.1;generalize hti:s0 T xt=oti at hq;unfold a0g at hq;split at hq
 .rename_i u el by' ar ls_ t l k k';have hd:=(tM hT hti).2;simp only[yW] at hd;obtain⟨ax,cx,ex,hle,hll⟩:=DN hx;have hnil:ax=none->l=[]:=fun h=>by
   rcases hll with h1|⟨b,o,h1,_⟩
   .exact h1
   .rw[h] at h1;cases h1
  have ey:a.eval y= .slice none 0 0:=hy;refine go ex ey ?_;unfold UW at hq;split at hq
  .cases hq;have h1:(do eqGuard .eql xt x y (.slice ax (List.length l) cx) (.slice none 0 0);Go.binOp .eql xt (.slice ax (List.length l) cx) (.slice none 0 0):Sem pU).run P w= .ok (.bool ax.isNone) w:=by
    simp only[aVe];rw[show (eqGuard .eql xt x y (.slice ax (List.length l) cx) (.slice none 0 0)).run P w= .ok () w from by simp [eqGuard]];exact Lib.run_eql_slice_nil (P:=P) w xt _ ax (List.length l) cx 0 0 hd.1
   exact⟨_,h1,_,rfl,fun h=>hnil (by simpa using h),fun _=>trivial⟩
  .cases hq;have h1:(do eqGuard .neq xt x y (.slice ax (List.length l) cx) (.slice none 0 0);Go.binOp .neq xt (.slice ax (List.length l) cx) (.slice none 0 0):Sem pU).run P w= .ok (.bool (!ax.isNone)) w:=by
    simp only[aVe];rw[show (eqGuard .neq xt x y (.slice ax (List.length l) cx) (.slice none 0 0)).run P w= .ok () w from by simp [eqGuard]];exact run_neq_slice_nil_any (P:=P) w xt _ ax (List.length l) cx 0 0 hd.1
   exact⟨_,h1,_,rfl,fun _=>trivial,fun h=>hnil (by simpa using h)⟩
  .cases hq
 .rename_i u el by' ar ls_ k t l k';have hd:=(tM hT hti).2;simp only[yW] at hd;obtain⟨ay,cy,ey,hle,hll⟩:=DN hy;have hnil:ay=none->l=[]:=fun h=>by
   rcases hll with h1|⟨b,o,h1,_⟩
   .exact h1
   .rw[h] at h1;cases h1
  have ex:a.eval x= .slice none 0 0:=hx;refine go ex ey ?_;unfold UW at hq;split at hq
  .cases hq;have h1:(do eqGuard .eql xt x y (.slice none 0 0) (.slice ay (List.length l) cy);Go.binOp .eql xt (.slice none 0 0) (.slice ay (List.length l) cy):Sem pU).run P w= .ok (.bool ay.isNone) w:=by
    simp only[aVe];rw[show (eqGuard .eql xt x y (.slice none 0 0) (.slice ay (List.length l) cy)).run P w= .ok () w from by simp [eqGuard]];exact run_eql_nil_slice (P:=P) w xt _ ay (List.length l) cy 0 0 hd.1
   exact⟨_,h1,_,rfl,fun h=>hnil (by simpa using h),fun _=>trivial⟩
  .cases hq;have h1:(do eqGuard .neq xt x y (.slice none 0 0) (.slice ay (List.length l) cy);Go.binOp .neq xt (.slice none 0 0) (.slice ay (List.length l) cy):Sem pU).run P w= .ok (.bool (!ay.isNone)) w:=by
    simp only[aVe];rw[show (eqGuard .neq xt x y (.slice none 0 0) (.slice ay (List.length l) cy)).run P w= .ok () w from by simp [eqGuard]];exact run_neq_nil_slice (P:=P) w xt _ ay (List.length l) cy 0 0 hd.1
   exact⟨_,h1,_,rfl,fun _=>trivial,fun h=>hnil (by simpa using h)⟩
  .cases hq
 .rename_i u el b ar ls_ t x' k t' y' k';unfold aBq at hq;split at hq
  .rename_i htt;subst htt;split at hq
   .rename_i hc;obtain⟨rfl,hc⟩:=hc;simp only[v7] at hq;obtain⟨r,hr1,hr2⟩: ∃r,CK t' x' y'=some r/\((op= .eql/\q=([],.val .bool r))\/(op= .neq/\q=([],.val .bool (!r)))):=by
     generalize hgen:CK t' x' y'=od at hq;unfold aBo at hq;split at hq
     .rename_i r;cases hq;exact⟨r,rfl,.inl ⟨rfl,rfl⟩⟩
     .rename_i r;cases hq;exact⟨r,rfl,.inr ⟨rfl,rfl⟩⟩
     .cases hq
    have hti':=tM hT hti;rcases hc with rfl|⟨hrow,rfl⟩
    .have hd:=hti'.2;simp only[yW] at hd;obtain hbx:=wI hx;obtain hby:=wI hy;refine go hbx hby ?_;have hrr:r=(x'==y'):=(aUZ hr1).symm;subst hrr;have hrun:=run_equalIn_bool' (P:=P) w 9999 xt x' y' hd;rcases hr2 with⟨rfl,rfl⟩ |⟨rfl,rfl⟩
     .refine⟨.bool (x'==y'),?_,xD _ _ _⟩;simp only[aVe];rw[show (eqGuard .eql xt x y (.bool x') (.bool y')).run P w= .ok () w from by simp [eqGuard]];simp only[aU4,Go.binOp,Op.equal,Op.maxDepth,aVe,hrun,aVm]
     .refine⟨.bool (!(x'==y')),?_,xD _ _ _⟩;simp only[aVe];rw[show (eqGuard .neq xt x y (.bool x') (.bool y')).run P w= .ok () w from by simp [eqGuard]];simp only[aU4,Go.binOp,Op.equal,Op.maxDepth,aVe,hrun,aVm]
    .have h2:=hti'.2;have heq:P.eqGuardType P.depth xt=false/\∃h,h<9000/\zI P h (.ty xt) t':=by
      unfold yW at h2;cases t'<;>simp only[Ty.isRow,aWD] at hrow
      all_goals exact h2.2 rfl
     obtain⟨hg1,hh,hlt,hE⟩:=heq;obtain⟨cx,ex,rx⟩:=LL hrow hx;obtain⟨cy,ey,ry⟩:=LL hrow hy;obtain⟨b',hb1,hb2⟩:=hE.run (g:=g) (w:=w) 9999 pI x' y' _ _ hx hy;rw[hr1] at hb1;obtain rfl:=aUZ hb1;rw[ex,ey] at hb2;refine go ex ey ?_;rcases hr2 with⟨rfl,rfl⟩ |⟨rfl,rfl⟩
     .refine⟨.bool r,?_,xD _ _ _⟩;simp only[aVe];rw[run_eqGuard_agg w _ _ _ _ _ _ hg1];simp only[aU4];rw[run_eql_struct,hb2];rfl
     .refine⟨.bool (!r),?_,xD _ _ _⟩;simp only[aVe];rw[run_eqGuard_agg w _ _ _ _ _ _ hg1];simp only[aU4];rw[run_neq_struct,hb2];rfl
   .cases hq
  .cases hq
 .cases hq
end
end Go.Proofs.YtkpflnijijccpaaGreatDoor.Vc
namespace Go.Proofs.YtkpflnijijccpaaGreatDoor.Vc
open Go.RowKit
theorem aMU (s:pF):Lib.strCells ⟨s.toArray⟩=s.map fun b=>Value.int .u8 b.toNat:=by
 simp [Lib.strCells]
theorem aMV {P:Program}(w:pT) (t u ty e:TypeId) (i:TypeInfo) (ht:P.underlying t=some (.slice e)) (hu:P.underlying u=some .string) (hi:P.info? e=some i) (hz:i.zero=some (.int .u8 0))
  (hsize:i.size=1) (hby:i.bytes=1) (v:pU) (n:Nat) (xs:pP) (hown:w.ownsRow 0 e 1 v n xs) (s:ByteArray) (hm:0<s.size)
  (h63:n+s.size<=maxLen) (hbytes:n+s.size<=140737488355328):
  ∃q cap w',(Builtin.append_ #[t,u] ty #[v,.string s]).run P w= .ok (.slice (some ⟨q,0,none⟩) (n+s.size) cap) w'/\w'.ownsRow 0 e 1 (.slice (some ⟨q,0,none⟩) (n+s.size) cap) (n+s.size) (xs++Lib.strCells s)/\
   (q=w.heap.size\/v.ownBlock=some q)/\w.grownBy w' v.ownBlock/\n+s.size<=cap/\
   ∀b o,b<w.heap.size->(v.ownBlock=some b->o<n*1)->w'.cell? ⟨b,o,none⟩=w.cell? ⟨b,o,none⟩:=by
 have hsmall:n+s.size<=9223372036854775807:=by simp only[maxLen] at h63;omega
 have hxl:xs.length=n:=by simpa using hown.1
 have hlen:(xs++Lib.strCells s).length=(n+s.size)*1:=by rw[aUW,hxl,Lib.strCells_length,aWG]
 have grown: ∀(old:Nat),old<n+s.size->∀(row:pR),
   (w.drew.alloc (.cells (xs.toArray++(Lib.strCells s).toArray++Builtin.zeroCells (Value.int .u8 0).cells (grownCap w (n+s.size) old e- (n+s.size))) e)).ownsRow 0 e 1
    (.slice (some ⟨w.heap.size,0,none⟩) (n+s.size) (grownCap w (n+s.size) old e)) (n+s.size) (xs++Lib.strCells s)/\
   w.grownBy (w.drew.alloc (.cells (xs.toArray++(Lib.strCells s).toArray++Builtin.zeroCells (Value.int .u8 0).cells (grownCap w (n+s.size) old e- (n+s.size))) e)) row/\n+s.size<=grownCap w (n+s.size) old e/\
   ∀b o,b<w.heap.size->(w.drew.alloc (.cells (xs.toArray++(Lib.strCells s).toArray++Builtin.zeroCells (Value.int .u8 0).cells (grownCap w (n+s.size) old e- (n+s.size))) e)).cell? ⟨b,o,none⟩=w.cell? ⟨b,o,none⟩:=by
  intro old ho row;have hge:=grownCap_ge w (n+s.size) old e;have hcm:grownCap w (n+s.size) old e<=maxLen:=grownCap_le_maxLen w (n+s.size) old e h63;refine⟨⟨hlen,.inr ⟨w.heap.size,_,_,rfl,aV4 _,aWX w.drew _,hge,hcm,?_,?_⟩⟩,⟨rfl,rfl,rfl,by simp,fun k hk _=>aVv w.drew _ k hk⟩,hge,fun b o hb=>aVl (w:=w) (a:=⟨b,o,none⟩) (aVv w.drew _ b hb)⟩
  .have hz1:(Value.int IntKind.u8 0).cells.size=1:=rfl;simp only[aWK,aVP,size_zeroCells,hz1,hxl,Lib.strCells_length];omega
  .simp only[Array.toList_append,aU0];rw[<-aU0,<-hlen];exact aVS
 rcases hown.2 with⟨rfl,rfl⟩ |⟨g,cap,cur,rfl,hbg,hg,hnc,hcm,hcs,htake⟩
 .have hx:xs=[]:=aVu hxl;subst hx;have hr:=run_append_nil_string (P:=P) w t u ty e i (.int .u8 0) ht hu hi hz s pI pI (by rw[hby];omega);have hgr:=grown 0 pI (Value.ownBlock (.slice none 0 0));simp only[aVx,List.nil_append,Array.empty_append] at hgr|-;have e1:(s.data.map fun b=>Value.int .u8 b.toNat)=(Lib.strCells s).toArray:=by
   apply Array.ext';simp [Lib.strCells]
  rw[e1] at hr;exact⟨_,_,_,hr,hgr.1,.inl rfl,hgr.2.1,hgr.2.2.1,fun b o hb _=>hgr.2.2.2 b o hb⟩
 .by_cases hroom:n+s.size<=cap
  .have hcs':cur.size=cap:=by simpa using hcs
   have hr:=Lib.run_append_room_string (P:=P) w t u ty e i ht hu hi hsize g n cap cur hg s hroom pI;refine⟨_,_,_,hr,⟨hlen,.inr ⟨g,cap,_,rfl,hbg,aWP w g cur _ e _ hg,hroom,hcm,?_,?_⟩⟩,.inr rfl,⟨rfl,rfl,rfl,by simp,fun k _ hk=>aWu w g k _ (fun e=>hk (by simp [Value.ownBlock,e]))⟩,hroom,fun b o hb hso=> ?_⟩
   .simp only[aVP,aUW,aVj,aVg,aVy,Lib.strCells_length];omega
   .have ht':cur.toList.take n=xs:=by simpa using htake
    rw[ht',<-hlen];exact aVS
   .by_cases hbg':b=g
    .subst hbg';have ho:=hso rfl;rw[cell_setRow_same w b o cur _ e _ hg,cell_of_row w b o cur e (0,0) hg];have hlt:o<(cur.toList.take n).length:=by rw[aVj,aVy];omega
     have hlt2:o<cur.size:=by rw[aVj,aVy] at hlt;omega
     simp only[List.getElem?_toArray,aU0];rw[aVf hlt,aWd,aUU pI];simp
    .exact aVl (a:=⟨b,o,none⟩) (aWu w g b _ hbg')
  .have holds: ∀j u,xs[j]? =some u->w.cell? ((⟨g,0,none⟩:Addr).add j)=some u:=hown.cells (g:=g) rfl;have hr:=Lib.run_append_grow_string (P:=P) w t u ty e i (.int .u8 0) ht hu hi hz ⟨g,0,none⟩ n cap xs (by rw[hsize];simpa using hxl) holds s pI pI (by rw[hby];exact growslice_fits pI pI);have hgr:=grown cap pI (Value.ownBlock (.slice (some ⟨g,0,none⟩) n cap));exact⟨_,_,_,hr,hgr.1,.inl rfl,hgr.2.1,hgr.2.2.1,fun b o hb _=>hgr.2.2.2 b o hb⟩
theorem aMW {P:Program}(w:pT) (t u ty e:TypeId) (i:TypeInfo) (ht:P.underlying t=some (.slice e)) (hu:P.underlying u=some .string) (hi:P.info? e=some i) (hsize:i.size=1) (ad:Option Addr) (n c:Nat) (hle:n<=c):
  (Builtin.append_ #[t,u] ty #[.slice ad n c,.string ⟨#[]⟩]).run P w= .ok (.slice ad n c) w:=by
 have hf:=Lib.run_firstCells_string (P:=P) w 1 ⟨#[]⟩;have hm:(⟨#[]⟩:ByteArray).size=0:=rfl;rw[hm] at hf;cases ad<;>simp [Builtin.append_,aVh ht,aVh hu,sizeOf,typeInfo,hi,hsize,Builtin.lenOf,hm,hf,hle,Lib.strCells,storeCells]
theorem aDi (g:Gh) (w:pT): ∀s:pF,uI (Rd g w (.int .u8)) 1 (uY s) (s.map fun b=>Value.int .u8 b.toNat)
 |[]=>rfl
 |b::s=>⟨[.int .u8 b.toNat],_,rfl,rfl,rfl,aDi g w s⟩
section
variable {P:Program}{o:Oper}{a:Act}{g:Gh}{w:pT}{H:sD}{T:sY}(hT:y5 P T) (hH:sM g w H)
include hT hH
theorem aMX {t t':TypeId}{x:Operand}(ho:o.op= .convert t t' x) {sx:qE}(hx:rX g w sx (a.eval x)) {e:qU}
  (hr:B7 (a0j T (s0 T t) (s0 T t') sx)=some e):rL P o a g w H e:=by
 obtain⟨q,hq,rfl⟩:=JA hr;replace hx:=hx.1;generalize h1:s0 T t=o1 at hq;generalize h2:s0 T t'=o2 at hq;unfold a0j at hq;split at hq
 .rename_i e b1 a1 l1 e2 b2 a2 l2 l k;generalize h3:s0 T e=o3 at hq;unfold aBr at hq;split at hq
  .cases hq;have d1:=(tM hT h1).2;have d2:=(tM hT h2).2;have d3:=(tM hT h3).2;simp only[yW] at d1 d2 d3;obtain⟨ad,cap,hv,hle,hl⟩:=DN hx;refine rL.pure hH (v:= .string ⟨(uC l).toArray⟩) ?_ (BX _ _ _);simp only[execOp,ho,hv,aVe];have run:(convert t t' (.slice ad (List.length l) cap)).run P w= .ok (.string ⟨(uC l).toArray⟩) w:=by
    rcases hl with rfl|⟨b,off,rfl,hL⟩
    .rw[run_convert_bytes_string w t t' e ad _ cap d1.1 d3 d2];cases ad with
     |none=>simp [Conv.bytesToString,uC];rfl
     |some ad=>simp [Conv.bytesToString,loadCells,loadCellsFrom,uC];rfl
    .have:=run_convert_bytes_arg (P:=P) w t e d1.1 d3 b off (List.length l) cap l rfl (fun i hi=>by
      obtain⟨cs,_,c2,_,c4⟩:=NU hL (aU5 hi);have c5:cs=[.int .u8 (l[i]:Int)]:=c4;subst c5;have:=c2 0 _ rfl;have hcell:Ty.cells (.int .u8)=1:=rfl;rw[hcell,aWG,aVU] at this;rw[this,aVq,aU5 hi];rfl) t' d2
     exact this
   rw[run];rfl
  .cases hq
 .cases hq
theorem aMY {args:Array Operand}{tys:Array TypeId}(ho:o.op= .call ⟨.builtin .append,args,tys⟩) {ρ:Operand->qE}(hρ: ∀x∈args.toList,rX g w (ρ x) (a.eval x)) {e:qU}
  (hr:W3 T H (wH ρ args.toList) tys.toList=some e) (hs: ∀p∈e.side,p):rL P o a g w H e:=by
 unfold W3 at hr;split at hr
 .rename_i t u htu;have htys:tys= #[t,u]:=by apply aV6.1;rw[htu]
  split at hr
  .rename_i e1;subst e1;exact aMi hT hH ho hρ htys hr hs
  .clear htu;subst htys;generalize hst:s0 T t=ot at hr;generalize hsu:s0 T u=ou at hr;generalize hss:wH ρ args.toList=ss at hr;unfold a0R at hr;split at hr
   .rename_i el ar ls_ e2 b2 a2 ls2 l k s k2;generalize hk:qH H k=ob at hr;unfold VZ at hr;split at hr
    .rename_i e' c n;split at hr
     .rename_i hec;obtain⟨rfl,rfl⟩:=hec;cases hr;rw[aUW];have hsl:List.length (uY s)=List.length s:=by simp [uY]
      rw[hsl];have hln:=hs _ (by simp:(List.length l=n)∈_);have hby:=hs _ (by simp:(List.length l+List.length s<=140737488355328)∈_);obtain⟨v,vr,hv,hs1,hs2⟩:=WP hT hH hρ hss;obtain⟨h2,h3,_⟩:=(tM hT hst).2;have hu:=(tM hT hsu).2;simp only[yW] at hu;obtain⟨ei,hei,hz⟩:=aU1.1 h3;simp only[aVs] at hz;obtain⟨cs,hx⟩:=HD (a:=a) hT hH ho;obtain⟨v0,xs,hv0,hown,hnone,hseal⟩:=hH.blk k _ hk;have hcur:g.cur k (List.length l)=some v:=hs1.2;rw[hln,hv0] at hcur;obtain rfl:=aUZ hcur;obtain⟨adl,capl,hvl,hlel,hll⟩:=DN hs1.1;have hvr:=xC hs2.1;have hsz:(⟨List.toArray s⟩:ByteArray).size=List.length s:=by simp [ByteArray.size]
      by_cases hm:List.length s=0
      .obtain rfl:s=[]:=aVu hm;have hget: ∀i,qH (qZ [(k,qD.grow e' 1 (List.length l+List.length ([]:pF)))] H) i=qH H i:=by
        intro i;simp only[qZ,qH];by_cases hi:k=i
        .subst hi;rw[aUU rfl,hk,hln];rfl
        .rw[aUX hi]
       have hkeep:sH g w H ⟨[List.length l=n,List.length l+List.length ([]:pF)<=140737488355328],(.val (.list (.int .u8)) (l++uY []),some k),[(k,.grow e' 1 (List.length l+List.length ([]:pF)))],[k]⟩ g w v0:=by
        refine⟨.refl _ _,?_,⟨fun i b h=>hH.blk i b ((hget i).symm.trans h),fun i j bi bj b o' hij h1 h2=>hH.dis i j bi bj b o' hij ((hget i).symm.trans h1) ((hget j).symm.trans h2),hH.sl,hH.tab.1,fun i blk b o' h ho'=>hH.tab.2 i blk b o' ((hget i).symm.trans h) ho'⟩,.refl _ _ _,fun i blk b o' hi hg ho'=> .inr ⟨i,blk,hi,(hget i).symm.trans hg,ho'⟩,fun _ _=>⟨rfl,rfl⟩,fun i u' y us h=> .inl ⟨y,us,(hget i).symm.trans h⟩⟩;rw[show l++uY []=l from by simp [uY]];exact hs1
       refine rL.value (v:=v0) (w':=w) ?_ hkeep;rw[hx,hv,hvr,hvl];have:=aMW (P:=P) w t u o.type e' ei h2 hu hei (by rw[hz.1];rfl) adl (List.length l) capl hlel;simp only[builtin,aVe];rw[this];simp only[aU4,aVm]
      .have hxs:uI (Rd g w (.int .u8)) 1 l xs:=by
        by_cases h0:List.length l=0
        .obtain rfl:l=[]:=aVu h0;have:xs=[]:=aVu (by rw[hown.1,<-hln];simp);exact this
        .rcases hll with rfl|⟨b0,off0,rfl,hL0⟩
         .exact absurd rfl h0
         .obtain⟨ls,hF0,hra0,_⟩:=NX hL0;rcases hown.2 with⟨e1,e2⟩ |⟨q,cap,cur,e1,e2⟩
          .exact absurd (hln.trans e2) h0
          .rw[hvl] at e1;simp only[aWW,aUT,Addr.mk.injEq] at e1;obtain⟨⟨rfl,rfl,_⟩,_,rfl⟩:=e1;have hvn:v0= .slice (some ⟨b0,0,none⟩) n capl:=by rw[hvl,hln]
           have hrx:=a1j (hvn▸hown);have:ls=xs:=by
            have hl1:=J9 hF0;have hl2:=hown.1;have hc1:Ty.cells (.int .u8)=1:=rfl;rw[hc1] at hl1;apply List.ext_getElem?;intro j;by_cases hj:j<ls.length
            .have h1:=hra0 j ls[j] (aU5 hj);have hj':j<xs.length:=by rw[hl2,<-hln,<-hl1];exact hj
             have h2:=hrx j xs[j] (aU5 hj');rw[h1] at h2;rw[aU5 hj,aU5 hj',aUZ h2]
            .rw[aWp pI,aWp (by rw[hl2,<-hln,<-hl1];omega)]
           rw[<-this];exact hF0
       obtain⟨q,cap,w',hrun,hown',hq,hg,hcap,hcell⟩:=aMV (P:=P) w t u o.type e' ei h2 hu hei hz.2.2 hz.1 hz.2.1 v0 n xs hown ⟨List.toArray s⟩ (by rw[hsz];omega) (by rw[hsz];unfold maxLen;omega) (by rw[hsz];omega);rw[hsz] at hrun hown' hcap;rw[aMU] at hown';refine rL.value (v:= .slice (some ⟨q,0,none⟩) (n+List.length s) cap) (w':=w') ?_ (by
        have:=sH.append (side:=[List.length l=n,List.length l+List.length s<=140737488355328]) (rds:=[k]) (u:= .int .u8) (r:=uY s) hH hk (show (1:Nat)=Ty.cells (.int .u8) from rfl) hln hv0 hown hnone hseal hxs (aDi g w s) (by rw[hsl];omega) (by rw[hsl];exact hown') hq hg (by rw[hsl];exact hcap) hcell;rw[hsl] at this;rw[hln];rw[hln] at this;exact this)
       rw[hx,hv,hvr];simp only[builtin,aVe,hrun,aU4,aVm]
     .cases hr
    .cases hr
   .cases hr
 .cases hr
end
theorem aMZ {g g':Gh}{w:pT}{f:qE→qE}(hf: ∀s u,rX g w s u→rX g' w (f s) u): ∀{l:List qE}{v:pU}{s:qE},RI g w l v→ND (l.map f)=some s→rX g' w s v:=by
  have un: ∀{l:List qE}{vs:pP}{q},vR g w l vs→H5 (l.map f)=some q→NQ g' w q vs:=by
    intro l
    induction l with
    | nil=>
      intro vs q h hq;simp only[List.map_nil,H5,aUT] at hq;subst hq;exact h
    | cons s l ih=>
      rintro vs q ⟨v,vs',rfl,h1,h2⟩ hq;have h1':=hf s v h1;simp only[aV0] at hq;generalize f s=fs at hq h1';obtain⟨d,k⟩:=fs;cases d with
      | val t x=>
        simp only[H5] at hq;obtain⟨q',hq',rfl⟩:=aU1.1 hq;refine⟨v,vs',rfl,h1'.1,?_,ih h2 hq'⟩;cases k with
        |none=>trivial
        |some k=>exact h1'.2
      | own k' n=>
        simp only[H5] at hq;obtain⟨q',hq',rfl⟩:=aU1.1 hq;exact⟨v,vs',rfl,.inr ⟨rfl,v,h1'.1.1,rfl,h1'.1.2⟩,trivial,ih h2 hq'⟩
      |_=>simp [H5] at hq
  intro l v s h hs
  match l,h,hs with
  | [],⟨vs,e,h⟩,hs=>
    simp only[List.map_nil,ND,aUT] at hs;subst hs;rw[show vs=[] from h] at e;exact⟨⟨[],e,rfl⟩,trivial⟩
  | [x],h,hs=>
    simp only[aV0,List.map_nil,ND,aUT] at hs;subst hs;exact hf x v h
  | x::y::l,⟨vs,e,h⟩,hs=>
    simp only[aV0,ND,aUT] at hs;subst hs;cases hq:H5 (f x::f y::l.map f) with
    |none=>exact⟨trivial,trivial⟩
    |some q=>exact⟨⟨vs,e,un (l:=x::y::l) h (by simpa using hq)⟩,trivial⟩
theorem aDj {base n:Nat}{W:List rV}: ∀l:List qE,QL base n W l=l.map (V5 base n W)
  |[]=>rfl
  |s::l=>by simp [QL,aDj l]
theorem aDk {P:Program}{f:FuncId}{sg:r5}(hcon:xR P f sg.C) {g:Gh}{w:pT}{H:sD}(hH:sM g w H) {args:List qE}{vals:pP}(hargs:vR g w args vals) {base:Nat}{e:qU}
    (hr:H6 H base args (some sg)=some e) (hs: ∀p∈e.side,p) (hfr:zQ g base e):Calls P f vals.toArray w (fun en w'=> ∃v g',en= .returned v∧sH g w H e g' w' v):=by
  simp only[H6] at hr;cases hp0:yH H sg.ps args (some ⟨[],[],[],0⟩) with
  |none=>rw[hp0] at hr;cases hgs:sg.gs<;>(rw[hgs] at hr;simp [QM,BU] at hr)
  |some q0=>
   rw[hp0] at hr;cases hp:BU H sg.gs (some q0) with
   |none=>rw[hp] at hr;simp [QM] at hr
   |some q=>
    rw[hp] at hr;simp only[QM,aC9,List.append_nil] at hr;have hpo0:=aC4 hH (BZ.nil g w H) hargs hp0;rw[List.nil_append] at hpo0;have hpo:=aC6 hH hpo0 hp;cases hcl:IY q.ws.reverse q.H.reverse with
    |none=>rw[hcl] at hr;simp [V8] at hr
    |some L=>
    rw[hcl] at hr;simp only[V8] at hr;have hm:=hpo.m.ren hcl;cases hc:sg.C q.args.reverse L with
    |none=>rw[hc] at hr;simp [V7] at hr
    | some r=>
      rw[hc] at hr;simp only[V7,aC8] at hr;cases hbh:BV base r.H.length q.ws.reverse 0 q.ws.reverse r.H with
      |none=>rw[hbh] at hr;simp [QK] at hr
      | some upd=>
        rw[hbh] at hr;cases hrs:ND (QL base r.H.length q.ws.reverse r.ret) with
        |none=>rw[hrs] at hr;simp [QK] at hr
        | some s=>
          rw[hrs] at hr;simp only[QK,aUT] at hr;subst hr;refine(hcon.2 (w6 g q.ws.reverse) w q.args.reverse _ L r (aMA hH hm) hpo.args hc hs).mono ?_;rintro en w' ⟨v,g',rfl,hret⟩;refine⟨v,_,rfl,aMQ hH hm hret hbh hfr ?_⟩;rw[aDj] at hrs;exact aMZ (fun s u h=>aMO hH hm hret hbh hfr h) hret.ret hrs
theorem RL {g g':Gh}{w w':pT}: ∀{t:Ty}{x:t.den}{cs:pP},IZ t=true→Rd g w t x cs→Rd g' w' t x cs
  | .bool,_,_,_,r=>r
  | .int _,_,_,_,r=>r
  | .str,_,_,_,r=>r
  | .unit,_,_,_,r=>r
  | .fn,_,_,_,r=>r
  | .pair a b,_,_,h,⟨c1,c2,e,r1,r2⟩=>by
    simp only[IZ,aU6] at h;exact⟨c1,c2,e,RL h.1 r1,RL h.2 r2⟩
  | .list _,_,_,h,_=>by cases h
  | .ref,_,_,h,_=>by cases h
  | .clo,_,_,h,_=>by cases h
  | .mp,_,_,h,_=>by cases h
  | .rl _ _,_,_,h,_=>by cases h
  | .mref,_,_,h,_=>by cases h
theorem aDl {g g':Gh}{w:pT}{k n:Nat}{t:Ty}{l:List t.den}(le:Le g w g' w) (hk: ∀u,g.cur k n=some u→((u= .slice none 0 0∧n=0)∨∃b cap,u= .slice (some ⟨b,0,none⟩) n cap∧n≤cap)→tT g' w (.list t) l u):
    ∀{args:List qE}{vals:pP},vR g w args vals→(∀p∈L6 k n args,p)→vR g' w (QO k t l args) vals
  |[],_,h,_=>h
  | s::ss,_,⟨v,vs,rfl,h1,h2⟩,hp=>by
    refine⟨v,vs,rfl,?_,aDl le hk h2 (fun p hp'=>hp p ?_)⟩
    · obtain⟨d,x⟩:=s
      cases d with
      | own j m=>
        simp only[aBA];split
        · rename_i e
          subst e;have hm:m=n:=hp (j=j→m=n) (by simp only[L6];exact aU2) rfl;subst hm;exact⟨hk _ h1.1.1 h1.1.2,trivial⟩
        .exact DL le h1
      |_=>exact DL le h1
    · obtain⟨d,x⟩:=s
      cases d with
      |own j m=>simp only[L6];exact aU3 _ hp'
      |_=>exact hp'
theorem aM0 {P:Program}{f:FuncId}{sg:r5}(hcon:xR P f sg.C) {g:Gh}{w:pT}{H:sD}(hH:sM g w H) {args:List qE}{vals:pP}(hargs:vR g w args vals) {base:Nat}{e:qU}{k:Nat}
    (hr:QP H base args sg k (qH H k)=some e) (hs: ∀p∈e.side,p) (hfr:zQ g base e):Calls P f vals.toArray w (fun en w'=> ∃v g',en= .returned v∧sH g w H e g' w' v):=by
  cases hk:qH H k with
  |none=>rw[hk] at hr;cases hr
  | some b=>
    rw[hk] at hr;cases b with
    | row e0 t l m=>
      simp only[QP] at hr;cases hi:H6 ((k,.dead)::H) base (QO k t l args) (some sg) with
      |none=>rw[hi] at hr;cases hr
      | some e1=>
        rw[hi] at hr;unfold a0o at hr;split at hr
        · rename_i side t' x kk U rds heq
          simp only[aUT] at heq;subst heq;split at hr
          · rename_i hnl
            simp only[aU6,aVo] at hnl;obtain⟨⟨hnl,hU⟩,hkU⟩:=hnl;have hkU':k∉qJ U:=fun h=>by rw[JC.2 h] at hkU;cases hkU
            cases hr;obtain⟨hl,v,xs,hv,hown,hF,hnone,hseal⟩:=hH.blk k _ hk
            let g':Gh:={g with S:=fun b o=>g.S b o∨(v.ownBlock=some b∧o<m*t.cells)}
            have le:Le g w g' w:=⟨fun _ _ h=> .inl h,fun _ _ _=>rfl,fun _ _ h=>h,fun _ _ _ h=>h⟩;have hown2: ∀b,v.ownBlock=some b→∀o,sG g k (.row e0 t l m) b o:=fun b hb o=>⟨v,hv,hb⟩
            have hlist: ∀u,g.cur k m=some u→((u= .slice none 0 0∧m=0)∨∃b cap,u= .slice (some ⟨b,0,none⟩) m cap∧m≤cap)→tT g' w (.list t) l u:=by
              intro u hu hshape;rw[hv] at hu;obtain rfl:=aUZ hu;rcases hshape with⟨rfl,h0⟩ |⟨b,cap,rfl,hcap⟩
              · have:l=[]:=aVu (by rw[hl,h0])
                subst this;exact .inr ⟨rfl,none,0,rfl,aVi _,.inl rfl⟩
              · refine .inr ⟨rfl,some ⟨b,0,none⟩,cap,by rw[hl],by rw[hl];exact hcap,.inr ⟨b,0,rfl,NV (DM (fun _ _ h=>y4 le h) hF) (fun j u hu=> ?_) (fun j hj=> ?_)⟩⟩
                · have:=hown.cells (g:=b) rfl j u hu
                  rwa [aWj] at this
                · right
                  exact⟨rfl,by rw[hl] at hj;omega⟩
            have hget: ∀i b,qH ((k,qD.dead)::H) i=some b→(i=k∧b= .dead)∨(i≠k∧qH H i=some b):=by
              intro i b hb;simp only[qH] at hb;split at hb
              .rename_i e1;exact .inl ⟨e1.symm,(aUZ hb).symm⟩
              .rename_i e1;exact .inr ⟨Ne.symm e1,hb⟩
            have hH':sM g' w ((k,qD.dead)::H):=by
              refine⟨fun i b hb=> ?_,fun i j bi bj b o hij h1 h2 o1 o2=> ?_,fun b o hS=> ?_,hH.tab.1,fun i b bb oo hb ho=> ?_⟩
              · rcases hget i b hb with⟨rfl,rfl⟩ |⟨hne,h1⟩
                .trivial
                .exact NS (hH.blk i b h1) le rfl rfl (fun _ _ _=>⟨rfl,rfl⟩) (fun _ _=>rfl) (fun bb o ho hS=>by
                    rcases hS with hS|hS
                    .exact hS
                    .exact absurd (hown2 bb hS.1 o) (fun h5=>hH.dis i k b _ bb o hne h1 hk ho h5)) (fun _ _ _ _ h=>h)
              · rcases hget i bi h1 with⟨_,rfl⟩ |⟨_,h1⟩
                .exact o1.elim
                · rcases hget j bj h2 with⟨_,rfl⟩ |⟨_,h2⟩
                  .exact o2.elim
                  .exact hH.dis i j bi bj b o hij h1 h2 ((A6 (g':=g') (g:=g) rfl rfl).1 o1) ((A6 (g':=g') (g:=g) rfl rfl).1 o2)
              · rcases hS with hS|hS
                .exact hH.sl b o hS
                .exact R9 hown hS.1
              · rcases hget i b hb with⟨_,rfl⟩ |⟨_,h1⟩
                .exact ho.elim
                .exact hH.tab.2 i b bb oo h1 ((A6 (g':=g') (g:=g) rfl rfl).1 ho)
            have hsp: ∀p,p∈L6 k m args∨p∈side→p:=fun p hp=>hs p (RH.2 hp)
            have hget2: ∀i,i≠k→qH ((k,qD.dead)::H) i=qH H i:=fun i hi=>by
              simp only[qH];rw[aUX (Ne.symm hi)]
            have hin: ∀{i},i∈qJ U→i≠k:=fun h e=>hkU' (e▸h)
            have hup: ∀{i blk},i∈qJ U→qH (qZ U H) i=some blk→qH (qZ U ((k,qD.dead)::H)) i=some blk:=by
              intro i blk hi h
              have: ∀{U:List (Nat×qD)},i∈qJ U→qH (qZ U ((k,qD.dead)::H)) i=qH (qZ U H) i:=by
                intro U
                induction U with
                |nil=>intro h;cases h
                | cons q U ih=>
                  intro h;obtain⟨j,b⟩:=q;simp only[qZ,qH];split
                  .rfl
                  · rename_i hne
                    simp only[qJ,aU9] at h;exact ih (h.resolve_left (fun e=>hne e.symm))
              rw[this hi];exact h
            have hcells: ∀{i blk},i∈qJ U→qH (qZ U H) i=some blk→∃t y,blk= .cells t y []∧IZ t=true:=by
              intro i blk hi h
              have: ∀{U:List (Nat×qD)},NE U=true→i∈qJ U→qH (qZ U H) i=some blk→∃t y,blk= .cells t y []∧IZ t=true:=by
                intro U
                induction U with
                |nil=>intro _ h;cases h
                | cons q U ih=>
                  intro hU hi h;obtain⟨j,b⟩:=q;cases b with
                  | cells t y ts=>
                    cases ts with
                    |cons _ _=>simp [NE] at hU
                    | nil=>
                      simp only[NE,aU6] at hU;simp only[qZ,qH] at h;split at h
                      · obtain rfl:=aUZ h
                        exact⟨t,y,rfl,hU.1⟩
                      · rename_i hne
                        simp only[qJ,aU9] at hi;exact ih hU.2 (hi.resolve_left (fun e=>hne e.symm)) h
                  |_=>simp [NE] at hU
              exact this hU hi h
            have hownI: ∀b o,tE g' ((k,qD.dead)::H) (qJ U) b o→tE g H (qJ U) b o:=fun b o ⟨i,blk,hi,h1,h2⟩=>⟨i,blk,hi,(hget2 i (hin hi)).symm.trans h1,(A6 (g':=g') (g:=g) rfl rfl).1 h2⟩;refine(aDk hcon hH' (aDl le hlist hargs (fun p hp=>hsp p (.inl hp))) hi (fun p hp=>hsp p (.inr hp)) (fun i hi' hb=>hfr i hi' hb)).mono ?_;rintro en w' ⟨v1,g1,rfl,hE⟩
            let g2:Gh:={g1 with S:=g.S}
            have hle:Le g w g2 w':=⟨fun _ _ h=>h,fun b o h=>hE.le.cell b o (.inl h),fun i p h=>hE.le.J i p h,fun i n u h=>hE.le.cur i n u h⟩
            have hfr2:Fr (tE g H (qJ U)) w w' g.S g2.S:=
              ⟨hE.fr.os,hE.fr.tape,hE.fr.output,hE.fr.size,fun b hb hno=>hE.fr.blk b hb (fun o h=>hno o (hownI b o h)),fun b o hb hno=>hE.fr.cell b o hb (fun h=>hno (hownI b o h)),fun _ _ h=> .inl h,fun b s h=>(hE.fr.shape b s h).imp id fun h o=>hownI b o (h o)⟩
            have hgho: ∀i,i∉qJ U→g2.J i=g.J i∧g2.cur i=g.cur i:=fun i hi=>hE.gho i hi
            have hperm: ∀i blk b o,i∈qJ U→qH (qZ U H) i=some blk→sG g2 i blk b o→w.heap.size≤b∨tE g H (qJ U) b o:=fun i blk b o hi hg ho=>
              (hE.perm i blk b o hi (hup hi hg) ((A6 (g':=g2) (g:=g1) rfl rfl).1 ho)).imp id (hownI b o)
            refine⟨v1,g2,rfl,hle,⟨?_,trivial⟩,hH.upd hle hfr2 hperm hgho (fun i blk hi hg=> ?_) (fun i j bi bj b o hi hj hij hgi hgj hoi hoj=> ?_) (fun b o h=>aVz (hH.sl b o h) hE.fr.size),hfr2,hperm,hgho,fun i u y us h=> ?_⟩
            .exact hE.slot.1.imp (fun⟨a,cs,e,q⟩=>⟨a,cs,e,RL hnl q⟩) (fun⟨a,q⟩=>⟨a,RL hnl q⟩)
            · obtain⟨t2,y2,rfl,hn2⟩:=hcells hi hg
              obtain⟨p,cs,q1,q2,q3,q4,q5,_⟩:=hE.heap.blk i _ (hup hi hg);exact⟨p,cs,q1,RL hn2 q2,q3,q4,fun j hj hS=>q5 j hj (hE.le.S _ _ (.inl hS)),fun _ _ hm=>by cases hm⟩
            .exact hE.heap.dis i j bi bj b o hij (hup hi hgi) (hup hj hgj) ((A6 (g':=g2) (g:=g1) rfl rfl).1 hoi) ((A6 (g':=g2) (g:=g1) rfl rfl).1 hoj)
            · by_cases hiU:i∈qJ U
              · rcases hE.ty i u y us (hup hiU h) with⟨x',ts',q⟩ |q
                .exact .inl ⟨x',ts',(hget2 i (hin hiU)).symm.trans q⟩
                .exact .inr q
              .exact .inl ⟨y,us,(CY hiU).symm.trans h⟩
          .cases hr
        .cases hr
    |_=>cases hr
theorem aM1 {P:Program}{f:FuncId}{F:(t:Ty)→List t.den→Option (List t.den)}(hF:WT P f F) {g:Gh}{w:pT}{H:sD}(hH:sM g w H) {args:List qE}{vals:pP}(hargs:vR g w args vals) {e:qU}
    (hr:V9 H F args=some e) (hs: ∀p∈e.side,p):Calls P f vals.toArray w (fun en w'=> ∃v g',en= .returned v∧sH g w H e g' w' v):=by
  unfold V9 at hr;split at hr
  · rename_i k n x
    obtain⟨v,vs,rfl,ha,hv⟩:=hargs;rw[show vs=[] from hv];cases hk:qH H k with
    |none=>rw[hk] at hr;cases hr
    | some b=>
      rw[hk] at hr;cases b with
      | row e0 t l m=>
        simp only[a0p] at hr;cases hf:F t l with
        |none=>rw[hf] at hr;cases hr
        | some l'=>
          rw[hf] at hr;cases hr;have hnm:n=m:=hs _ aU2;subst hnm;obtain⟨hl,v0,xs,hv0,hown,hFx,hnone,hseal⟩:=hH.blk k _ hk;have h1:=ha.1.1;rw[hv0] at h1;obtain rfl:=aUZ h1;refine(hF g w e0 t l l' v0 n xs hH.tab.1 hown hFx hl (hs _ pK) hf).mono ?_;rintro en w' ⟨rfl,hl',xs',k1,k2,k3⟩;have hownk: ∀b,v0.ownBlock=some b→∀o,tE g H [k] b o:=fun b hb o=>⟨k,_,by simp,hk,v0,hv0,hb⟩;refine⟨_,_,rfl,sH.row (v:=v0) (xs:=xs') hH hl' k1 k2 hnone (fun u hu=>by rw[hv0] at hu;exact(aUZ hu).symm) (.inr ⟨v0.ownBlock,k3,hownk⟩) (fun b o hS=> ?_) hseal (fun b hb=> .inr (hownk b hb)) ⟨⟨[],rfl,rfl⟩,trivial⟩⟩;have hne:v0.ownBlock≠some b:=fun e=>hseal b e o hS;exact aVl (a:=⟨b,o,none⟩) (k3.block b (hH.sl b o hS) (fun e=>hne e.symm))
      |_=>cases hr
  .cases hr
section
variable {P:Program}{o:Oper}{a:Act}{g:Gh}{w:pT}{H:sD}{T:sY}{Γ:uL}(hT:y5 P T) (hΓ:EO P Γ) (hH:sM g w H)
include hT hΓ hH
theorem aDm {f:FuncId}{args:List qE}{vals:pP}(hargs:vR g w args vals) {base:Nat}{e:qU}(hr:LB H base args (QU Γ f)=some e) (hs: ∀p∈e.side,p) (hfr:zQ g base e):
    (∀args w,(callFunc f args).run P w= .ok (.enter f args) w)∧Calls P f vals.toArray w (fun en w'=> ∃v g',en= .returned v∧sH g w H e g' w' v):=by
  cases hg:QU Γ f with
  |none=>rw[hg] at hr;cases hr
  | some sg=>
    rw[hg] at hr
    obtain⟨hlt,hg⟩:f<1000000000∧Γ f=some sg:=by
      unfold QU at hg;split at hg
      .rename_i h;exact⟨h,hg⟩
      .cases hg
    obtain⟨hcon,hrow⟩:=hΓ f sg hlt hg;refine⟨hcon.1,?_⟩;simp only[LB] at hr;cases hF:sg.row with
    | some F=>
      rw[hF] at hr;exact aM1 (hrow F hF) hH hargs hr hs
    | none=>
      rw[hF] at hr;simp only[VX] at hr;cases hn:QN sg.ps args with
      | some k=>
        rw[hn] at hr;exact aM0 hcon hH hargs hr hs hfr
      | none=>
        rw[hn] at hr;exact aDk hcon hH hargs hr hs hfr
theorem aM2 {fop:Operand}{args:Array Operand}{tys:Array TypeId}(ho:o.op= .call ⟨.value fop,args,tys⟩) {ρ:Operand→qE}(hf:rX g w (ρ fop) (a.eval fop)) (hρ: ∀x∈args.toList,rX g w (ρ x) (a.eval x)) {base:Nat}{e:qU}
    (hr:NH Γ H base (H8 T ρ args.toList tys.toList) (ρ fop)=some e) (hs: ∀p∈e.side,p) (hfr:zQ g base e) (hlen:args.size=tys.size):rL P o a g w H e:=by
  have hargs:=aCP (a:=a) (ρ:=ρ) hT hΓ hH (xs:=args.toList) (ts:=tys.toList) (by simpa using hlen) hρ;unfold NH at hr;split at hr
  · rename_i f caps k heq
    rw[heq] at hf
    obtain⟨vs,hcv,hfv⟩: ∃vs,yV g caps vs∧a.eval fop= .func (.func f) #[] vs.toArray:=by
      rcases hf.1 with⟨h1,_⟩ |⟨_,vs,h2,h3⟩
      .cases h1
      · simp only[aVT,and_true] at h3
        exact⟨vs,h2,h3⟩
    obtain⟨hen,hc⟩:=aDm hT hΓ hH (aMt hT hΓ hH hargs (aCQ hT hΓ hH hcv)) hr hs hfr;intro K Q hK;refine aCR ho hfv hen (hc.mono ?_);rintro en w' ⟨v,g',rfl,hE⟩;exact⟨v,rfl,hK _ w' v hE.w⟩
  · rename_i f k heq
    rw[heq] at hf
    have hfv:a.eval fop= .func (.func f) #[] ([]:pP).toArray:=by
      rcases hf.1 with⟨h1,_⟩ |⟨_,h2⟩
      .cases h1
      .simpa[Rd,aB7] using h2
    obtain⟨hen,hc⟩:=aDm hT hΓ hH hargs hr hs hfr;intro K Q hK;refine aCR ho hfv hen ?_;rw[List.append_nil];refine hc.mono ?_;rintro en w' ⟨v,g',rfl,hE⟩;exact⟨v,rfl,hK _ w' v hE.w⟩
  .cases hr
theorem aDn: ∀{xs:List Operand}{ts:List TypeId},LC xs ts=true→xs.length=ts.length
  |[],[],_=>rfl
  |_::xs,_::ts,h=>by simp only[LC] at h;simp [aDn h]
  |[],_::_,h=>by cases h
  |_::_,[],h=>by cases h
theorem a1G {op:Op}(ho:o.op=op) {ρ:Operand→qE}(hρ: ∀x∈sW op,rX g w (ρ x) (a.eval x)) {base:Nat}{e:qU}(hr:vA T Γ o.type ρ base H op=some e) (hs: ∀p∈e.side,p) (hf:zQ g base e):rL P o a g w H e:=by
  unfold vA at hr;split at hr
  · rename_i x
    exact aCx hT hH (.inl ho) (hρ x (by simp [sW])) hr hf
  · rename_i x
    exact aCx hT hH (.inr ho) (hρ x (by simp [sW])) hr hf
  .exact aMb hT hH ho hr hf
  · rename_i t x
    exact aMc hT hH ho (hρ x (by simp [sW])) (fun _=>a1u hT hΓ hH (hρ x (by simp [sW]))) hr hf
  · rename_i t ps
    exact aLQ hT hH ho (ρ:=ρ) (fun q hq=>hρ q.2 (by
      simp only[sW];generalize ps.toList=l at hq
      induction l with
      |nil=>cases hq
      |cons p l ih=>rcases aU9.1 hq with rfl|h<;>simp_all [sW.parts])) hr
  · rename_i t n ps
    exact aMh hT hH ho (ρ:=ρ) (fun q hq=>hρ q.2 (by
      simp only[sW];generalize ps.toList=l at hq
      induction l with
      |nil=>cases hq
      |cons p l ih=>rcases aU9.1 hq with rfl|h<;>simp_all [sW.parts])) hr hf
  · rename_i t x
    exact aL3 hT hH ho (hρ x (by simp [sW])) hr hs
  · rename_i t x y
    exact aMg hT hH ho (hρ x (by simp [sW])) (a1u hT hΓ hH (hρ y (by simp [sW]))) hr hs hf
  · rename_i x
    exact aLK hT hH ho (hρ x (by simp [sW])) hr
  · rename_i op t x y t'
    cases hw:UV op (s0 T t) (ρ x) (ρ y) with
    | some r=>
      rw[hw] at hr;exact aLB hH ho (hρ x (by simp [sW])) (hρ y (by simp [sW])) (by rw[hw];exact hr)
    |none=>
    rw[hw] at hr;cases hb:UU op (ρ x) (ρ y) with
    | some r=>
      rw[hb] at hr;exact aLA hH ho (hρ x (by simp [sW])) (hρ y (by simp [sW])) (by rw[hb];exact hr) hs
    | none=>
      rw[hb] at hr;exact aMT hT hH ho (hρ x (by simp [sW])) (hρ y (by simp [sW])) hr
  · rename_i op t x
    exact aLC hH ho (hρ x (by simp [sW])) hr hs
  · rename_i t t' x
    cases hb:UX (s0 T t) (s0 T t') (ρ x) with
    | some r=>
      rw[hb] at hr;exact aLD hT hH ho (hρ x (by simp [sW])) (by rw[hb];exact hr)
    | none=>
      rw[hb] at hr;exact aMX hT hH ho (hρ x (by simp [sW])) hr
  · rename_i f first caps
    have hfi:first= #[]:=by
      cases hl:first.toList with
      |nil=>apply aV6.1;simpa using hl
      |cons x l=>rw[hl] at hr;cases hr
    subst hfi;exact aLU hT hH ho (ρ:=ρ) (fun x hx=>hρ x (by simpa[sW] using hx)) hr
  · rename_i t x lo hi
    refine aL4 hT hH ho (ρ:=ρ) (hρ x (by simp [sW])) (fun y hy=>hρ y ?_) (fun y hy=>hρ y ?_) hr hs
    · cases lo with
      |none=>simp at hy
      |some l=>simp at hy;subst hy;simp [sW,sW.opt,qZ]
    · cases hi with
      |none=>simp at hy
      |some l=>simp at hy;subst hy;cases lo<;>simp [sW,sW.opt,qZ]
  · rename_i t x f
    exact aLI hT hH ho (hρ x (by simp [sW])) hr
  · rename_i t x f
    exact aLH hT hH ho (hρ x (by simp [sW])) hr
  · rename_i t x ix
    exact aLM hT hH ho (hρ x (by simp [sW])) (hρ ix (by simp [sW])) hr hs
  · rename_i t x ix
    exact aLL hT hH ho (hρ x (by simp [sW])) (hρ ix (by simp [sW])) hr hs
  · rename_i x i
    exact aLJ hT hH ho (hρ x (by simp [sW])) hr hs
  · rename_i t r
    exact aMk hT hH ho hr hf
  · rename_i t x
    exact aMq hT hH ho (hρ x (by simp [sW])) hr hf
  · rename_i x b
    exact aMr hT hH ho (hρ x (by simp [sW])) hr
  · rename_i t x i ok
    exact aMn hT hH ho (hρ x (by simp [sW])) (hρ i (by simp [sW])) hr
  · rename_i t m k x
    exact aCM hT hH (.inl ho) (hρ m (by simp [sW])) (hρ k (by simp [sW])) (aCL (hρ x (by simp [sW]))) hr
  · rename_i t m k x
    exact aCM hT hH (.inr ho) (hρ m (by simp [sW])) (hρ k (by simp [sW])) (aCL (hρ x (by simp [sW]))) hr
  · rename_i c
    obtain⟨cal,args,tys⟩:=c;simp only at hr;unfold LD at hr;split at hr
    .exact aLT hT hH ho (ρ:=ρ) (fun x hx=>hρ x (by simpa[sW] using hx)) hr
    .exact aMY hT hH ho (ρ:=ρ) (fun x hx=>hρ x (by simpa[sW] using hx)) hr hs
    .exact aCn (mx:=true) hT hH ho (ρ:=ρ) (fun x hx=>hρ x (by simpa[sW] using hx)) hr
    .exact aCn (mx:=false) hT hH ho (ρ:=ρ) (fun x hx=>hρ x (by simpa[sW] using hx)) hr
    · rename_i f
      cases hsl:LC args.toList tys.toList with
      |false=>rw[hsl] at hr;cases hr
      | true=>
        rw[hsl] at hr;simp only[a0S] at hr;exact aM2 hT hΓ hH ho (hρ f (by simp [sW])) (fun x hx=>hρ x (by simp [sW];right;simpa using hx)) hr hs hf (by simpa using aDn hT hΓ hH hsl)
    .cases hr
  .cases hr
end
def BF (g:Gh) (w:pT) (env:List (Nat×qE)) (tmps:Array pU):Prop:= ∀t,rX g w (lk env t) (tmps.getD t undef)
def A8 (B:Nat) (w:pT) (ds:List Deferred):Prop:=ds.Nodup/\∀d∈ds,∃D,d={target:= .collected D,args:= #[]}/\B<=D/\NG<=D/\w.heap[D]? =some (.deferred (some []))
theorem aDo (B:Nat) (w:pT):A8 B w []:=⟨List.nodup_nil,fun d hd=>by cases hd⟩
theorem A8.same {B:Nat}{w w':pT}{ds:List Deferred}(h:A8 B w ds) (hb: ∀D:Nat,w.heap[D]? =some (Obj.deferred (some []))->w'.heap[D]? =some (Obj.deferred (some []))):A8 B w' ds:=
 ⟨h.1,fun d hd=>by obtain⟨D,h1,h2,h0,h3⟩:=h.2 d hd;exact⟨D,h1,h2,h0,hb D h3⟩⟩
def HG:Obj->Bool
 | .deferred _=>true
 | .loop _=>true
 |_=>false
theorem a1H {w:pT}{b:Nat}{ob:Obj}(hd:w.heap[b]? =some ob) (hm:HG ob=true) (o:Nat):w.cell? ⟨b,o,none⟩=none:=by
 unfold World.cell?;simp only[hd];cases ob<;>first|rfl|cases hm
theorem X6 {g:Gh}{w:pT}{i:Nat}{blk:qD}(h:AM g w i blk) {b o:Nat}(ho:sG g i blk b o) {ob:Obj}(hd:w.heap[b]? =some ob) (hm:HG ob=true):False:=by
 have hrow: ∀{e:TypeId}{c n:Nat}{v:pU}{xs:pP},w.ownsRow 0 e c v n xs->v.ownBlock=some b->False:=by
  intro e c n v xs hr hb;rcases hr.2 with⟨rfl,_⟩ |⟨g',cap,cur,rfl,_,h3,_⟩
  .cases hb
  .simp only[Value.ownBlock,aUT] at hb;subst hb;rw[hd] at h3;cases h3;cases hm
 cases blk with
 |cells t x toks=>
  obtain⟨p,cs,hp,_,_,ht,_⟩:=h;obtain⟨q,hq,rfl,h1,h2⟩:=ho;rw[hp] at hq;obtain rfl:=aUZ hq;have:=(ht.1 (o-p.2) pI).1;rw[a1H hd hm] at this;cases this
 |grow e c n=>
  obtain⟨v,xs,hv,hr,_⟩:=h;obtain⟨v',hv',hb⟩:=ho;rw[hv] at hv';obtain rfl:=aUZ hv';exact hrow hr hb
 |row e t l n=>
  obtain⟨_,v,xs,hv,hr,_⟩:=h;obtain⟨v',hv',hb⟩:=ho;rw[hv] at hv';obtain rfl:=aUZ hv';exact hrow hr hb
 |map k v l=>
  obtain⟨p,es,cl,hp,h0,h2,_⟩:=h;obtain⟨q,hq,h1⟩:=ho;rw[hp] at hq;obtain rfl:=aUZ hq;rw[show b=p.1 from h1] at hd;rw[h2] at hd;cases hd;cases hm
 |iter s n=>
  obtain⟨p,hp,h0,h2,_⟩:=h;obtain⟨q,hq,h1⟩:=ho;rw[hp] at hq;obtain rfl:=aUZ hq;rw[show b=p.1 from h1] at hd;rw[h2] at hd;cases hd;cases hm
 |dead=>exact ho.elim
theorem A8.eff {B:Nat}{g g':Gh}{w w':pT}{H:sD}{e:qU}{v:pU}{ds:List Deferred}(h:A8 B w ds) (hH:sM g w H) (k:A5 g w H e g' w' v):A8 B w' ds:=
 h.same fun D hD=>by
  rw[k.fr.blk D (aVn.1 hD).1 (fun o ⟨i,blk,_,h1,h2⟩=>X6 (hH.blk i blk h1) h2 hD rfl)];exact hD
structure w7 (B:Nat) (g:Gh) (w:pT) (s:St) (a:Act):Prop where
 env:BF g w s.env a.tmps
 heap:sM g w s.H
 size:a.tmps.size=s.N
 nb: ∀i,s.nb<=i->g.J i=none/\∀n,g.cur i n=none
 def_:A8 B w a.defers
 np:s.np<=s.nb
theorem aM3 (g:Gh) (w:pT) (v:pU):AL g w (a0c v) v:=by
 unfold a0c;split
 .exact xD _ _ _
 .exact x6 _ _ _ _
 .rename_i s;have:=BX g w s.data.toList;rw[aWr] at this;exact this
 .exact rfl
 .exact .inr ⟨rfl,rfl⟩
 .exact .inr ⟨rfl,rfl⟩
 .exact .inr ⟨rfl,rfl⟩
 .exact trivial
theorem AP {g:Gh}{w:pT}{env:List (Nat×qE)}{a:Act}(h:BF g w env a.tmps) (x:Operand):rX g w (uQ env x) (a.eval x):=by
 cases x with
 |tmp t=>exact h t
 |const v=>exact⟨aM3 g w v,trivial⟩
 |func f=>exact⟨.inr ⟨rfl,[],rfl,rfl⟩,trivial⟩
 |global i=>exact⟨trivial,trivial⟩
theorem O4 {g:Gh}{w:pT}{G:Bool}(hG:G=true): ∀{ss:List qE}{s:qE}{v:pU},s∈ss->(∀p∈zP G ss,p)->rX g w s v->rX g w (yJ s) v
 |x::ss,s,v,hm,hn,hs=>by
  have hcase: ∀{s:qE},(∀p∈zP G [s],p)->rX g w s v->rX g w (yJ s) v:=by
   intro s hn hs;obtain⟨d,k⟩:=s;cases d with
   |cond p d=>
    refine⟨hs.1.1 (hn (G=true->p=true) (by simp [zP]) hG),?_⟩;simp only[yJ]
   |_=>exact hs
  have hsplit: ∀p,p∈zP G [x]->p∈zP G (x::ss):=by
   intro p hp;unfold zP at hp|-;split at hp
   .cases hp
   .rename_i heq;simp only[aVT] at heq;obtain⟨rfl,rfl⟩:=heq;rcases aU9.1 hp with h|h
    .exact h▸aU2
    .cases h
   .rename_i h0 heq;simp only[aVT] at heq;obtain⟨_,rfl⟩:=heq;cases hp
  have hsplit2: ∀p,p∈zP G ss->p∈zP G (x::ss):=by
   intro p hp;generalize hL:zP G ss=L at hp;unfold zP;split
   .rename_i h;cases h
   .rename_i heq;simp only[aVT] at heq;obtain⟨_,rfl⟩:=heq;rw[hL];exact aU3 _ hp
   .rename_i heq;simp only[aVT] at heq;obtain⟨_,rfl⟩:=heq;rw[hL];exact hp
  rcases aU9.1 hm with rfl|hm
  .exact hcase (fun p hp=>hn p (hsplit p hp)) hs
  .exact O4 hG hm (fun p hp=>hn p (hsplit2 p hp)) hs
theorem X7 {env:List (Nat×qE)}: ∀{xs:List Operand}{x:Operand},x∈xs->uQ env x∈CT env xs
 |y::xs,x,h=>by
  simp only[CT];rcases aU9.1 h with rfl|h
  .exact aU2
  .exact aU3 _ (X7 h)
theorem RM: ∀(ops:List Oper) (j:Nat),AJ ops j=(ops[j]?).bind (·.dst)
 |[],j=>by simp [AJ]
 |o::_,0=>rfl
 |_::r,j+1=>by simpa[AJ] using RM r j
section
variable {P:Program}{g:Gh}{w:pT}{T:sY}{Γ:uL}(hT:y5 P T) (hΓ:EO P Γ)
include hT hΓ
theorem aM4 {ops:List Oper}{o:Oper}{a:Act}{env:List (Nat×qE)}(henv:BF g w env a.tmps) {j:Nat}{b:Bool}(hg:o.guard=some (j,b)) {G:Bool}(h:HA env b (AJ ops j)=some G):Region.wanted o (yielded ops.toArray a.tmps)=G:=by
 rw[RM] at h;unfold Region.wanted;rw[hg];simp only;cases hd:(ops[j]?).bind (·.dst) with
 |none=>rw[hd] at h;cases h
 |some t=>
  rw[hd] at h;simp only[HA] at h;have hy:yielded ops.toArray a.tmps j=match a.tmps[t]? with|some (.bool b)=>some b|_=>none:=by
   unfold yielded;have:(ops.toArray[j]?).bind (·.dst)=some t:=by simpa using hd
   rw[this];rfl
  have hv:=henv t;generalize hl:lk env t=s at h hv;unfold aBT at h;have hb: ∀c,a.tmps.getD t undef= .bool c->a.tmps[t]? =some (.bool c):=by
   intro c hc;rw[aVr] at hc;cases hq:a.tmps[t]? with
   |none=>rw[hq] at hc;simp [undef] at hc
   |some v=>rw[hq] at hc;simp at hc;rw[hc]
  split at h
  .rename_i c k;simp only[aUT] at h;have:=hb _ (wI hv.1);rw[hy,this,<-h];cases c<;>cases b<;>rfl
  .rename_i p c k;simp only[aUT] at h;subst h;cases p with
   |true=>
    have:=hb _ (wI (hv.1.1 rfl));rw[hy,this];cases c<;>cases b<;>rfl
   |false=>
    have hu:=hv.1.2 rfl;have: ∀c,a.tmps[t]? ≠some (.bool c):=by
     intro c hc;rw[aVr,hc] at hu;simp [undef] at hu
    rw[hy];cases hq:a.tmps[t]? with
    |none=>cases b<;>rfl
    |some v=>cases v<;>first|(exact absurd hq (this _)) |(cases b<;>rfl)
  .cases h
theorem aM5 {ops:List Oper}{o:Oper}{a:Act}{env:List (Nat×qE)}(henv:BF g w env a.tmps) {j:Nat}{b:Bool}(hg:o.guard=some (j,b)) (h:LE env b (AJ ops j)=false):Region.wanted o (yielded ops.toArray a.tmps)=false:=by
 rw[RM] at h;unfold Region.wanted;rw[hg];simp only;cases hd:(ops[j]?).bind (·.dst) with
 |none=>rw[hd] at h;cases h
 |some t=>
  rw[hd] at h;simp only[LE] at h;have hy:yielded ops.toArray a.tmps j=match a.tmps[t]? with|some (.bool b)=>some b|_=>none:=by
   unfold yielded;have:(ops.toArray[j]?).bind (·.dst)=some t:=by simpa using hd
   rw[this];rfl
  have hv:=henv t;generalize hl:lk env t=s at h hv;have hb: ∀c,a.tmps.getD t undef= .bool c->a.tmps[t]? =some (.bool c):=by
   intro c hc;rw[aVr] at hc;cases hq:a.tmps[t]? with
   |none=>rw[hq] at hc;simp [undef] at hc
   |some v=>rw[hq] at hc;simp at hc;rw[hc]
  have hun:a.tmps.getD t undef=undef->(yielded ops.toArray a.tmps j==some b)=false:=by
   intro hu;have: ∀c,a.tmps[t]? ≠some (.bool c):=by
    intro c hc;rw[aVr,hc] at hu;simp [undef] at hu
   rw[hy];cases hq:a.tmps[t]? with
   |none=>cases b<;>rfl
   |some v=>cases v<;>first|(exact absurd hq (this _)) |(cases b<;>rfl)
  unfold aBU at h;split at h
  .rename_i c k;have:=hb _ (wI hv.1);rw[hy,this];cases c<;>cases b<;>first|rfl|cases h
  .rename_i p c k;cases p with
   |true=>
    have:=hb _ (wI (hv.1.1 rfl));rw[hy,this];cases c<;>cases b<;>first|rfl|cases h
   |false=>exact hun (hv.1.2 rfl)
  .rename_i p k;subst h;exact hun (hv.1.2 rfl)
  .cases h
theorem RN {G:Bool}{p:Prop}: ∀{l:List Prop},p∈l->(G=true->p)∈QW G l
 |q::l,h=>by
  simp only[QW];rcases aU9.1 h with rfl|h
  .exact aU2
  .exact aU3 _ (RN h)
theorem a1I {o:Oper}{a:Act}{H:sD}(hH:sM g w H) {c x y:Operand}(hop:o.op= .pick c x y) {sc sx sy:qE}(hc:rX g w sc (a.eval c)) (hx:rX g w sx (a.eval x)) (hy:rX g w sy (a.eval y)) {e:qU}(hr:QV sc sx sy=some e) (hs: ∀p∈e.side,p):rL P o a g w H e:=by
 intro K Q hK;unfold QV at hr;split at hr
 .rename_i z k;have hz:=wI hc.1;have run:(execOp a.eval o).run P w= .ok (.value (if z then a.eval x else a.eval y)) w:=by
   unfold execOp;rw[hop];simp [hz,asBool]
  have wV: ∀{v:Bool}{side:List Prop},(if z then a.eval x else a.eval y)= .bool v->e=⟨side,(.val .bool v,none),[],[]⟩->o.wp P a w K Q:=by
   intro v side hv he;subst he;refine rL.value (v:= .bool v) (g':=g) (w':=w) (H:=H) (by rw[run,hv]) (.pure hH (s:=(.val .bool v,none)) ⟨(xD g w v:AL g w (.val .bool v) (.bool v)),trivial⟩) K Q hK
  unfold aBV at hr;split at hr
  .rename_i m1 _ m2 _;simp only[aUT] at hr;refine wV (v:=cond z m1 m2) ?_ hr.symm;cases z
   .exact wI hy.1
   .exact wI hx.1
  .rename_i p m1 _ m2 _;simp only[aUT] at hr;refine wV (v:=cond z m1 m2) ?_ hr.symm;cases z
   .exact wI hy.1
   .exact wI (hx.1.1 (hs (true=true->p=true) (by rw[<-hr];simp) rfl))
  .rename_i m1 _ p m2 _;simp only[aUT] at hr;refine wV (v:=cond z m1 m2) ?_ hr.symm;cases z
   .exact wI (hy.1.1 (hs (false=false->p=true) (by rw[<-hr];simp) rfl))
   .exact wI hx.1
  .rename_i q m1 _ p m2 _;simp only[aUT] at hr;refine wV (v:=cond z m1 m2) ?_ hr.symm;cases z
   .exact wI (hy.1.1 (hs (false=false->p=true) (by rw[<-hr];simp) rfl))
   .exact wI (hx.1.1 (hs (true=true->q=true) (by rw[<-hr];simp) rfl))
  .rename_i m1 _ p _;simp only[aUT] at hr;have hz1:z=true:=hs _ (by rw[<-hr];simp);refine wV (v:=m1) ?_ hr.symm;rw[hz1];exact wI hx.1
  .rename_i q m1 _ p _;simp only[aUT] at hr;have hz1:z=true:=hs (z=true) (by rw[<-hr];simp);refine wV (v:=m1) ?_ hr.symm;rw[hz1];exact wI (hx.1.1 (hs (q=true) (by rw[<-hr];simp)))
  .rename_i p _ m2 _;simp only[aUT] at hr;have hz1:z=false:=hs _ (by rw[<-hr];simp);refine wV (v:=m2) ?_ hr.symm;rw[hz1];exact wI hy.1
  .rename_i p _ q m2 _;simp only[aUT] at hr;have hz1:z=false:=hs (z=false) (by rw[<-hr];simp);refine wV (v:=m2) ?_ hr.symm;rw[hz1];exact wI (hy.1.1 (hs (q=true) (by rw[<-hr];simp)))
  .cases hr
 .cases hr
omit hT hΓ in
theorem RO {np:Nat}{x:Option qU}{e:qU}(h:a0Y np x=some e):x=some e/\(IW e.rds=true->J3 np e.upd=true):=by
 cases x with
 |none=>cases h
 |some q=>
  simp only[a0Y] at h;cases hq:IW q.rds with
  |false=>
   rw[hq] at h;cases h;exact⟨rfl,fun h=>by rw[hq] at h;cases h⟩
  |true=>
   rw[hq] at h;simp only[aBY] at h;split at h
   .rename_i hc;cases h;exact⟨rfl,fun _=>hc⟩
   .cases h
omit hT hΓ in
theorem aDp {np:Nat}{H:sD}: ∀{U:List (Nat×qD)},J3 np U=true->∀{i:Nat}{u:Ty}{y:u.den}{us:pN},i<np->qH (qZ U H) i=some (.cells u y us)->qH H i=some (.cells u y us)
 |[],_,i,u,y,us,_,h=>h
 |(j,b)::U,h,i,u,y,us,hi,hg=>by
  simp only[qZ,qH] at hg;split at hg
  .rename_i e;subst e;simp only[aUT] at hg;subst hg;simp only[J3] at h;split at h
   .omega
   .cases h
  .refine aDp ?_ hi hg;unfold J3 at h;split at h
   .rename_i heq;cases heq
   .rename_i heq;cases heq;split at h
    .exact h
    .cases h
   .rename_i heq;cases heq;exact h
theorem aDq {ops:List Oper}{o:Oper}{a:Act}{s:St}{e:qU}(henv:BF g w s.env a.tmps) (hH:sM g w s.H) (hr:zG T Γ ops o s=some e) (hs: ∀p∈e.side,p) (hf:zQ g s.nb e) {K:Act->pT->Prop}{Q:Exit->Act->pT->Prop}
  (hK: ∀g' w' v,A5 g w s.H e g' w' v->K (a.put o.dst v) w'):
  if Region.wanted o (yielded ops.toArray a.tmps) then o.wp P a w K Q else K (a.put o.dst undef) w:=by
 replace hr:=(RO hr).1;unfold NN at hr;cases hgd:o.guard with
 |none=>
  rw[hgd] at hr;simp only at hr;have hw:Region.wanted o (yielded ops.toArray a.tmps)=true:=by unfold Region.wanted;rw[hgd]
  rw[aUU hw];cases hop:o.op with
  |pick c x y=>
   rw[hop] at hr;simp only[NM] at hr;exact a1I hT hΓ hH hop (AP henv c) (AP henv x) (AP henv y) hr hs K Q hK
  |_=>
   rw[hop] at hr;simp only[NM] at hr;rw[<-hop] at hr;generalize hpl:vA T Γ o.type (fun x=>yJ (uQ s.env x)) s.nb s.H o.op=op at hr;cases op with
   |none=>cases hr
   |some e0=>
    simp only[NK,aUT] at hr;subst hr;refine a1G hT hΓ hH rfl (ρ:=fun x=>yJ (uQ s.env x)) (fun x hx=> ?_) hpl (fun p hp=>hs p (xS.2 (.inr hp))) hf K Q (fun g' w' v h=>hK g' w' v ⟨h.le,h.slot,h.heap,h.fr,h.perm,h.gho,h.ty⟩);exact O4 rfl (X7 hx) (fun p hp=>hs p (xS.2 (.inl hp))) (AP henv x)
 |some jb=>
  obtain⟨j,b⟩:=jb;rw[hgd] at hr;simp only at hr;cases hsk:Γ (W9 j b) with
  |some sg=>
   rw[hsk] at hr;simp only[QX] at hr;cases hdf:aBW o.op with
   |true=>rw[hdf] at hr;cases hr
   |false=>
   rw[hdf] at hr;simp only[aBX,aUT] at hr;subst hr;have hup:LE s.env b (AJ ops j)=false:=hs _ aU2;rw[aM5 hT hΓ henv hgd hup,aUX pJ];exact hK g w undef (A5.pure hH ⟨⟨fun hc=>(by cases hc),fun _=>rfl⟩,trivial⟩)
  |none=>
  rw[hsk] at hr;simp only[QX] at hr;generalize hG:HA s.env b (AJ ops j)=oG at hr;cases oG with
  |none=>cases hr
  |some G=>
   have hw:=aM4 hT hΓ henv hgd hG;rw[hw];by_cases hpk: ∃c x y,o.op= .pick c x y
   .obtain⟨c,x,y,hop⟩:=hpk;rw[hop] at hr;simp only[NL] at hr;generalize hpl:QV (yJ (uQ s.env c)) (uQ s.env x) (uQ s.env y)=op at hr;cases op with
    |none=>cases hr
    |some e0=>
     unfold J2 at hr;split at hr
     .rename_i side d k rds heq;simp only[aUT] at hr heq;subst hr;subst heq;by_cases hGt:G=true
      .rw[aUU hGt];refine a1I hT hΓ hH hop (O4 hGt (ss:=[uQ s.env c]) pK (fun p hp=>hs p (xS.2 (.inl hp))) (AP henv c)) (AP henv x) (AP henv y) hpl (fun p hp=>hs (G=true->p) (xS.2 (.inr (RN hT hΓ hp))) hGt) K Q (fun g' w' v h=>hK g' w' v ⟨h.le,⟨⟨fun _=>h.slot.1,fun hc=>by rw[hGt] at hc;cases hc⟩,trivial⟩,h.heap,h.fr,h.perm,h.gho,h.ty⟩)
      .rw[aUX hGt];exact hK g w undef (A5.pure hH ⟨⟨fun hc=>absurd hc hGt,fun _=>rfl⟩,trivial⟩)
     .rename_i side sl u us rds heq;simp only[aUT] at hr heq;subst hr;subst heq;have hGt:G=true:=hs _ aU2;rw[aUU hGt];exact a1I hT hΓ hH hop (O4 hGt (ss:=[uQ s.env c]) pK (fun p hp=>hs p (aU3 _ (xS.2 (.inl hp)))) (AP henv c)) (AP henv x) (AP henv y) hpl (fun p hp=>hs (G=true->p) (aU3 _ (xS.2 (.inr (RN hT hΓ hp)))) hGt) K Q (fun g' w' v h=>hK g' w' v ⟨h.le,h.slot,h.heap,h.fr,h.perm,h.gho,h.ty⟩)
     .cases hr
   .have e1:NL T Γ o s (some G) o.op=J2 G (zP G (CT s.env (sW o.op))) (vA T Γ o.type (fun x=>yJ (uQ s.env x)) s.nb s.H o.op):=by
     cases ho:o.op<;>first|rfl|(exact absurd ⟨_,_,_,ho⟩ hpk)
    rw[e1] at hr;generalize hpl:vA T Γ o.type (fun x=>yJ (uQ s.env x)) s.nb s.H o.op=op at hr;cases op with
    |none=>cases hr
    |some e0=>
     unfold J2 at hr;split at hr
     .rename_i side d k rds heq;simp only[aUT] at hr heq;subst hr;subst heq;by_cases hGt:G=true
      .rw[aUU hGt];refine a1G hT hΓ hH rfl (ρ:=fun x=>yJ (uQ s.env x)) (fun x hx=> ?_) hpl (fun p hp=>hs (G=true->p) (xS.2 (.inr (RN hT hΓ hp))) hGt) (fun i hi=>by cases hi) K Q (fun g' w' v h=>hK g' w' v ⟨h.le,⟨⟨fun _=>h.slot.1,fun hc=>by rw[hGt] at hc;cases hc⟩,trivial⟩,h.heap,h.fr,h.perm,h.gho,h.ty⟩);exact O4 hGt (X7 hx) (fun p hp=>hs p (xS.2 (.inl hp))) (AP henv x)
      .rw[aUX hGt];exact hK g w undef (A5.pure hH ⟨⟨fun hc=>absurd hc hGt,fun _=>rfl⟩,trivial⟩)
     .rename_i side sl u us rds heq;simp only[aUT] at hr heq;subst hr;subst heq;have hGt:G=true:=hs _ aU2;rw[aUU hGt];refine a1G hT hΓ hH rfl (ρ:=fun x=>yJ (uQ s.env x)) (fun x hx=> ?_) hpl (fun p hp=>hs (G=true->p) (aU3 _ (xS.2 (.inr (RN hT hΓ hp)))) hGt) hf K Q (fun g' w' v h=>hK g' w' v ⟨h.le,h.slot,h.heap,h.fr,h.perm,h.gho,h.ty⟩);exact O4 hGt (X7 hx) (fun p hp=>hs p (aU3 _ (xS.2 (.inl hp)))) (AP henv x)
     .cases hr
end
structure uD (A:Nat->Nat->Prop) (L:List qD) (g0:Gh) (w0:pT) (g:Gh) (w:pT) (H:sD):Prop where
 shut: ∀b o,g0.S b o->g.S b o/\w.cell? ⟨b,o,none⟩=w0.cell? ⟨b,o,none⟩
 fr:Fr A w0 w g0.S g.S
 perm: ∀i blk b o,qH H i=some blk->sG g i blk b o->w0.heap.size<=b\/A b o
 J: ∀i p,i<L.length->g0.J i=some p->g.J i=some p
 live: ∀i,i<L.length->(∃p,g.J i=some p)\/(∃n v,g.cur i n=some v)
 ty: ∀i u y us,i<L.length->qH H i=some (.cells u y us)->∃x ts,L[i]? =some (.cells u x ts)
 cur: ∀i n v,i<L.length->g0.cur i n=some v->g.cur i n=some v
theorem uD.eff {A:Nat->Nat->Prop}{L:List qD}{g0 g g':Gh}{w0 w w':pT}{H:sD}{e:qU}{v:pU}(h:uD A L g0 w0 g w H) (k:A5 g w H e g' w' v) (hc:IW e.rds=true->J3 L.length e.upd=true):uD A L g0 w0 g' w' (qZ e.upd H):=by
 have hown: ∀b o,tE g H (qJ e.upd) b o->w0.heap.size<=b\/A b o:=fun b o ⟨i,blk,_,h2,h3⟩=>h.perm i blk b o h2 h3;refine⟨fun b o hs=> ?_,h.fr.trans k.fr hown,fun i blk b o hg ho=> ?_,fun i p hi hp=>k.le.J _ _ (h.J i p hi hp),fun i hi=> ?_,fun i u y us hi hg=> ?_,fun i n u hi hu=>k.le.cur _ _ _ (h.cur i n u hi hu)⟩
 .obtain⟨h1,h2⟩:=h.shut b o hs;exact⟨k.le.S b o h1,(k.le.cell b o h1).trans h2⟩
 .by_cases hi:i∈qJ e.upd
  .rcases k.perm i blk b o hi hg ho with h1|h1
   .exact .inl (aVZ h.fr.size h1)
   .exact hown b o h1
  .exact h.perm i blk b o ((CY hi).symm.trans hg) ((A6 (k.gho i hi).1 (k.gho i hi).2).1 ho)
 .rcases h.live i hi with⟨p,hp⟩ |⟨n,u,hu⟩
  .exact .inl ⟨p,k.le.J _ _ hp⟩
  .exact .inr ⟨n,u,k.le.cur _ _ _ hu⟩
 .cases hre:IW e.rds with
  |true=>exact h.ty i u y us hi (aDp (hc hre) hi hg)
  |false=>
   rcases k.ty hre i u y us hg with⟨x,ts,h1⟩ |⟨h1,h2⟩
   .exact h.ty i u x ts hi h1
   .rcases h.live i hi with⟨p,hp⟩ |⟨n,u,hu⟩
    .rw[h1] at hp;cases hp
    .rw[h2] at hu;cases hu
def A9:pN->Nat->pR
 |[],_=>none
 |(n,o)::r,k=>if n=k then some o else A9 r k
def vC (g:Gh) (np:Nat) (m:pN):Gh:=
 ⟨g.S,fun i=>if i<np then g.J i else(A9 m i).bind g.J,fun i n=>if i<np then g.cur i n else(A9 m i).bind fun o=>g.cur o n⟩
theorem X8 {n o:Nat}: ∀{m:pN},NP n o m=false->∀n' o',(n',o')∈m->n'≠n/\o'≠o
 |[],_,_,_,h=>by cases h
 |(a,b)::m,h,n',o',hm=>by
  simp only[NP,aVG,aVE] at h;rcases aU9.1 hm with h1|h1
  .cases h1;exact h.1
  .exact X8 h.2 n' o' h1
theorem a1J {np:Nat}: ∀{m:pN},xQ np m=true->∀{n o:Nat},(n,o)∈m->A9 m n=some o/\(n<np->o=n)
 |[],_,_,_,h=>by cases h
 |(a,b)::m,hk,n,o,h=>by
  simp only[xQ,aU6,aVo,aV5,aU8] at hk;obtain⟨⟨h1,h2⟩,h3⟩:=hk;simp only[A9];rcases aU9.1 h with h4|h4
  .cases h4;rw[aUU rfl];exact⟨rfl,fun h5=>by rcases h1 with h1|h1<;>omega⟩
  .have h5:=X8 h2 n o h4;rw[aUX (Ne.symm h5.1)];exact a1J h3 h4
theorem DO: ∀{m:pN}{k j:Nat},xP m k=some j->(j,k)∈m
 |[],_,_,h=>by cases h
 |(a,b)::m,k,j,h=>by
  simp only[xP] at h;split at h
  .rename_i e;subst e;simp only[aUT] at h;subst h;exact aU2
  .exact aU3 _ (DO h)
theorem BG {g:Gh}{np:Nat}{m:pN}(hk:xQ np m=true) {n o:Nat}(h:(n,o)∈m):(vC g np m).J n=g.J o/\(vC g np m).cur n=g.cur o:=by
 obtain⟨h1,h2⟩:=a1J hk h;refine⟨?_,?_⟩
 .show (if n<np then g.J n else(A9 m n).bind g.J)=_;by_cases hn:n<np
  .rw[aUU hn,h2 hn]
  .rw[aUX hn,h1];rfl
 .funext q;show (if n<np then g.cur n q else(A9 m n).bind fun o=>g.cur o q)=_;by_cases hn:n<np
  .rw[aUU hn,h2 hn]
  .rw[aUX hn,h1];rfl
theorem a1K {g:Gh}{np:Nat}{m:pN}(hk:xQ np m=true): ∀(l l':pN) (vs:pP),yV g l vs->CV m l=some l'->yV (vC g np m) l' vs
 |[],l',vs,h,hr=>by simp only[CV,aUT] at hr;subst hr;exact h
 |(i,o)::l,l',vs,⟨p,vs',h1,h2,h3⟩,hr=>by
  simp only[CV] at hr;cases hi:xP m i with
  |none=>rw[hi] at hr;cases hr2:CV m l<;>rw[hr2] at hr<;>cases hr
  |some j=>
   rw[hi] at hr;cases hr2:CV m l with
   |none=>rw[hr2] at hr;cases hr
   |some l2=>
    rw[hr2] at hr;simp only[CV.renCons,aUT] at hr;subst hr;exact⟨p,vs',by rw[(BG hk (DO hi)).1];exact h1,h2,a1K hk l l2 vs' h3 hr2⟩
theorem aM6 {m:pN}{u t:Ty}{x y:t.den}{o:Nat}{l:List u.den}(h:A4 m t x=some y) (hg:rJ (.list u) t x o=some l):rJ (.list u) t y o=some l:=
 a1x (A4 m) (fun _ _ _=>rfl) (fun _ _=>rfl) h hg
theorem RP {g:Gh}{w:pT}{np:Nat}{m:pN}(hk:xQ np m=true): ∀{t:Ty}{x y:t.den}{cs:pP},Rd g w t x cs->A4 m t x=some y->Rd (vC g np m) w t y cs
 | .bool,_,_,_,r,h=>by cases h;exact r
 | .int _,_,_,_,r,h=>by cases h;exact r
 | .str,_,_,_,r,h=>by cases h;exact r
 | .unit,_,_,_,r,h=>by cases h;exact r
 | .list t,x,y,_,r,h=>by
  simp only[A4] at h;split at h
  .rename_i hp;cases h;exact wQ (g:=g) (g':=vC g np m) rfl (t:= .list t) (by simpa[Ty.pure] using hp) r
  .cases h
 | .ref,none,y,_,r,h=>by cases h;exact r
 | .ref,some (i,o),y,_,⟨p,h1,h2⟩,h=>by
  simp only[A4,WE] at h;cases hi:xP m i with
  |none=>rw[hi] at h;cases h
  |some j=>
   rw[hi] at h;cases h;exact⟨p,by rw[(BG hk (DO hi)).1];exact h1,h2⟩
 | .clo,none,y,_,r,h=>by cases h;exact r
 | .clo,some (f,l),y,_,⟨vs,h1,h2⟩,h=>by
  simp only[A4,aB2] at h;cases hi:CV m l with
  |none=>rw[hi] at h;cases h
  |some l'=>
   rw[hi] at h;cases h;exact⟨vs,a1K hk l l' vs h1 hi,h2⟩
 | .fn,_,_,_,r,h=>by cases h;exact r
 | .rl _ _,none,y,_,r,h=>by cases h;exact r
 | .rl _ _,some (k,n),y,_,⟨v,h1,h2⟩,h=>by
  simp only[A4,aB4] at h;cases hi:xP m k with
  |none=>rw[hi] at h;cases h
  |some j=>
   rw[hi] at h;cases h;exact⟨v,by rw[(BG hk (DO hi)).2];exact h1,h2⟩
 | .mref,none,y,_,r,h=>by cases h;exact r
 | .mref,some (i,o),y,_,⟨p,h1,h2⟩,h=>by
  simp only[A4,WE] at h;cases hi:xP m i with
  |none=>rw[hi] at h;cases h
  |some j=>
   rw[hi] at h;cases h;exact⟨p,by rw[(BG hk (DO hi)).1];exact h1,h2⟩
 | .mp,none,y,_,r,h=>by cases h;exact r
 | .mp,some i,y,_,⟨p,h1,h2⟩,h=>by
  simp only[A4,aB3] at h;cases hi:xP m i with
  |none=>rw[hi] at h;cases h
  |some j=>
   rw[hi] at h;cases h;exact⟨p,by rw[(BG hk (DO hi)).1];exact h1,h2⟩
 | .pair a b,x,y,_,⟨c1,c2,e,r1,r2⟩,h=>by
  simp only[A4] at h;obtain⟨h1,h2⟩:=a1w h;refine⟨c1,c2,e,?_,?_⟩
  .split at h1
   .rename_i hp;exact(aUZ h1)▸wQ (g:=g) (g':=vC g np m) rfl hp r1
   .exact RP hk r1 h1
  .split at h2
   .rename_i hp;exact(aUZ h2)▸wQ (g:=g) (g':=vC g np m) rfl hp r2
   .exact RP hk r2 h2
theorem X9 {g:Gh}{w:pT}{np:Nat}{m:pN}(hk:xQ np m=true) {s:qE}{v:pU}(h:rX g w s v):rX (vC g np m) w (AK m s) v:=by
 have caps: ∀(l l':pN) (vs:pP),yV g l vs->CV m l=some l'->yV (vC g np m) l' vs:=a1K hk;unfold AK;split
 .rename_i k n k';cases hi:xP m k with
  |none=>exact⟨trivial,trivial⟩
  |some j=>
   obtain⟨h1,h2⟩:=h.1;exact⟨⟨by rw[(BG hk (DO hi)).2];exact h1,h2⟩,trivial⟩
 .obtain h1:=h.1;refine⟨?_,trivial⟩;rcases h1 with⟨h1,_⟩ |⟨_,h2⟩
  .cases h1
  .exact .inr ⟨rfl,h2⟩
 .rename_i p k;obtain⟨i,o⟩:=p;simp only[aB0];cases hi:xP m i with
  |none=>exact⟨trivial,trivial⟩
  |some j=>
   simp only[Option.map_some,AK.refSlot];obtain⟨q,hq,hv⟩:=A7 h.1;exact⟨.inr ⟨rfl,q,by rw[(BG hk (DO hi)).1];exact hq,by rw[hv]⟩,trivial⟩
 .rename_i f l k;cases hl:CV m l with
  |none=>exact⟨trivial,trivial⟩
  |some l'=>
   simp only[AK.cloSlot];rcases h.1 with⟨h1,_⟩ |⟨_,vs,h2,h3⟩
   .cases h1
   .exact⟨.inr ⟨rfl,vs,caps l l' vs h2 hl,h3⟩,trivial⟩
 .rename_i i k;cases hi:xP m i with
  |none=>exact⟨trivial,trivial⟩
  |some j=>
   simp only[AK.mpSlot];rcases h.1 with⟨h1,_⟩ |⟨_,p,h2,h3⟩
   .cases h1
   .exact⟨.inr ⟨rfl,p,by rw[(BG hk (DO hi)).1];exact h2,h3⟩,trivial⟩
 .rename_i t x k _ _ _ _;split
  .rename_i hp;have hv:tT (vC g np m) w t x v:=h.1.imp (fun⟨a,cs,e,q⟩=>⟨a,cs,e,wQ (g:=g) (g':=vC g np m) rfl hp q⟩) (fun⟨a,q⟩=>⟨a,wQ (g:=g) (g':=vC g np m) rfl hp q⟩);refine⟨hv,?_⟩;replace h:=aCO h;generalize htk:FS t k=k' at h|-;cases k' with
   |none=>trivial
   |some k=>
    simp only[aB1];cases hj:xP m k with
    |none=>trivial
    |some j=>
     have h2:=h.2;cases t with
     |list u=>
      show (vC g np m).cur j _=_;rw[(BG hk (DO hj)).2];exact h2
     |pair a b=>cases htk
     |_=>exact h2.elim
  .cases hy:A4 m t x with
   |none=>exact⟨trivial,trivial⟩
   |some y=>
    simp only[AK.valSlot];exact⟨h.1.imp (fun⟨a,cs,e,q⟩=>⟨a,cs,e,RP hk q hy⟩) (fun⟨a,q⟩=>⟨a,RP hk q hy⟩),trivial⟩
 .rename_i t x k;split
  .rename_i hp;obtain⟨b,o,cs,h1,h2,h3,h4⟩:=h.1;exact⟨⟨b,o,cs,h1,h2,h3,wQ (g:=g) (g':=vC g np m) rfl hp h4⟩,trivial⟩
  .exact⟨trivial,trivial⟩
 .exact⟨h.1,trivial⟩
 .exact⟨trivial,trivial⟩
theorem aDr {q j:Nat}{x:Nat×Nat}: ∀{r:pN},x∈WF q j r->x=(q,j)\/x∈r
 |[],h=> .inl (aVb.1 h)
 |(a,b)::r,h=>by
  simp only[WF] at h;split at h
  .exact aU9.1 h
  .rcases aU9.1 h with h|h
   .exact .inr (by rw[h];exact aU2)
   .exact(aDr h).imp id (aU3 _)
theorem XA {m:pN}: ∀{ts:pN}{q j:Nat},(q,j)∈LI m ts->∃k,(q,k)∈ts/\xP m k=some j
 |[],_,_,h=>by cases h
 |(a,b)::ts,q,j,h=>by
  simp only[LI] at h;cases hb:xP m b with
  |none=>
   rw[hb] at h;obtain⟨k,h1,h2⟩:=XA h;exact⟨k,aU3 _ h1,h2⟩
  |some j'=>
   rw[hb] at h;simp only[LI.renTok1] at h;rcases aDr h with h1|h1
   .cases h1;exact⟨b,aU2,hb⟩
   .obtain⟨k,h1,h2⟩:=XA h1;exact⟨k,aU3 _ h1,h2⟩
theorem LO {g:Gh}{w:pT}{np:Nat}{m:pN}(hk:xQ np m=true) {n o:Nat}(hm:(n,o)∈m) {b:Option qD}(h: ∀c,b=some c->AM g w o c):
  AM (vC g np m) w n (J7 m b)/\∀bb oo,sG (vC g np m) n (J7 m b) bb oo->∃c,b=some c/\sG g o c bb oo:=by
 obtain⟨hJ,hcur⟩:=BG (g:=g) hk hm;unfold J7;split
 .rename_i t x toks;split
  .rename_i hp;obtain⟨p,cs,h1,h2,h3,h4,h5,h6⟩:=h _ rfl;refine⟨⟨p,cs,by rw[hJ];exact h1,wQ (g:=g) (g':=vC g np m) rfl hp h2,h3,h4,h5,fun q j hmem=> ?_⟩,fun bb oo ⟨pp,e1,e2⟩=>⟨_,rfl,pp,by rw[hJ] at e1;exact e1,e2⟩⟩;obtain⟨k,k1,k2⟩:=XA hmem;obtain⟨u,l,v,g1,g2,g3⟩:=h6 q k k1;exact⟨u,l,v,g1,g2,by rw[(BG hk (DO k2)).2];exact g3⟩
  .cases hy:A4 m t x with
   |none=>exact⟨trivial,fun _ _ h=>h.elim⟩
   |some y=>
    obtain⟨p,cs,h1,h2,h3,h4,h5,h6⟩:=h _ rfl;simp only[a0Z];refine⟨⟨p,cs,by rw[hJ];exact h1,RP hk h2 hy,h3,h4,h5,fun q j hmem=> ?_⟩,fun bb oo ⟨pp,e1,e2⟩=>⟨_,rfl,pp,by rw[hJ] at e1;exact e1,e2⟩⟩;obtain⟨k,k1,k2⟩:=XA hmem;obtain⟨u,l,v,g1,g2,g3⟩:=h6 q k k1;exact⟨u,l,v,aM6 hy g1,g2,by rw[(BG hk (DO k2)).2];exact g3⟩
 .rename_i e c k;obtain⟨v,xs,h1,h2,h3,h4⟩:=h _ rfl;exact⟨⟨v,xs,by rw[hcur];exact h1,h2,fun q hq=>by rw[hcur];exact h3 q hq,h4⟩,fun bb oo ⟨v',e1,e2⟩=>⟨_,rfl,v',by rw[hcur] at e1;exact e1,e2⟩⟩
 .rename_i e t l n;split
  .rename_i hp;obtain⟨h0,v,xs,h1,h2,h5,h3,h4⟩:=h _ rfl;exact⟨⟨h0,v,xs,by rw[hcur];exact h1,h2,DM (fun _ _ h=>wQ (g:=g) (g':=vC g np m) rfl hp h) h5,fun q hq=>by rw[hcur];exact h3 q hq,h4⟩,fun bb oo ⟨v',e1,e2⟩=>⟨_,rfl,v',by rw[hcur] at e1;exact e1,e2⟩⟩
  .exact⟨trivial,fun _ _ h=>h.elim⟩
 .rename_i k v l;split
  .rename_i hp;rw[aU6] at hp;obtain⟨p,es,cl,h1,h0,h2,h3,h4⟩:=h _ rfl;exact⟨⟨p,es,cl,by rw[hJ];exact h1,h0,h2,R6 (g:=g) (g':=vC g np m) rfl hp.1 hp.2 h3,h4⟩,fun bb oo ⟨pp,e1,e2⟩=>⟨_,rfl,pp,by rw[hJ] at e1;exact e1,e2⟩⟩
  .exact⟨trivial,fun _ _ h=>h.elim⟩
 .obtain⟨p,h1,h0,h2,h4⟩:=h _ rfl;exact⟨⟨p,by rw[hJ];exact h1,h0,h2,h4⟩,fun bb oo ⟨pp,e1,e2⟩=>⟨_,rfl,pp,by rw[hJ] at e1;exact e1,e2⟩⟩
 .exact⟨trivial,fun _ _ h=>h.elim⟩
theorem JE {m:pN}{H:sD}: ∀{l:pN}{n:Nat}{b:qD},qH (WG m H l) n=some b->∃o,(n,o)∈l/\b=J7 m (qH H o)
 |[],_,_,h=>by cases h
 |(a,c)::l,n,b,h=>by
  simp only[WG,qH] at h;split at h
  .rename_i e;subst e;exact⟨c,aU2,(aUZ h).symm⟩
  .obtain⟨o,h1,h2⟩:=JE h;exact⟨o,aU3 _ h1,h2⟩
theorem aDs {m:pN}{env:List (Nat×qE)}: ∀(l:pS) (t:Nat),lk (R0 m env l) t=(.any,none)\/lk (R0 m env l) t=AK m (lk env t)
 |[],_=> .inl rfl
 |a::l,t=>by
  simp only[R0,lk];split
  .rename_i e;subst e;exact .inr rfl
  .exact aDs l t
theorem aDt: ∀{m:pN}{n o:Nat},(n,o)∈m->n<WH m
 |(a,b)::m,n,o,h=>by
  simp only[WH];rcases aU9.1 h with h1|h1
  .cases h1;omega
  .have:=aDt h1;omega
theorem a1L: ∀{m:pN}{n o:Nat},A9 m n=some o->(n,o)∈m
 |[],_,_,h=>by cases h
 |(a,b)::m,n,o,h=>by
  simp only[A9] at h;split at h
  .rename_i e;subst e;simp only[aUT] at h;subst h;exact aU2
  .exact aU3 _ (a1L h)
theorem a1M {B:Nat}{A:Nat->Nat->Prop}{L:List qD}{g0 g:Gh}{w0 w:pT}{s:St}{a:Act}(h:w7 B g w s a) (hg:uD A L g0 w0 g w s.H) (hnp:s.np=L.length) (k:wZ) (hk:xQ s.np k.ids=true):
  w7 B (vC g s.np k.ids) w (s.keep k) a/\uD A L g0 w0 (vC g s.np k.ids) w (s.keep k).H/\(s.keep k).np=L.length/\(s.keep k).N=s.N:=by
 unfold St.keep;rw[hk];refine⟨⟨fun t=> ?_,⟨fun i b hb=> ?_,fun i j bi bj b o hij h1 h2 o1 o2=> ?_,h.heap.sl,h.heap.tab.1,fun i b bb oo hb ho=>by
   obtain⟨o,h1,rfl⟩:=JE hb;obtain⟨c1,e1,o1'⟩:=(LO hk h1 fun c hc=>h.heap.blk o c hc).2 bb oo ho;exact h.heap.tab.2 o c1 bb oo e1 o1'⟩,h.size,fun i hi=> ?_,h.def_,Nat.le_max_left _ _⟩,⟨hg.shut,hg.fr,fun i blk b o hb ho=> ?_,fun i p hi hp=> ?_,fun i hi=> ?_,fun i u y us hi hb=> ?_,fun i n u hi hu=>(by
   show (if i<s.np then g.cur i n else _)=_;rw[aUU pI];exact hg.cur i n u hi hu)⟩,hnp,rfl⟩
 .rcases aDs (m:=k.ids) (env:=s.env) k.slots t with e|e
  .exact⟨by rw[show lk (R1 s k true).env t=_ from e];trivial,by rw[show lk (R1 s k true).env t=_ from e];trivial⟩
  .have:=X9 hk (h.env t);rw[show lk (R1 s k true).env t=_ from e];exact this
 .obtain⟨o,h1,rfl⟩:=JE hb;exact(LO hk h1 fun c hc=>h.heap.blk o c hc).1
 .obtain⟨p,k1,rfl⟩:=JE h1;obtain⟨q,k2,rfl⟩:=JE h2;obtain⟨c1,e1,o1'⟩:=(LO hk k1 fun c hc=>h.heap.blk p c hc).2 b o o1;obtain⟨c2,e2,o2'⟩:=(LO hk k2 fun c hc=>h.heap.blk q c hc).2 b o o2;refine h.heap.dis p q c1 c2 b o (fun e=> ?_) e1 e2 o1' o2';subst e;have inj: ∀{m:pN},xQ s.np m=true->∀{i j o:Nat},(i,o)∈m->(j,o)∈m->i=j:=by
   intro m
   induction m with
   |nil=>intro _ _ _ _ h;cases h
   |cons z m ih=>
    obtain⟨z1,z2⟩:=z;intro hk i j o h1 h2;simp only[xQ,aU6,aVo] at hk;rcases aU9.1 h1 with h1|h1<;>rcases aU9.1 h2 with h2|h2
    .cases h1;cases h2;rfl
    .cases h1;exact absurd rfl (X8 hk.1.2 _ _ h2).2
    .cases h2;exact absurd rfl (X8 hk.1.2 _ _ h1).2
    .exact ih hk.2 h1 h2
  exact hij (inj hk k1 k2)
 .have hi': ¬i<s.np:=by have:=aVZ (Nat.le_max_left _ _) hi;omega
  have hold:A9 k.ids i=none:=by
   cases ho:A9 k.ids i with
   |none=>rfl
   |some o=>
    have:=aDt (a1L ho);have:=aVZ (Nat.le_max_right _ _) hi;omega
  refine⟨?_,fun n=> ?_⟩
  .show (if i<s.np then g.J i else(A9 k.ids i).bind g.J)=none;rw[aUX hi',hold];rfl
  .show (if i<s.np then g.cur i n else(A9 k.ids i).bind fun o=>g.cur o n)=none;rw[aUX hi',hold];rfl
 .obtain⟨p,h1,rfl⟩:=JE hb;obtain⟨c,e1,e2⟩:=(LO hk h1 fun c hc=>h.heap.blk p c hc).2 b o ho;exact hg.perm p c b o e1 e2
 .show (if i<s.np then g.J i else _)=_;rw[aUU pI];exact hg.J i p hi hp
 .rcases hg.live i hi with⟨p,hp⟩ |⟨n,v,hv⟩
  .left;refine⟨p,?_⟩;show (if i<s.np then g.J i else _)=_;rw[aUU pI];exact hp
  .right;refine⟨n,v,?_⟩;show (if i<s.np then g.cur i n else _)=_;rw[aUU pI];exact hv
 .obtain⟨o,h1,h2⟩:=JE hb;have ho:=(a1J hk h1).2 pI;subst ho;unfold J7 at h2;split at h2
  .rename_i t x toks heq;split at h2
   .simp only[qD.cells.injEq] at h2;obtain⟨rfl,_⟩:=h2;exact hg.ty o u x toks hi heq
   .cases hy:A4 k.ids t x with
    |none=>rw[hy] at h2;cases h2
    |some y=>
     rw[hy] at h2;simp only[a0Z,qD.cells.injEq] at h2;obtain⟨rfl,_⟩:=h2;exact hg.ty o u x toks hi heq
  .cases h2
  .split at h2<;>cases h2
  .split at h2<;>cases h2
  .cases h2
  .cases h2
theorem HH {B:Nat}{A:Nat->Nat->Prop}{L:List qD}{g0 g:Gh}{w0 w:pT}{s:St}{a:Act}(h:w7 B g w s a) (hg:uD A L g0 w0 g w s.H) (hnp:s.np=L.length) (k:wZ):
  ∃g',w7 B g' w (s.keep k) a/\uD A L g0 w0 g' w (s.keep k).H/\(s.keep k).np=L.length/\(s.keep k).N=s.N:=by
 unfold St.keep;cases hk:xQ s.np k.ids with
 |false=>
  refine⟨g,⟨fun t=>⟨trivial,trivial⟩,⟨(fun i b h=>by cases h),(fun i j bi bj b o _ h=>by cases h),h.heap.sl,h.heap.tab.1,(fun i b bb oo h=>by cases h)⟩,h.size,h.nb,h.def_,h.np⟩,⟨hg.shut,hg.fr,(fun i blk b o h=>by cases h),hg.J,hg.live,(fun i u y us _ h=>by cases h),hg.cur⟩,hnp,rfl⟩
 |true=>
  have:=a1M h hg hnp k hk;unfold St.keep at this;rw[hk] at this;exact⟨_,this⟩
theorem a1N {g g':Gh}{w w':pT}{env:List (Nat×qE)}{a:Act}{o:Oper}{sl:qE}{v:pU}(h:BF g w env a.tmps) (le:Le g w g' w') (hs:rX g' w' sl v) {N:Nat}(hN:a.tmps.size=N) (hd:J4 N o.dst=true):BF g' w' (uM o.dst sl env) (a.put o.dst v).tmps:=by
  intro t;cases ho:o.dst with
  |none=>exact DL le (h t)
  | some d=>
    rw[ho] at hd;simp only[J4,aU8] at hd;simp only[uM,lk,Act.put];by_cases hdt:d=t
    · subst hdt
      rw[aUU rfl];have hlt:d<a.tmps.size:=by rw[hN];exact hd
      have:(a.tmps.setIfInBounds d v).getD d undef=v:=by
        rw[aVr,Array.getElem?_setIfInBounds_self_of_lt hlt];rfl
      rw[this];exact hs
    · rw[aUX hdt]
      have:(a.tmps.setIfInBounds d v).getD t undef=a.tmps.getD t undef:=by
        rw[aVr,aWn hdt,←aVr]
      rw[this];exact DL le (h t)
theorem RQ {n:Nat}: ∀{u:List (Nat×qD)},J5 n u=true→∀{i:Nat},i∈qJ u→i<n
  | (k,b)::u,h,i,hi=>by
    simp only[J5,aU6,aU8] at h;simp only[qJ,aU9] at hi;rcases hi with rfl|hi
    .exact h.1
    .exact RQ h.2 hi
theorem aDu (a:Act) (d:Option Tmp) (v:pU):(a.put d v).tmps.size=a.tmps.size:=by
  cases d<;>simp [Act.put]
theorem aDv (a:Act) (d:Option Tmp) (v:pU):(a.put d v).defers=a.defers:=by
  cases d<;>simp [Act.put]
theorem w7.step {B:Nat}{g g':Gh}{w w':pT}{s:St}{a:Act}{o:Oper}{e:qU}{v:pU}(h:w7 B g w s a) (k:A5 g w s.H e g' w' v) (hd:J4 s.N o.dst=true) (hi:J5 (s.nb+32) e.upd=true):
    w7 B g' w' ⟨uM o.dst e.slot s.env,qZ e.upd s.H,s.nb+32,s.N,s.np⟩ (a.put o.dst v):=by
  refine⟨a1N h.env k.le k.slot h.size hd,k.heap,(aDu _ _ _).trans h.size,fun i hn=> ?_,by rw[aDv];exact h.def_.eff h.heap k,aVZ h.np (Nat.le_add_right _ _)⟩;have:i∉qJ e.upd:=fun hm=>by have:=RQ hi hm;simp only at hn;omega
  have hk:=k.gho i this;have hb:=h.nb i (by simp only at hn;omega);exact⟨hk.1.trans hb.1,fun n=>by rw[hk.2];exact hb.2 n⟩
theorem aDw {T:sY}{Γ:uL}{ops:List Oper}: ∀(l:List Oper),vB T Γ ops l none=none
  |[]=>rfl
  |_::_=>rfl
theorem a1O {T:sY}{Γ:uL}{ops:List Oper}{o:Oper}{l:List Oper}{x y:wA}(h:vB T Γ ops (o::l) (some x)=some y):
    ∃ e,zG T Γ ops o x.s=some e∧J4 x.s.N o.dst=true∧J5 (x.s.nb+32) e.upd=true∧
      vB T Γ ops l (some ⟨⟨uM o.dst e.slot x.s.env,qZ e.upd x.s.H,x.s.nb+32,x.s.N,x.s.np⟩,qZ x.side (qZ (LF x.s.H e.upd e.rds e.upd) e.side),e::x.es⟩)=some y:=by
  simp only[vB] at h;cases he:zG T Γ ops o x.s with
  |none=>rw[he] at h;simp only[WA] at h;rw[aDw] at h;cases h
  | some e=>
    rw[he] at h;simp only[WA] at h;by_cases hc:(J4 x.s.N o.dst&&J5 (x.s.nb+32) e.upd)=true
    · rw[aUU hc] at h
      simp only[aU6] at hc;exact⟨e,rfl,hc.1,hc.2,h⟩
    .rw[aUX hc,aDw] at h;cases h
theorem G0 {T:sY}{Γ:uL}{ops:List Oper}: ∀{l:List Oper}{x y:wA},vB T Γ ops l (some x)=some y→(∀p∈x.side,p∈y.side)∧y.s.N=x.s.N∧y.s.np=x.s.np
  | [],x,y,h=>by
    simp only[vB,aUT] at h;subst h;exact⟨fun _ h=>h,rfl,rfl⟩
  | o::l,x,y,h=>by
    obtain⟨e,_,_,_,h4⟩:=a1O h;obtain⟨h5,h6,h7⟩:=G0 h4;exact⟨fun p hp=>h5 p (xS.2 (.inl hp)),h6,h7⟩
def G1 (ro:pR):Fence:={Fence.wide with round:=ro}
theorem aDx {ro:pR}{n:Nat}{P:Program}{f:FuncId}{args:Array pU}{w:pT}{R:Ending→pT→Prop}(h:Calls P f args w R):CallsIn (G1 ro) n P f args w R:=callsIn_wide.2 h
section
variable {B:Nat}{P:Program}{T:sY}{Γ:uL}(hT:y5 P T) (hΓ:EO P Γ) {A:Nat→Nat→Prop}{L:List qD}{g0:Gh}{w0:pT}{Q:Exit→Act→pT→Prop}
include hT hΓ
theorem aM7 {g:Gh}{w:pT}{s:St}{a:Act}(h:w7 B g w s a) (e:qU):zQ g s.nb e:=fun i _ hb=>h.nb i hb
omit hT hΓ in
theorem aDy {ops:List Oper}{o:Oper}{s:St}{e:qU}(h:zG T Γ ops o s=some e): ∀c,o.op≠.defer c:=by
  intro c hc;replace h:=(RO h).1;unfold NN at h;cases hg:o.guard with
  |none=>rw[hg,hc] at h;simp [NM,vA,NK] at h
  | some jb=>
    rw[hg,hc] at h;simp only at h;cases hk:Γ (W9 jb.1 jb.2) with
    |some _=>rw[hk] at h;cases h
    | none=>
      rw[hk] at h;simp only[QX] at h;cases hG:HA s.env jb.2 (AJ ops jb.1)<;>rw[hG] at h<;>simp [NL,vA,J2] at h
omit hT hΓ in
theorem aDz {ro:pR}{o:Oper}{a:Act}{w:pT}{K:Act→pT→Prop}(hd: ∀c,o.op≠.defer c) (h:o.wp P a w K Q):o.wpIn (G1 ro) 0 P a w K Q:=by
  refine⟨fun _ _=>trivial,?_⟩;rw[Oper.semAt_eq _ _ _ hd];unfold Oper.wp at h;generalize (execOp a.eval o).run P w=r at h|-;unfold Oper.upon at h;unfold Oper.uponIn;split at h
  .exact h
  .exact h
  .exact h
  .exact⟨fun h0=>(by cases h0),aDx h⟩
  .exact⟨fun h0=>(by cases h0),fun c cs _=>let ⟨v,w',r,s⟩:=h c cs;⟨v,w',r,stepsIn_wide.2 s⟩⟩
  .exact h
  .exact h.elim
theorem aDA {ro:pR}{ops:Array Oper}: ∀{l:List Oper}{x y:wA}{a:Act}{w:pT}{g:Gh},vB T Γ ops.toList l (some x)=some y→(∀p∈y.side,p)→w7 B g w x.s a→uD A L g0 w0 g w x.s.H→L.length=x.s.np→
    (∀g' a' w',w7 B g' w' y.s a'→uD A L g0 w0 g' w' y.s.H→Q .normal a' w')→wpListIn (G1 ro) 0 P ops Q l a w
  | [],x,y,a,w,g,h,hs,hr,hg,hn,hQ=>by
    simp only[vB,aUT] at h;subst h;exact hQ g a w hr hg
  | o::l,x,y,a,w,g,h,hs,hr,hg,hn,hQ=>by
    obtain⟨e,h1,h2,h3,h4⟩:=a1O h;have hside: ∀p∈e.side,p:=fun p hp=>hs p ((G0 h4).1 p (xS.2 (.inr (xS.2 (.inr hp)))));have key:=aDq hT hΓ (ops:=ops.toList) (o:=o) (a:=a) (K:=wpListIn (G1 ro) 0 P ops Q l) (Q:=Q) hr.env hr.heap h1 hside (aM7 hT hΓ hr e) (fun g' w' v k=>aDA h4 hs (hr.step k h2 h3) (hg.eff k (hn▸(RO h1).2)) hn hQ);simp only[aWr] at key;unfold wpListIn;split at key
    .rename_i hw;rw[aUU hw];exact aDz (aDy h1) key
    .rename_i hw;rw[aUX hw];exact⟨fun _ _=>trivial,key⟩
theorem aM8 {ro:pR}{id:Nat}{ops:Array Oper}{s:St}{y:wA}{a:Act}{w:pT}{g:Gh}(h:vB T Γ ops.toList ops.toList (some ⟨s,[],[]⟩)=some y) (hs: ∀p∈y.side,p) (hr:w7 B g w s a) (hg:uD A L g0 w0 g w s.H) (hn:L.length=s.np)
    (hQ: ∀g' a' w',w7 B g' w' y.s a'→uD A L g0 w0 g' w' y.s.H→Q .normal a' w'):(Code.region id ops false).wpIn (G1 ro) 0 P Q a w:=
  wpIn_region_list (aDA hT hΓ h hs hr hg hn hQ)
end
theorem aM9 {H H':List (Nat×qD)}{t:Ty}{i off:Nat}{e:qU}(h:J1 H t i off (qH H i)=some e) (hl: ∀id∈e.rds,qH H' id=qH H id):i∈e.rds∧J1 H' t i off (qH H' i)=some e:=by
  have key: ∃k n v x ts,qH H i=some (.cells v x ts)∧BW v x=some (k,n)∧VG t i off k n v x (qH H k)=some e∧e.rds=[1000000000,i,k]:=by
    unfold J1 at h;split at h
    case h_2=>cases h
    rename_i v x ts hb;cases hf:BW v x with
    |none=>rw[hf] at h;cases h
    | some q=>
      obtain⟨k,n⟩:=q;rw[hf] at h;refine⟨k,n,v,x,ts,hb,hf,h,?_⟩;simp only[VH] at h;unfold VG at h;split at h
      case h_2=>cases h
      generalize A2 _ _ _ _=z at h;cases z with
      |none=>cases h
      | some z=>
        obtain⟨v',x'⟩:=z;simp only[a0E] at h;unfold a0D at h;split at h
        .simp only[aUT] at h;rw[←h]
        .cases h
  obtain⟨k,n,v,x,ts,h1,h2,h3,h4⟩:=key;refine⟨by rw[h4];simp,?_⟩;rw[hl i (by rw[h4];simp),h1];simp only[J1,h2,VH];rw[hl k (by rw[h4];simp)];exact h3
theorem a1P {ρ ρ':Operand→qE}: ∀{xs:List Operand},(∀x∈xs,ρ' x=ρ x)→wH ρ' xs=wH ρ xs
  |[],_=>rfl
  |x::xs,h=>by simp only[wH,h x pK,a1P (fun y hy=>h y (aU3 _ hy))]
theorem a1Q {ρ ρ':Operand→qE}: ∀{xs:List (Nat×Operand)},(∀x∈xs,ρ' x.2=ρ x.2)→v8 ρ' xs=v8 ρ xs
  |[],_=>rfl
  |(i,x)::xs,h=>by simp only[v8,h (i,x) pK,a1Q (fun y hy=>h y (aU3 _ hy))]
theorem aDB {T:sY}{ρ ρ':Operand→qE}: ∀{xs:List Operand}{ts:List TypeId},(∀x∈xs,ρ' x=ρ x)→H8 T ρ' xs ts=H8 T ρ xs ts
  |[],_,_=>by simp [H8]
  |_::_,[],_=>by simp [H8]
  |x::xs,t::ts,h=>by simp only[H8,h x pK,aDB (fun y hy=>h y (aU3 _ hy))]
theorem aNa {T:sY}{Γ:uL}{ty:TypeId}{ρ ρ':Operand→qE}{base:Nat}{H:List (Nat×qD)}(op:Op) (h: ∀x∈op.operands,ρ' x=ρ x):vA T Γ ty ρ' base H op=vA T Γ ty ρ base H op:=by
  cases op
  case slice t x lo hi mx=>
    cases mx with
    |some m=>rfl
    | none=>
      have h1:=h x (by simp [Op.operands])
      have h2:A3 ρ' lo=A3 ρ lo:=by
        cases lo with
        |none=>rfl
        |some l=>simp only[A3,h l (by simp [Op.operands])]
      have h3:A3 ρ' hi=A3 ρ hi:=by
        cases hi with
        |none=>rfl
        |some l=>simp only[A3,h l (by simp [Op.operands])]
      simp only[vA,h1,h2,h3]
  case call c=>
    obtain⟨callee,args,tys⟩:=c
    have ha: ∀x∈args.toList,ρ' x=ρ x:=fun x hx=>h x (by
      have:x∈args:=by simpa using hx
      simp only[Op.operands,Call.operands];split<;>simp [this])
    cases callee with
    |builtin b=>cases b<;>simp only[vA,LD,a1P ha]
    | value f=>
      have hf:=h f (by simp [Op.operands,Call.operands]);simp only[vA,LD,hf];cases LC args.toList tys.toList with
      |false=>rfl
      |true=>simp only[a0S,aDB ha]
    |_=>rfl
  case build t ps=>simp only[vA,a1Q (fun x hx=>h x.2 (by simp only[Op.operands,aWO];exact List.mem_map_of_mem hx))]
  case buildSlice t n ps=>simp only[vA,a1Q (fun x hx=>h x.2 (by simp only[Op.operands,aWO];exact List.mem_map_of_mem hx))]
  case makeFunc f first caps=>
    cases f with
    | func f=>
      have hc: ∀x∈caps.toList,ρ' x=ρ x:=fun x hx=>h x (by
        have:x∈caps:=by simpa using hx
        simp [Op.operands,this])
      simp only[vA,a1P hc]
    |_=>rfl
  all_goals first
    |rfl
    |(simp only[Op.operands,aWO,aU9,aWv,or_false,forall_eq,forall_eq_or_imp] at h;simp only[vA,h])
    |(simp [Op.operands] at h;simp only[vA,h])
theorem a1R: ∀{l acc:List rV}{i:Nat},i∈sK (A0 l acc)↔i∈sK l∨i∈sK acc
  |[],_,_=>by simp [A0,sK]
  | w::l,acc,i=>by
    simp only[A0,a1R,sK,aU9];constructor
    · rintro(h|h|h)
      .exact .inl (.inr h)
      .exact .inl (.inl h)
      .exact .inr h
    · rintro((h|h) |h)
      .exact .inr (.inl h)
      .exact .inl h
      .exact .inr (.inr h)
section
variable {H H':List (Nat×qD)}
theorem aNb {k:pR}{a b:tI}(h:A1 H k (some a)=some b):(∀i,i∈sK a.ws→i∈sK b.ws)∧((∀i,i∈sK b.ws→qH H' i=qH H i)→A1 H' k (some a)=some b):=by
  cases k with
  | none=>
    have h:none=some b:=h;cases h
  | some k=>
    simp only[A1] at h|-
    have:(∃e c m,qH H k=some (.grow e c m)):=by
      cases hg:qH H k with
      |none=>rw[hg] at h;cases h
      | some bl=>cases bl with
        |grow e c m=>exact⟨_,_,_,rfl⟩
        |_=>rw[hg] at h;cases h
    obtain⟨e,c,m,hg⟩:=this;rw[hg] at h;simp only[CM] at h;split at h
    .cases h
    · rename_i hm
      simp only[aUT] at h;subst h;refine⟨fun i hi=>by simp only[sK,aU9];exact .inr hi,fun hl=> ?_⟩;rw[hl k (by simp [sK,rV.id]),hg];simp only[CM];rw[aUX hm]
theorem aNc (H:List (Nat×qD)) (k:pR):A1 H k none=none:=by
  cases k with
  |none=>rfl
  | some k=>
    simp only[A1];cases qH H k with
    |none=>rfl
    |some bl=>cases bl<;>rfl
theorem aDC (H:List (Nat×qD)) (toks:pN) (o:Nat): ∀(qs:pS),zF H toks o qs none=none
  |[]=>rfl
  |q::qs=>by simp only[zF,aNc,aDC H toks o qs]
theorem aDD {H H':List (Nat×qD)}{toks:pN}{o:Nat}: ∀{qs:pS}{a b:tI},zF H toks o qs (some a)=some b→(∀i,i∈sK a.ws→i∈sK b.ws)∧((∀i,i∈sK b.ws→qH H' i=qH H i)→zF H' toks o qs (some a)=some b)
  |[],a,b,h=>by simp only[zF,aUT] at h;subst h;exact⟨fun _ h=>h,fun _=>rfl⟩
  | q::qs,a,b,h=>by
    simp only[zF] at h|-;cases hm:A1 H (xZ toks (o+q)) (some a) with
    |none=>rw[hm,aDC] at h;cases h
    | some m=>
      rw[hm] at h;obtain⟨h1,h2⟩:=aNb (H':=H') hm;obtain⟨h3,h4⟩:=aDD (H':=H') h;exact⟨fun i hi=>h3 i (h1 i hi),fun hl=>by rw[h2 (fun i hi=>hl i (h3 i hi))];exact h4 hl⟩
theorem aNd (H H':List (Nat×qD)) (a:tI) (s:qE):yT H' a .v s=yT H a .v s:=by
  obtain⟨d,k⟩:=s;cases d with
  | val t x=>
    cases t with
    | clo=>
      cases x with
      |none=>rfl
      |some q=>obtain⟨f,l⟩:=q;cases l<;>rfl
    |_=>rfl
  |_=>rfl
theorem aDE {H H':List (Nat×qD)}{t:Ty}{os:pS}{i o:Nat}{a b:tI}(h:wP H t os i o a (qH H i)=some b):(∀i,i∈sK a.ws→i∈sK b.ws)∧((∀i,i∈sK b.ws→qH H' i=qH H i)→wP H' t os i o a (qH H' i)=some b):=by
  cases hg:qH H i with
  |none=>rw[hg] at h;simp [wP] at h
  | some bl=>
    rw[hg] at h;cases bl with
    | cells u x toks=>
      simp only[wP] at h;cases hy:rJ t u x o with
      |none=>rw[hy] at h;simp [FT] at h
      | some y=>
        rw[hy] at h;simp only[FT] at h;split at h
        · rename_i hc
          obtain⟨h3,h4⟩:=aDD (H':=H') h;refine⟨fun j hj=>h3 j (by simp only[sK,aU9];exact .inr hj),fun hl=> ?_⟩;rw[hl i (h3 i (by simp [sK,rV.id])),hg];simp only[wP,hy,FT];rw[aUU hc];exact h4 hl
        .cases h
    |_=>simp [wP] at h
theorem aNe (H:List (Nat×qD)) (f:FuncId) (args:List qE) (ks:List (Ty×pS)) (cs ids:pN):yG H f args ks cs ids none=none:=by cases ks<;>cases cs<;>rfl
theorem aDF {H H':List (Nat×qD)}{f:FuncId}{args:List qE}: ∀{ks:List (Ty×pS)}{cs ids:pN}{a b:tI},yG H f args ks cs ids (some a)=some b→(∀i,i∈sK a.ws→i∈sK b.ws)∧((∀i,i∈sK b.ws→qH H' i=qH H i)→yG H' f args ks cs ids (some a)=some b)
  | [],[],ids,a,b,h=>by
    simp only[yG,aUT] at h|-;subst h;exact⟨fun _ h=>h,fun _=>rfl⟩
  |[],_::_,_,_,_,h=>by simp [yG] at h
  |_::_,[],_,_,_,h=>by simp [yG] at h
  | (t,os)::ks,(i,o)::cs,ids,a,b,h=>by
    simp only[yG] at h|-;cases hb:wP H t os i o a (qH H i) with
    |none=>rw[hb,aNe] at h;cases h
    | some m=>
      rw[hb] at h;obtain⟨h1,h2⟩:=aDE (H':=H') hb;obtain⟨h3,h4⟩:=aDF (H':=H') h;exact⟨fun i hi=>h3 i (h1 i hi),fun hl=>by rw[h2 (fun i hi=>hl i (h3 i hi))];exact h4 hl⟩
theorem aDG {p:PK}{s:qE}{a b:tI}(h:yT H a p s=some b):(∀i,i∈sK a.ws→i∈sK b.ws)∧((∀i,i∈sK b.ws→qH H' i=qH H i)→yT H' a p s=some b):=by
  by_cases hpv:p= .v
  · subst hpv
    refine⟨?_,fun _=>by rw[aNd H H'];exact h⟩;unfold yT at h;split at h
    .simp only[V1,aUT] at h;subst h;exact fun _ h=>h
    · simp only[V0] at h
      split at h
      .simp only[aUT] at h;subst h;exact fun _ h=>h
      .cases h
    .simp only[V2,aUT] at h;subst h;exact fun _ h=>h
    .rename_i h1;cases h1
    .rename_i h1;cases h1
    .rename_i h1;cases h1
    .rename_i h1;cases h1
    .rename_i h1;cases h1
    .cases h
  unfold yT at h;split at h
  .exact absurd rfl hpv
  .exact absurd rfl hpv
  .exact absurd rfl hpv
  · rename_i t x k
    simp only[yT];cases hg:qH H k with
    |none=>rw[hg] at h;simp [CN] at h
    | some bl=>
      rw[hg] at h;cases bl with
      | grow e c m=>
        simp only[CN] at h;split at h
        · rename_i hc
          simp only[aUT] at h;subst h;refine⟨fun i hi=>by simp only[sK,aU9];exact .inr hi,fun hl=> ?_⟩;rw[hl k (by simp [sK,rV.id]),hg];simp only[CN];rw[aUU hc]
        .cases h
      |_=>simp [CN] at h
  · rename_i t os i o k
    simp only[yT];exact aDE h
  · rename_i i k
    simp only[yT];cases hg:qH H i with
    |none=>rw[hg] at h;simp [CO] at h
    | some bl=>
      rw[hg] at h;cases bl with
      | map s t l=>
        simp only[CO] at h;split at h
        · rename_i hc
          simp only[aUT] at h;subst h;refine⟨fun j hj=>by simp only[sK,aU9];exact .inr hj,fun hl=> ?_⟩;rw[hl i (by simp [sK,rV.id]),hg];simp only[CO];rw[aUU hc]
        .cases h
      |_=>simp [CO] at h
  · rename_i k n k'
    simp only[yT];cases hg:qH H k with
    |none=>rw[hg] at h;simp [CP] at h
    | some bl=>
      rw[hg] at h;cases bl with
      | row e t l m=>
        simp only[CP] at h;split at h
        · rename_i hc
          simp only[aUT] at h;subst h;refine⟨fun j hj=>by simp only[sK,aU9];exact .inr hj,fun hl=> ?_⟩;rw[hl k (by simp [sK,rV.id]),hg];simp only[CP];rw[aUU hc]
        .cases h
      |_=>simp [CP] at h
  · simp only[yT]
    exact aDF h
  .cases h
theorem aDH (H:List (Nat×qD)) (gs:List (Nat×Nat×PK)):BU H gs none=none:=by cases gs<;>rfl
theorem aDI {H H':List (Nat×qD)}: ∀{gs:List (Nat×Nat×PK)}{a b:tI},BU H gs (some a)=some b→(∀i,i∈sK a.ws→i∈sK b.ws)∧((∀i,i∈sK b.ws→qH H' i=qH H i)→BU H' gs (some a)=some b)
  |[],a,b,h=>by simp only[BU,aUT] at h;subst h;exact⟨fun _ h=>h,fun _=>rfl⟩
  | (c,q,pk)::gs,a,b,h=>by
    simp only[BU] at h|-;cases hm:yT H a pk (L2 q pk (IX a.H (a.n-1-c))) with
    |none=>rw[hm] at h;simp only[NA,aDH] at h;cases h
    | some m=>
      rw[hm] at h;simp only[NA] at h;obtain⟨h1,h2⟩:=aDG (H':=H') hm;obtain⟨h3,h4⟩:=aDI (H':=H') h;exact⟨fun i hi=>h3 i (h1 i hi),fun hl=>by rw[h2 (fun i hi=>hl i (h3 i hi))];simp only[NA];exact h4 hl⟩
theorem aNf (H:List (Nat×qD)): ∀(ps:List PK) (ss:List qE),yH H ps ss none=none
  |[],[]=>rfl
  |[],_::_=>rfl
  |_::_,[]=>rfl
  |_::_,_::_=>rfl
theorem aDJ {H H':List (Nat×qD)}: ∀{ps:List PK}{ss:List qE}{a b:tI},yH H ps ss (some a)=some b→(∀i,i∈sK a.ws→i∈sK b.ws)∧((∀i,i∈sK b.ws→qH H' i=qH H i)→yH H' ps ss (some a)=some b)
  |[],[],a,b,h=>by simp only[yH,aUT] at h;subst h;exact⟨fun _ h=>h,fun _=>rfl⟩
  |[],_::_,a,b,h=>by simp [yH] at h
  |_::_,[],a,b,h=>by simp [yH] at h
  | p::ps,s::ss,a,b,h=>by
    simp only[yH] at h|-;cases hm:yT H a p s with
    |none=>rw[hm,aNf] at h;cases h
    | some m=>
      rw[hm] at h;obtain⟨h1,h2⟩:=aDG (H':=H') hm;obtain⟨h3,h4⟩:=aDJ (H':=H') h;exact⟨fun i hi=>h3 i (h1 i hi),fun hl=>by rw[h2 (fun i hi=>hl i (h3 i hi))];exact h4 hl⟩
theorem aDK {H H':List (Nat×qD)}{base:Nat}{args:List qE}{s:r5}{e:qU}(h:H6 H base args (some s)=some e) (hl: ∀i∈e.rds,qH H' i=qH H i):H6 H' base args (some s)=some e:=by
  simp only[H6] at h|-;cases hp0:yH H s.ps args (some ⟨[],[],[],0⟩) with
  |none=>rw[hp0,aDH] at h;cases h
  |some a0=>
   rw[hp0] at h;cases hp:BU H s.gs (some a0) with
   |none=>rw[hp] at h;cases h
   |some a=>
    rw[hp] at h
    have hrd: ∀i,i∈sK (A0 a.ws [])→i∈e.rds:=by
      simp only[QM] at h;cases hcl:IY (A0 a.ws []) (A0 a.H []) with
      |none=>rw[hcl] at h;cases h
      |some L=>
      rw[hcl] at h;simp only[V8] at h;cases hc:s.C (A0 a.args []) L with
      |none=>rw[hc] at h;cases h
      | some r=>
        rw[hc] at h;simp only[V7] at h;unfold QK at h;split at h
        · simp only[aUT] at h
          rw[←h];exact fun i hi=>xS.2 (.inl hi)
        .cases h
    obtain⟨g1,g2⟩:=aDI (H':=H') hp;rw[(aDJ (H':=H') hp0).2 (fun i hi=>hl i (hrd i (a1R.2 (.inl (g1 i hi))))),g2 (fun i hi=>hl i (hrd i (a1R.2 (.inl hi))))];exact h
theorem aDL {H H':List (Nat×qD)}{base:Nat}{args:List qE}{s:Option r5}{e:qU}(h:LB H base args s=some e) (hl: ∀i∈e.rds,qH H' i=qH H i):LB H' base args s=some e:=by
  cases s with
  |none=>cases h
  | some s=>
    simp only[LB] at h|-;cases hr:s.row with
    | some F=>
      rw[hr] at h;simp only[VX] at h|-;unfold V9 at h|-;split at h
      · rename_i k n x
        cases hg:qH H k with
        |none=>rw[hg] at h;cases h
        | some b=>
          have hk:k∈e.rds:=by
            rw[hg] at h;cases b with
            | row e0 t l m=>
              simp only[a0p] at h;unfold aBC at h;split at h
              .simp only[aUT] at h;rw[←h];simp
              .cases h
            |_=>cases h
          rw[hl k hk];exact h
      .cases h
    | none=>
      rw[hr] at h;simp only[VX] at h|-;cases hn:QN s.ps args with
      |none=>rw[hn] at h;exact aDK h hl
      | some k=>
        rw[hn] at h;simp only[aBB] at h|-;cases hg:qH H k with
        |none=>rw[hg] at h;cases h
        | some b=>
          rw[hg] at h;cases b with
          | row e0 t l m=>
            simp only[QP] at h;cases hi:H6 ((k,.dead)::H) base (QO k t l args) (some s) with
            |none=>rw[hi] at h;cases h
            | some e1=>
              rw[hi] at h
              have hk:k∈e.rds∧∀i∈e1.rds,i∈e.rds:=by
                unfold a0o at h;split at h
                · rename_i heq
                  simp only[aUT] at heq;subst heq;split at h
                  · simp only[aUT] at h
                    rw[←h];exact⟨by simp,fun i hi=>aU3 _ hi⟩
                  .cases h
                .cases h
              rw[hl k hk.1,hg];simp only[QP]
              rw[aDK hi (fun i hi'=>by
                simp only[qH];split
                .rfl
                .exact hl i (hk.2 i hi'))]
              exact h
          |_=>cases h
theorem aNg {Γ:uL}{base:Nat}{args:List qE}{f:qE}{e:qU}(h:NH Γ H base args f=some e) (hl: ∀i∈e.rds,qH H' i=qH H i):NH Γ H' base args f=some e:=by
  unfold NH at h|-;split at h
  .exact aDL h hl
  .exact aDL h hl
  .cases h
theorem aNh {T:sY}{Γ:uL}{ty:TypeId}{ρ:Operand→qE}{base:Nat}{op:Op}{e:qU}(h:vA T Γ ty ρ base H op=some e) (hl: ∀i∈e.rds,qH H' i=qH H i):vA T Γ ty ρ base H' op=some e:=by
  cases op
  case load t x=>
    simp only[vA] at h|-;unfold VI at h|-;split at h
    · rename_i ti k n c i o' _ e1 e2
      unfold QT at h;split at h
      · rename_i e' t' l m hg
        split at h
        · rename_i hc
          have:e.rds=[k]:=by
            unfold aBI at h;split at h
            .simp only[aUT] at h;rw[←h]
            .cases h
          rw[hl k (by rw[this];simp),hg];simp only[QT];rw[aUU hc];exact h
        .cases h
      .cases h
    .exact h
    · rename_i ti i off k e1 e2
      rcases aCs h with h1|⟨h0,h1⟩
      · have hi:i∈e.rds:=by
          rcases aCr h1 with h|h
          · unfold QS at h
            split at h
            · unfold aBH at h;split at h
              .simp only[aUT] at h;rw[←h];simp
              .cases h
            .cases h
          · unfold VF at h
            split at h
            · unfold a0A at h;split at h
              .simp only[aUT] at h;rw[←h];simp
              .cases h
            .cases h
        rw[hl i hi,h1];rfl
      · obtain⟨hi,h2⟩:=aM9 h1 hl
        rw[hl i hi,h0];rw[hl i hi] at h2;exact h2
    .cases h
  case store t x y=>
    simp only[vA] at h|-;unfold VO at h|-;split at h
    · rename_i ti i off k kk n k' e1 e2 e3
      have hi:i∈e.rds:=by
        unfold a0I at h;split at h
        · rcases aCI h with h|h
          · unfold VJ at h;split at h
            .simp only[aUT] at h;rw[←h];simp
            .cases h
          · unfold a0H at h;split at h
            .simp only[aUT] at h;rw[←h];simp
            .cases h
        .cases h
      rw[hl i hi];exact h
    · rename_i ti k n c i o' _ t y k' e1 e2 e3
      split at h
      · rename_i ht
        rw[aUU ht];unfold VN at h;split at h
        · rename_i e' t' l m hg
          split at h
          · rename_i hc
            have:e.rds=[k]:=by
              unfold aBL at h;split at h
              .simp only[aUT] at h;rw[←h]
              .cases h
            rw[hl k (by rw[this];simp),hg];simp only[VN];rw[aUU hc];exact h
          .cases h
        .cases h
      .cases h
    · rename_i ti i off k t y k' e1 e2 e3
      split at h
      · rename_i ht
        have hi:e.rds=[i]:=by
          unfold VM at h;split at h
          · unfold VL at h
            split at h
            · unfold aBK at h;split at h
              .simp only[aUT] at h;rw[←h]
              .cases h
            .cases h
          · unfold VK at h
            split at h
            · unfold VJ at h;split at h
              .simp only[aUT] at h;rw[←h]
              .cases h
            .cases h
        rw[hl i (by rw[hi];simp)];simp only[aUU ht];exact h
      .cases h
    .cases h
  case call c=>
    obtain⟨callee,args,tys⟩:=c;cases callee with
    | builtin b=>
      cases b
      case append=>
        simp only[vA,LD] at h|-;unfold W3 at h|-;split at h
        · split at h
          · rename_i hu
            rw[aUU hu];unfold VV at h|-;split at h
            · split at h
              · rename_i hbu
                rw[aUU hbu];unfold VU at h;split at h
                · rename_i hg
                  split at h
                  · rename_i hbt
                    split at h
                    · rename_i hc
                      simp only[aUT] at h;subst h;rw[hl _ (aU2),hg];simp only[VU];rw[aW0 hbt,aUU hc]
                    .cases h
                  .cases h
                .cases h
              .cases h
            · split at h
              · rename_i hba
                rw[aW0 hba];unfold VT at h;split at h
                · rename_i hg
                  split at h
                  · rename_i hc
                    simp only[aUT] at h;subst h;rw[hl _ (aU2),hg];simp only[VT];rw[aUU hc]
                  .cases h
                .cases h
              .cases h
            .cases h
          · rename_i hu
            rw[aUX hu];unfold a0R at h|-;split at h
            · unfold VZ at h
              split at h
              · rename_i hg
                split at h
                · rename_i hc
                  simp only[aUT] at h;subst h;rw[hl _ (aU2),hg];simp only[VZ];rw[aUU hc]
                .cases h
              .cases h
            .cases h
        .cases h
      case len=>
        simp only[vA,LD] at h|-;unfold VY at h|-;split at h
        · unfold a0P at h|-
          split at h
          · unfold VS at h
            split at h
            · rename_i hg
              simp only[aUT] at h;subst h;rw[hl _ (aU2),hg];simp only[VS]
            .cases h
          all_goals exact h
        .cases h
      all_goals exact h
    | value f=>
      simp only[vA,LD] at h|-;cases hsl:LC args.toList tys.toList with
      |false=>rw[hsl] at h;cases h
      |true=>rw[hsl] at h;exact aNg h hl
    |_=>exact h
  case makeFunc f first caps=>
    cases f with
    |func f=>exact h
    |_=>exact h
  case slice t x lo hi mx=>
    cases mx with
    |none=>exact h
    |some m=>exact h
  case next x b=>
    simp only[vA] at h|-;unfold W8 at h|-;split at h
    · rename_i i k e1
      unfold a0X at h;split at h
      · rename_i hg
        have:e.rds=[i]:=by
          simp only[aUT] at h;rw[←h]
        rw[hl i (by rw[this];simp),hg];exact h
      .cases h
    .cases h
  case lookup xt x ix ok=>
    simp only[vA] at h|-;unfold W5 at h|-;split at h
    · rename_i el fl ar ls_ i kk e1 e2
      unfold a0U at h|-;split at h
      · rename_i kt vt k a _
        split at h
        · rename_i hk
          rw[aUU hk];unfold W4 at h;split at h
          · rename_i hg
            split at h
            · rename_i hkv
              split at h
              · rename_i hkey
                have:e.rds=[i]:=by
                  cases ok<;>(simp only[aUT] at h;rw[←h])
                rw[hl i (by rw[this];simp),hg];simp only[W4];rw[aW0 hkv,aUU hkey];exact h
              .cases h
            .cases h
          .cases h
        .cases h
      .cases h
    .exact h
    .cases h
  case mapUpdate mt m x y=>
    simp only[vA] at h|-;unfold NJ at h|-;split at h
    · rename_i el fl ar ls_ i kk e1 e2
      unfold W6 at h|-;split at h
      · rename_i kt k a _ u b _
        split at h
        · rename_i hk
          rw[aUU hk];unfold NI at h;split at h
          · rename_i hg
            split at h
            · rename_i hkv
              split at h
              · rename_i hkey
                have:e.rds=[i]:=by
                  simp only[aUT] at h;rw[←h]
                rw[hl i (by rw[this];simp),hg];simp only[NI];rw[aW0 hkv,aUU hkey];exact h
              .cases h
            .cases h
          .cases h
        .cases h
      .cases h
    .cases h
  case insert mt m x y=>
    simp only[vA] at h|-;unfold NJ at h|-;split at h
    · rename_i el fl ar ls_ i kk e1 e2
      unfold W6 at h|-;split at h
      · rename_i kt k a _ u b _
        split at h
        · rename_i hk
          rw[aUU hk];unfold NI at h;split at h
          · rename_i hg
            split at h
            · rename_i hkv
              split at h
              · rename_i hkey
                have:e.rds=[i]:=by
                  simp only[aUT] at h;rw[←h]
                rw[hl i (by rw[this];simp),hg];simp only[NI];rw[aW0 hkv,aUU hkey];exact h
              .cases h
            .cases h
          .cases h
        .cases h
      .cases h
    .cases h
  all_goals exact h
end
theorem aNi {T:sY}{Γ:uL}{ops:Array Oper}{o:Oper}{s s':St}{e:qU}(h:NN T Γ ops.toList o s=some e) (ht: ∀t∈o.looksAt ops,lk s'.env t=lk s.env t) (hH: ∀i∈e.rds,qH s'.H i=qH s.H i) (hn:s'.nb=s.nb):NN T Γ ops.toList o s'=some e:=by
 have hop: ∀x∈o.op.operands,uQ s'.env x=uQ s.env x:=fun x hx=>by
  cases x with
  |tmp t=>exact ht t (by simp only[Oper.looksAt,aVJ,List.mem_filterMap];exact .inl ⟨.tmp t,by simpa using hx,rfl⟩)
  |_=>rfl
 have hops:CT s'.env (sW o.op)=CT s.env (sW o.op):=by
  have hsub: ∀x∈sW o.op,x∈o.op.operands:=by
   have hp: ∀(l:List (Nat×Operand)) x,x∈sW.parts l->x∈l.map (·.2):=by
    intro l
    induction l with
    |nil=>intro x h;exact h
    |cons q l ih=>
     intro x h;obtain⟨i,y⟩:=q;simp only[sW.parts,aU9] at h;rcases h with rfl|h
     .simp
     .simp only[aV0,aU9];exact .inr (ih x h)
   have ho: ∀(y:Option Operand) x,x∈sW.opt y->y=some x:=by
    intro y x h;cases y with
    |none=>cases h
    |some y=>simp only[sW.opt,aVb] at h;rw[h]
   intro x hx;cases hop:o.op
   case call c=>
    rw[hop] at hx;obtain⟨callee,args,tys⟩:=c;cases callee<;>simp_all [sW,Op.operands,Call.operands]
   case slice t y lo hi mx=>
    rw[hop] at hx;simp only[sW,aU9,xS] at hx;simp only[Op.operands,Array.mem_append];rcases hx with rfl|hx|hx
    .simp
    .have:=ho _ _ hx;subst this;simp
    .have:=ho _ _ hx;subst this;simp
   case build t ps=>rw[hop] at hx;simp only[Op.operands,aWO];exact hp _ _ hx
   case buildSlice t n ps=>rw[hop] at hx;simp only[Op.operands,aWO];exact hp _ _ hx
   all_goals (rw[hop] at hx;simp_all [sW,Op.operands])
  have: ∀(l:List Operand),(∀x∈l,x∈o.op.operands)->CT s'.env l=CT s.env l:=by
   intro l
   induction l with
   |nil=>intro _;rfl
   |cons x l ih=>intro h;simp only[CT,hop x (h x pK),ih (fun y hy=>h y (aU3 _ hy))]
  exact this _ hsub
 have hpl: ∀{e0:qU},vA T Γ o.type (fun x=>yJ (uQ s.env x)) s.nb s.H o.op=some e0->e0.rds=e.rds->vA T Γ o.type (fun x=>yJ (uQ s'.env x)) s'.nb s'.H o.op=some e0:=by
  intro e0 h1 h2;rw[aNa (ρ:=fun x=>yJ (uQ s.env x)) (ρ':=fun x=>yJ (uQ s'.env x)) o.op (fun x hx=>by simp only[hop x hx]),hn];exact aNh h1 (by rw[h2];exact hH)
 unfold NN at h|-;cases hg:o.guard with
 |none=>
  rw[hg] at h;simp only at h|-;by_cases hpk: ∃c x y,o.op= .pick c x y
  .obtain⟨c,x,y,hp⟩:=hpk;rw[hp] at h|-;simp only[NM] at h|-;rw[hop c (by rw[hp];simp [Op.operands]),hop x (by rw[hp];simp [Op.operands]),hop y (by rw[hp];simp [Op.operands])];exact h
  .have e1: ∀s,NM T Γ o s o.op=NK (zP true (CT s.env (sW o.op))) (vA T Γ o.type (fun x=>yJ (uQ s.env x)) s.nb s.H o.op):=by
    intro s;cases ho:o.op<;>first|rfl|(exact absurd ⟨_,_,_,ho⟩ hpk)
   rw[e1] at h|-;rw[hops];cases hp0:vA T Γ o.type (fun x=>yJ (uQ s.env x)) s.nb s.H o.op with
   |none=>rw[hp0] at h;cases h
   |some e0=>
    rw[hp0] at h;simp only[NK,aUT] at h;rw[hpl hp0 (by rw[<-h])];simp only[NK,h]
 |some jb=>
  obtain⟨j,b⟩:=jb;rw[hg] at h;simp only at h|-;have hgu:HA s'.env b (AJ ops.toList j)=HA s.env b (AJ ops.toList j):=by
   rw[RM];cases hd:(ops.toList[j]?).bind (·.dst) with
   |none=>rfl
   |some t=>
    simp only[HA];rw[ht t (by
     simp only[Oper.looksAt,hg,aVJ];right;have:(ops[j]?).bind (·.dst)=some t:=by simpa using hd
     rw[this];simp)]
  have hup:LE s'.env b (AJ ops.toList j)=LE s.env b (AJ ops.toList j):=by
   rw[RM];cases hd:(ops.toList[j]?).bind (·.dst) with
   |none=>rfl
   |some t=>
    simp only[LE];rw[ht t (by
     simp only[Oper.looksAt,hg,aVJ];right;have:(ops[j]?).bind (·.dst)=some t:=by simpa using hd
     rw[this];simp)]
  rw[hgu,hup];cases hsk:Γ (W9 j b) with
  |some sg=>rw[hsk] at h;exact h
  |none=>
  rw[hsk] at h;simp only[QX] at h|-;cases hG:HA s.env b (AJ ops.toList j) with
  |none=>rw[hG] at h;cases h
  |some G=>
   rw[hG] at h;by_cases hpk: ∃c x y,o.op= .pick c x y
   .obtain⟨c,x,y,hp⟩:=hpk;rw[hp] at h|-;simp only[NL] at h|-;rw[hop c (by rw[hp];simp [Op.operands]),hop x (by rw[hp];simp [Op.operands]),hop y (by rw[hp];simp [Op.operands])];exact h
   have e1: ∀s,NL T Γ o s (some G) o.op=J2 G (zP G (CT s.env (sW o.op))) (vA T Γ o.type (fun x=>yJ (uQ s.env x)) s.nb s.H o.op):=by
    intro s;cases ho:o.op<;>first|rfl|(exact absurd ⟨_,_,_,ho⟩ hpk)
   rw[e1] at h|-;rw[hops];cases hp0:vA T Γ o.type (fun x=>yJ (uQ s.env x)) s.nb s.H o.op with
   |none=>rw[hp0] at h;cases h
   |some e0=>
    rw[hp0] at h;have hrd:e0.rds=e.rds:=by
     unfold J2 at h;split at h
     .rename_i heq;simp only[aUT] at h heq;subst heq;rw[<-h]
     .rename_i heq;simp only[aUT] at h heq;subst heq;rw[<-h]
     .cases h
    rw[hpl hp0 hrd];exact h
theorem a1S {T:sY}{Γ:uL}{ops:Array Oper}{o:Oper}{s s':St}{e:qU}(h:zG T Γ ops.toList o s=some e) (ht: ∀t∈o.looksAt ops,lk s'.env t=lk s.env t) (hH: ∀i∈e.rds,qH s'.H i=qH s.H i) (hn:s'.nb=s.nb) (hp:s'.np=s.np):zG T Γ ops.toList o s'=some e:=by
 obtain⟨h1,h2⟩:=RO h;unfold zG at h|-;rw[h1] at h;rw[aNi h1 ht hH hn,hp];exact h
def vL {α:Type}(p:Nat->Bool) (wr:Nat->Option α) (b:α):Nat->α
 |0=>b
 |k+1=>if p k=true then(wr k).getD (vL p wr b k) else vL p wr b k
theorem LP {α:Type}{p q:Nat->Bool}{wr:Nat->Option α}{b:α}: ∀{n:Nat},(∀j,j<n->wr j≠none->p j=q j)->vL p wr b n=vL q wr b n
 |0,_=>rfl
 |n+1,h=>by
  simp only[vL];have ih:=LP (p:=p) (q:=q) (wr:=wr) (b:=b) (n:=n) (fun j hj=>h j pI);cases hw:wr n with
  |none=>simp [ih]
  |some v=>rw[h n pI (by rw[hw];simp),ih]
theorem a1T {α:Type}{wr:Nat->Option α}{b:α}{i:Nat}: ∀{n:Nat},i<=n->vL (fun j=>decide (j<i)) wr b n=vL (fun _=>true) wr b i
 |0,h=>by
  have:i=0:=by omega
  subst this;rfl
 |n+1,h=>by
  by_cases hi:i=n+1
  .subst hi;exact LP (fun j hj _=>by simp [hj])
  .have: ¬n<i:=by omega
   simp only[vL];rw[aUX (by simp [this])];exact a1T pI
theorem XB {α:Type}{p q:Nat->Bool}{wr:Nat->Option α}{b:α}{i:Nat}(hi:p i=false) (hq: ∀j,q j=if j=i then true else p j): ∀{n:Nat},i<n->(∀j,i<j->j<n->p j=true->wr j=none\/wr i=none)->vL q wr b n=(wr i).getD (vL p wr b n)
 |0,h,_=>by omega
 |n+1,h,hd=>by
  simp only[vL];by_cases hn:n=i
  .subst hn;rw[aUU (by rw[hq];simp),aUX (by simp [hi])];rw[LP (p:=q) (q:=p) (fun j hj _=>by rw[hq,aUX pI])]
  .have ih:=XB (b:=b) hi hq (n:=n) pI (fun j h1 h2=>hd j h1 pI);rw[hq,aUX hn,ih];by_cases hp:p n=true
   .rw[aUU hp,aUU hp];rcases hd n pI pI hp with h1|h1
    .rw[h1];rfl
    .rw[h1];rfl
   .rw[aUX hp,aUX hp]
theorem a1U {α:Type}{p:Nat->Bool}{wr:Nat->Option α}{b:α}: ∀(k:Nat),vL p wr b (k+1)=vL (fun j=>p (j+1)) (fun j=>wr (j+1)) (if p 0=true then(wr 0).getD b else b) k
 |0=>rfl
 |k+1=>by
  rw[vL,a1U k];rfl
theorem a1V {rds:pS}{i:Nat}: ∀{u:List (Nat×qD)},i∈qJ (J6 rds u)↔i∈qJ u/\CU i rds=false
 |[]=>by simp [J6,qJ]
 |(j,b)::u=>by
  simp only[J6];cases h:CU j rds with
  |true=>
   rw[aUU rfl,a1V (u:=u)];simp only[qJ,aU9];constructor
   .rintro⟨h1,h2⟩;exact⟨.inr h1,h2⟩
   .rintro⟨rfl|h1,h2⟩
    .rw[h] at h2;cases h2
    .exact⟨h1,h2⟩
  |false=>
   rw[aUX pK];simp only[qJ,aU9,a1V (u:=u)];constructor
   .rintro(rfl|⟨h1,h2⟩)
    .exact⟨.inl rfl,h⟩
    .exact⟨.inr h1,h2⟩
   .rintro⟨rfl|h1,h2⟩
    .exact .inl rfl
    .exact .inr ⟨h1,h2⟩
theorem O5 {e:qU}{i:Nat}:i∈qJ (xO e)↔i∈qJ e.upd/\CU i e.rds=false:=a1V
theorem aDM {i:Nat}: ∀{l:pS},CU i l=true->i∈l
 |[],h=>by cases h
 |j::l,h=>by
  simp only[CU] at h;split at h
  .rename_i e;subst e;exact aU2
  .exact aU3 _ (aDM h)
theorem aDN {H U:List (Nat×qD)}{rds:pS}{i:Nat}(h:CU i rds=true): ∀{u:List (Nat×qD)},i∈qJ u->(qH U i=qH H i)∈LF H U rds u
 |[],hi=>by cases hi
 |(j,b)::u,hi=>by
  simp only[LF];simp only[qJ,aU9] at hi;rcases hi with rfl|hi
  .rw[aUU h];exact aU2
  .have:=aDN (H:=H) (U:=U) h hi;split
   .exact aU3 _ this
   .exact this
theorem aNj {H:List (Nat×qD)}{e:qU}(hs: ∀p∈LF H e.upd e.rds e.upd,p) {i:Nat}(h1:i∈qJ e.upd) (h2:i∉qJ (xO e)):qH e.upd i=qH H i/\i∈e.rds:=by
 have h:CU i e.rds=true:=by
  cases h3:CU i e.rds with
  |true=>rfl
  |false=>exact absurd (O5.2 ⟨h1,h3⟩) h2
 exact⟨hs _ (aDN h h1),aDM h⟩
def BH (os:List Oper) (es:List qU) (t j:Nat):Option qE:=
 match os[j]?,es[j]? with
 |some o,some e=>if o.dst=some t then some e.slot else none
 |_,_=>none
def yM (es:List qU) (id j:Nat):Option (Option qD):=
 match es[j]? with
 |some e=>if id∈qJ (xO e) then some (qH e.upd id) else none
 |none=>none
theorem O6 {id:Nat}{H:sD}: ∀{u:List (Nat×qD)},qH (qZ u H) id=if id∈qJ u then qH u id else qH H id
 |[]=>by simp [qZ,qJ]
 |(k,b)::u=>by
  simp only[qZ,qH,qJ,aU9];by_cases h:k=id
  .subst h;simp
  .rw[aUX h,aUX h,O6 (u:=u)];have:(id=k\/id∈qJ u)↔id∈qJ u:=⟨fun h'=>h'.resolve_left (Ne.symm h),.inr⟩;simp only[this]
theorem aDO {d:Option Tmp}{s:qE}{env:List (Nat×qE)}{t:Nat}:lk (uM d s env) t=if d=some t then s else lk env t:=by
 cases d with
 |none=>simp [uM]
 |some d=>simp only[uM,lk,aUT]
structure a1W (T:sY) (Γ:uL) (ops:List Oper) (os:List Oper) (es:List qU) (s:St) (y:wA) (k:Nat) (o:Oper) (e:qU) (sk:St):Prop where
 ev:zG T Γ ops o sk=some e
 nb:sk.nb=s.nb+32*k
 dst:J4 s.N o.dst=true
 ids:J5 (s.nb+32*k+32) e.upd=true
 np:sk.np=s.np
 side: ∀p∈e.side,p∈y.side
 env: ∀t,lk sk.env t=vL (fun _=>true) (BH os es t) (lk s.env t) k
 heap: ∀id,qH sk.H id=vL (fun _=>true) (yM es id) (qH s.H id) k
 same: ∀id,id∈qJ e.upd->id∉qJ (xO e)->qH e.upd id=qH sk.H id/\id∈e.rds
structure a1X (T:sY) (Γ:uL) (ops:List Oper) (os:List Oper) (es:List qU) (s:St) (y:wA):Prop where
 len:es.length=os.length
 nb:y.s.nb=s.nb+32*os.length
 step: ∀k o e,os[k]? =some o->es[k]? =some e->∃sk,a1W T Γ ops os es s y k o e sk
 env: ∀t,lk y.s.env t=vL (fun _=>true) (BH os es t) (lk s.env t) os.length
 heap: ∀id,qH y.s.H id=vL (fun _=>true) (yM es id) (qH s.H id) os.length
theorem XC {T:sY}{Γ:uL}{ops:List Oper}: ∀{l:List Oper}{x y:wA},vB T Γ ops l (some x)=some y->(∀p∈y.side,p)->∃es:List qU,y.es=es.reverse++x.es/\a1X T Γ ops l es x.s y
 |[],x,y,h,_=>by
  simp only[vB,aUT] at h;subst h;exact⟨[],rfl,rfl,rfl,fun k o e h=>by simp at h,fun _=>rfl,fun _=>rfl⟩
 |o::l,x,y,h,hsy=>by
  obtain⟨e,h1,h2,h3,h4⟩:=a1O h;obtain⟨es,h5,h6⟩:=XC h4 hsy;have hsame: ∀{i:Nat},i∈qJ e.upd->i∉qJ (xO e)->qH e.upd i=qH x.s.H i/\i∈e.rds:=fun h1 h2=>aNj (fun p hp=>hsy p ((G0 h4).1 p (xS.2 (.inr (xS.2 (.inl hp)))))) h1 h2;have envs: ∀t k,vL (fun _=>true) (BH (o::l) (e::es) t) (lk x.s.env t) (k+1)=vL (fun _=>true) (BH l es t) (lk (uM o.dst e.slot x.s.env) t) k:=fun t k=>by
   rw[a1U,aUU rfl,aDO];have:(BH (o::l) (e::es) t 0).getD (lk x.s.env t)=if o.dst=some t then e.slot else lk x.s.env t:=by
    simp only[BH,aVt];split<;>rfl
   rw[this];rfl
  have heaps: ∀id k,vL (fun _=>true) (yM (e::es) id) (qH x.s.H id) (k+1)=vL (fun _=>true) (yM es id) (qH (qZ e.upd x.s.H) id) k:=fun id k=>by
   rw[a1U,aUU rfl,O6];have:(yM (e::es) id 0).getD (qH x.s.H id)=if id∈qJ e.upd then qH e.upd id else qH x.s.H id:=by
    simp only[yM,aVt];by_cases h7:id∈qJ (xO e)
    .rw[aUU h7,aUU (O5.1 h7).1];rfl
    .rw[aUX h7];by_cases h8:id∈qJ e.upd
     .rw[aUU h8,(hsame h8 h7).1];rfl
     .rw[aUX h8];rfl
   rw[this];rfl
  refine⟨e::es,by rw[h5];simp,by simp [h6.len],?_,?_,fun t=> ?_,fun id=> ?_⟩
  .have:=h6.nb;simp only at this;rw[this];simp only[aUY];omega
  .intro k o' e' ho he;cases k with
   |zero=>
    simp only[aVt,aUT] at ho he;subst ho;subst he;exact⟨x.s,h1,rfl,h2,h3,rfl,fun p hp=>(G0 h4).1 p (xS.2 (.inr (xS.2 (.inr hp)))),fun _=>rfl,fun _=>rfl,fun id=>hsame⟩
   |succ k=>
    simp only[aVH] at ho he;obtain⟨sk,q⟩:=h6.step k o' e' ho he;refine⟨sk,q.ev,by rw[q.nb];simp only;omega,q.dst,?_,q.np,q.side,fun t=>by rw[q.env t,envs],fun id=>by rw[q.heap id,heaps],q.same⟩;have:=q.ids;simp only at this;rw[show x.s.nb+32*(k+1)+32=x.s.nb+32+32*k+32 by omega];exact this
  .rw[aUY,envs];exact h6.env t
  .rw[aUY,heaps];exact h6.heap id
theorem aDP {i0 j0:Nat}{ops:Array Oper}{bs:pS}{nb i:Nat}{o:Oper}{e:qU}: ∀{ps:List Oper}{fs:List qU}{j:Nat},WB i0 j0 ops bs nb i o e ps fs j=true->∀k p f,ps[k]? =some p->fs[k]? =some f->
  (bs.getD (j+k) 0).testBit i=true\/(o.apart ops p=true/\(HB e f=true\/(i=i0/\j+k=j0))/\LG (nb+32*i) f.upd=true)
 |p::ps,f::fs,j,h,k,p',f',hp,hf=>by
  simp only[WB,aU6,aV5,aU8] at h;cases k with
  |zero=>
   simp only[aVt,aUT] at hp hf;subst hp;subst hf;exact h.1.imp id (fun h=>⟨h.1.1,h.1.2,h.2⟩)
  |succ k=>
   simp only[aVH] at hp hf;have:=aDP h.2 k p' f' hp hf;rw[show j+(k+1)=j+1+k by omega];exact this
 |[],_,_,_,_,_,_,hp,_=>by simp at hp
 |_::_,[],_,_,_,_,_,_,hf=>by simp at hf
theorem a1Y {i0 j0:Nat}{ops:Array Oper}{bs:pS}{nb:Nat}: ∀{os:List Oper}{es:List qU}{m:Nat},WC i0 j0 ops bs nb os es m=true->∀i j o e p f,i<j->os[i]? =some o->es[i]? =some e->os[j]? =some p->es[j]? =some f->
  (bs.getD (m+j) 0).testBit (m+i)=true\/(o.apart ops p=true/\(HB e f=true\/(m+i=i0/\m+j=j0))/\LG (nb+32*(m+i)) f.upd=true)
 |o'::os,e'::es,m,h,i,j,o,e,p,f,hij,ho,he,hp,hf=>by
  simp only[WC,aU6] at h;obtain⟨j,rfl⟩: ∃k,j=k+1:=⟨j-1,pI⟩;simp only[aVH] at hp hf;cases i with
  |zero=>
   simp only[aVt,aUT] at ho he;subst ho;subst he;have:=aDP h.1 j p f hp hf;rw[show m+(j+1)=m+1+j by omega];exact this
  |succ i=>
   simp only[aVH] at ho he;have:=a1Y h.2 i j o e p f pI ho he hp hf;rw[show m+(j+1)=m+1+j by omega,show m+(i+1)=m+1+i by omega];exact this
 |[],_,_,_,_,_,_,_,_,_,_,ho,_,_,_=>by simp at ho
 |_::_,[],_,_,_,_,_,_,_,_,_,_,he,_,_=>by simp at he
theorem aDQ: ∀{os:List Oper}{m:Nat},WD os m=true->∀i o,os[i]? =some o->∀e∈o.after,Region.binds .any e=true->e.on<m+i
 |o'::os,m,h,i,o,ho,e,he,hb=>by
  simp only[WD,aU6] at h;cases i with
  |zero=>
   simp only[aVt,aUT] at ho;subst ho;have:=aVC.1 h.1 e (by simpa using he);simpa[hb] using this
  |succ i=>
   simp only[aVH] at ho;have:=aDQ h.2 i o ho e he hb;omega
 |[],_,_,_,_,ho,_,_,_=>by simp at ho
theorem XD {l:pS}: ∀{u:List (Nat×qD)},QY u l=false->∀i,i∈qJ u->i∉l
 |(k,b)::u,h,i,hi=>by
  simp only[QY,aVG] at h;simp only[qJ,aU9] at hi;rcases hi with rfl|hi
  .simpa using h.1
  .exact XD h.2 i hi
theorem O7 {a b:qU}(h:HB a b=true):(∀i∈qJ (xO a),i∉b.rds/\i∉qJ b.upd)/\(∀i∈qJ (xO b),i∉a.rds):=by
 simp only[HB,aU6,aVo] at h;exact⟨fun i hi=>⟨fun h1=>XD h.1 i hi (xS.2 (.inl h1)),fun h1=>XD h.1 i hi (xS.2 (.inr h1))⟩,fun i hi=>XD h.2 i hi⟩
theorem aDR {lo:Nat}: ∀{u:List (Nat×qD)},LG lo u=true->∀i∈qJ u,i<lo\/lo+32<=i
 |(k,b)::u,h,i,hi=>by
  simp only[LG,aU6,aV5,aU8] at h;simp only[qJ,aU9] at hi;rcases hi with rfl|hi
  .exact h.1
  .exact aDR h.2 i hi
def a1Z (os:List Oper) (p:Nat->Bool):Prop:= ∀j o,os[j]? =some o->p j=true->∀e∈o.after,Region.binds .any e=true->p e.on=true
theorem aDS {p:Nat->Bool}{acc:Array Nat}(hacc: ∀i j,(acc.getD i 0).testBit j=true->p i=true->p j=true) {i:Nat}: ∀{es:List Edge}{s:Nat},(s.testBit i=true->p i=true)->(∀e∈es,Region.binds .any e=true->p e.on=true)->
  (es.foldl (fun s e=>if Region.binds .any e then s|||2^e.on|||acc.getD e.on 0 else s) s).testBit i=true->p i=true
 |[],s,hs,_,h=>hs h
 |e::es,s,hs,he,h=>by
  simp only[List.foldl_cons] at h;refine aDS hacc (es:=es) (fun h1=> ?_) (fun e' h'=>he e' (aU3 _ h')) h;split at h1
  .rename_i hb;simp only[Nat.testBit_or,aV5,Nat.testBit_two_pow,aU8] at h1;rcases h1 with(h1|h1) |h1
   .exact hs h1
   .rw[<-h1];exact he e pK hb
   .exact hacc _ _ h1 (he e pK hb)
  .exact hs h1
theorem aDT {p:Nat->Bool}: ∀{os:List Oper}{acc:Array Nat},(∀i j,(acc.getD i 0).testBit j=true->p i=true->p j=true)->(∀j o,os[j]? =some o->p (acc.size+j)=true->∀e∈o.after,Region.binds .any e=true->p e.on=true)->
  ∀i j,((os.foldl (fun acc o=>acc.push (o.after.foldl (fun s e=>if Region.binds .any e then s|||2^e.on|||acc.getD e.on 0 else s) 0)) acc).getD i 0).testBit j=true->p i=true->p j=true
 |[],acc,hacc,_,i,j,h,hp=>hacc i j h hp
 |o::os,acc,hacc,hos,i,j,h,hp=>by
  simp only[List.foldl_cons] at h;refine aDT (os:=os) (fun i j h hp=> ?_) (fun k o' ho hk=> ?_) i j h hp
  .rw[aVr,Array.getElem?_push] at h;split at h
   .rename_i hi;simp only[aW1] at h;rw[<-aWV] at h;refine aDS hacc (es:=o.after.toList) (s:=0) (fun h=>by simp at h) (fun e he hb=>hos 0 o rfl (by rw[hi] at hp;exact hp) e (by simpa using he) hb) h
   .rw[<-aVr] at h;exact hacc i j h hp
  .refine hos (k+1) o' ho ?_;rw[Array.size_push] at hk;rw[show acc.size+(k+1)=acc.size+1+k by omega];exact hk
theorem aDU {ops:Array Oper}{p:Nat->Bool}(hp:a1Z ops.toList p) {i j:Nat}(h:((Region.before ops).toList.getD i 0).testBit j=true) (hi:p i=true):p j=true:=by
 refine aDT (os:=ops.toList) (acc:= #[]) (p:=p) (fun i j h=>by simp at h) (fun j o ho hj=>hp j o ho (by simpa using hj)) i j ?_ hi;unfold Region.before at h;rw[<-aWV] at h;rw[aVr,<-aV3,<-aVq];exact h
def DP (l:Array Bool):Nat->Nat
 |0=>0
 |k+1=>DP l k+if l.getD k false=true then 0 else 1
theorem aDV {l l':Array Bool}: ∀{n:Nat},(∀j,j<n->l'.getD j false=l.getD j false)->DP l' n=DP l n
 |0,_=>rfl
 |n+1,h=>by simp only[DP];rw[aDV (fun j hj=>h j pI),h n pI]
theorem aDW {l:Array Bool}: ∀{n:Nat},DP l n=0->∀j,j<n->l.getD j false=true
 |n+1,h,j,hj=>by
  simp only[DP] at h;by_cases hn:l.getD n false=true
  .by_cases hjn:j=n
   .subst hjn;exact hn
   .exact aDW (n:=n) pI j pI
  .rw[aUX hn] at h;omega
theorem HI {l:Array Bool}{i j:Nat}(hi:i<l.size):(l.setIfInBounds i true).getD j false=if j=i then true else l.getD j false:=by
 by_cases h:j=i
 .subst h;rw[aUU rfl,aVr,Array.getElem?_setIfInBounds_self_of_lt hi];rfl
 .rw[aUX h,aVr,aWn (Ne.symm h),<-aVr]
theorem aDX {l:Array Bool}{i:Nat}(hi:i<l.size) (hf:l.getD i false=false): ∀{n:Nat},i<n->DP (l.setIfInBounds i true) n+1=DP l n
 |n+1,h=>by
  simp only[DP];by_cases hn:n=i
  .subst hn;rw[HI hi,aUU rfl,aUU rfl,hf,aDV (l:=l) (fun j hj=>by rw[HI hi,aUX pI])];simp
  .rw[HI hi,aUX hn];have:=aDX hi hf (n:=n) pI;omega
theorem aDY {p:Nat->Bool}: ∀{n:Nat},(∃j,j<n/\p j=false)->∃j,j<n/\p j=false/\∀k,k<j->p k=true
 |0,⟨j,h,_⟩=>by omega
 |n+1,⟨j,h,hj⟩=>by
  by_cases hs: ∃j,j<n/\p j=false
  .obtain⟨k,h1,h2,h3⟩:=aDY hs;exact⟨k,pI,h2,h3⟩
  .refine⟨j,h,hj,fun k hk=> ?_⟩;cases hp:p k with
   |true=>rfl
   |false=>exact absurd ⟨k,pI,hp⟩ hs
theorem sM.ext {g:Gh}{w:pT}{H H':sD}(h:sM g w H) (e: ∀i,qH H' i=qH H i):sM g w H':=
 ⟨fun i b hb=>h.blk i b (by rw[<-e];exact hb),fun i j bi bj b o hij h1 h2=>h.dis i j bi bj b o hij (by rw[<-e];exact h1) (by rw[<-e];exact h2),h.sl,h.tab.1,fun i b bb oo hb ho=>h.tab.2 i b bb oo (by rw[<-e];exact hb) ho⟩
theorem uD.ext {A:Nat->Nat->Prop}{L:List qD}{g0 g:Gh}{w0 w:pT}{H H':sD}(h:uD A L g0 w0 g w H) (e: ∀i,qH H' i=qH H i):uD A L g0 w0 g w H':=
 ⟨h.shut,h.fr,fun i blk b o hb=>h.perm i blk b o (by rw[<-e];exact hb),h.J,h.live,fun i u y us hi hb=>h.ty i u y us hi (by rw[<-e];exact hb),h.cur⟩
theorem aDZ (g:Gh) (w:pT) (d:Nat):Le g w g {w with drawn:=d}:=⟨fun _ _ h=>h,fun _ _ _=>rfl,fun _ _ h=>h,fun _ _ _ h=>h⟩
theorem sM.drawn {g:Gh}{w:pT}{H:sD}(h:sM g w H) (d:Nat):sM g {w with drawn:=d} H:=
 ⟨fun i b hb=>NS (h.blk i b hb) (aDZ g w d) rfl rfl (fun _ _ _=>⟨rfl,rfl⟩) (fun _ _=>rfl) (fun _ _ _ h=>h) (fun _ _ _ _ h=>h),h.dis,h.sl,KX h.tab.1 (aVi _) (fun _ _=>rfl),h.tab.2⟩
theorem uD.drawn {A:Nat->Nat->Prop}{L:List qD}{g0 g:Gh}{w0 w:pT}{H:sD}(h:uD A L g0 w0 g w H) (d:Nat):uD A L g0 w0 g {w with drawn:=d} H:=
 ⟨h.shut,⟨h.fr.os,h.fr.tape,h.fr.output,h.fr.size,h.fr.blk,h.fr.cell,h.fr.new,h.fr.shape⟩,h.perm,h.J,h.live,h.ty,h.cur⟩
theorem a11 {rds:pS}{id:Nat}(h:CU id rds=false): ∀{u:List (Nat×qD)},qH (J6 rds u) id=qH u id
 |[]=>rfl
 |(k,b)::u=>by
  simp only[J6,qH];by_cases hk:k=id
  .subst hk;rw[aUX (by rw[h];simp)];simp [qH]
  .split
   .exact a11 h
   .simp only[qH,aUX hk];exact a11 h
theorem aNk {e:qU}{id:Nat}(h:CU id e.rds=false):qH (xO e) id=qH e.upd id:=a11 h
theorem aD0 {T:sY}{Γ:uL}{ops:List Oper}: ∀{k:Nat}{l:List Oper}{x y:wA},vB T Γ ops l (some x)=some y->∃a,vB T Γ ops (l.take k) (some x)=some a/\vB T Γ ops (l.drop k) (some a)=some y
 |0,l,x,y,h=>⟨x,rfl,h⟩
 |k+1,[],x,y,h=>⟨x,rfl,h⟩
 |k+1,o::l,x,y,h=>by
  simp only[List.take_succ_cons,aWR,vB] at h|-;cases hz:WA o x (zG T Γ ops o x.s) with
  |none=>
   rw[hz] at h;cases l with
   |nil=>cases h
   |cons p l=>cases h
  |some z=>rw[hz] at h;exact aD0 h
theorem a13 {α:Type}{p:Nat->Bool}{wr wr':Nat->Option α}{b:α}: ∀{n:Nat},(∀j,j<n->wr j=wr' j)->vL p wr b n=vL p wr' b n
 |0,_=>rfl
 |n+1,h=>by
  simp only[vL];rw[h n pI,a13 (wr:=wr) (wr':=wr') (fun j hj=>h j pI)]
theorem aNl {T:sY}{Γ:uL}{ops:Array Oper}{es:List qU}{s:St}{y a1:wA}{i0:Nat}{o1:Oper}{ex fx:qU}(run:a1X T Γ ops.toList ops.toList es s y) (hs: ∀p∈y.side,p) (ho1:ops.toList[i0]? =some o1) (ha1:vB T Γ ops.toList (ops.toList.take i0) (some ⟨s,[],[]⟩)=some a1)
  (hes:y.es.reverse=es) (h:vB T Γ ops.toList ops.toList (some ⟨s,[],[]⟩)=some y) (hx1:zG T Γ ops.toList o1 ⟨a1.s.env,qZ (xO fx) a1.s.H,a1.s.nb,a1.s.N,a1.s.np⟩=some ex):
  ∀sk oi,ops.toList[i0]? =some oi->a1W T Γ ops.toList ops.toList es s y i0 oi ex sk->zG T Γ ops.toList oi ⟨sk.env,qZ (xO fx) sk.H,sk.nb,sk.N,sk.np⟩=some ex:=by
 intro sk oi hoi st;rw[ho1] at hoi;cases hoi;obtain⟨a2,h1,h2⟩:=aD0 (k:=i0) h;rw[ha1] at h1;cases h1;have hi0:i0<ops.toList.length:=(aVd.1 ho1).1;have hlt:(ops.toList.take i0).length=i0:=by rw[aVj];omega
 obtain⟨es2,e2,r2⟩:=XC h2 hs;obtain⟨es1,e1,r1⟩:=XC ha1 (fun p hp=>hs p ((G0 h2).1 p hp));have he:es=es1++es2:=by rw[<-hes,e2,e1];simp
 have hl1:es1.length=i0:=by rw[r1.len,hlt]
 have hsd:=G0 ha1;refine a1S hx1 (fun t _=> ?_) (fun id _=> ?_) ?_ ?_
 .show lk sk.env t=lk a1.s.env t;rw[st.env t,r1.env t,hlt];refine a13 (fun j hj=> ?_);unfold BH;rw[he,aVf pI,aWa hj]
 .show qH (qZ (xO fx) sk.H) id=qH (qZ (xO fx) a1.s.H) id;rw[O6,O6,st.heap id,r1.heap id,hlt];have:vL (fun _=>true) (yM es id) (qH s.H id) i0=vL (fun _=>true) (yM es1 id) (qH s.H id) i0:=a13 (fun j hj=>by
   unfold yM;rw[he,aVf pI])
  rw[this]
 .show sk.nb=a1.s.nb;rw[st.nb,r1.nb,hlt]
 .show sk.np=a1.s.np;rw[st.np,hsd.2.2]
section
variable {B:Nat}{P:Program}{T:sY}{Γ:uL}(hT:y5 P T) (hΓ:EO P Γ) {A:Nat->Nat->Prop}{L:List qD}{g0:Gh}{w0:pT}{Q:Exit->Act->pT->Prop}
structure Mid (B:Nat) (A:Nat->Nat->Prop) (L:List qD) (g0:Gh) (w0:pT) (ops:Array Oper) (es:List qU) (s:St) (listed:Array Bool) (g:Gh) (w:pT) (a:Act) (env:List (Nat×qE)) (H:sD):Prop where
 size:listed.size=ops.size
 closed:a1Z ops.toList (fun j=>listed.getD j false)
 eok:BF g w env a.tmps
 look: ∀t,lk env t=vL (fun j=>listed.getD j false) (BH ops.toList es t) (lk s.env t) ops.size
 heap:sM g w H
 get: ∀id,qH H id=vL (fun j=>listed.getD j false) (yM es id) (qH s.H id) ops.size
 tmps:a.tmps.size=s.N
 def_:A8 B w a.defers
 good:uD A L g0 w0 g w H
 len:L.length=s.np
 free: ∀j,j<ops.size->listed.getD j false=false->∀id,s.nb+32*j<=id->id<s.nb+32*j+32->g.J id=none/\∀n,g.cur id n=none
 top: ∀id,s.nb+32*ops.size<=id->g.J id=none/\∀n,g.cur id n=none
include hT hΓ
theorem aNm {i0 j0:Nat}{ro:pR}{ops:Array Oper}{es:List qU}{s:St}{y:wA}(run:a1X T Γ ops.toList ops.toList es s y) (hs: ∀p∈y.side,p) (hchk:NO i0 j0 ops s.nb es=true) (hE:i0<ops.size->i0<j0/\∃ex fx,es[i0]? =some ex/\ex.upd=[]/\es[j0]? =some fx/\∀sk oi,ops.toList[i0]? =some oi->a1W T Γ ops.toList ops.toList es s y i0 oi ex sk->zG T Γ ops.toList oi ⟨sk.env,qZ (xO fx) sk.H,sk.nb,sk.N,sk.np⟩=some ex)
  (hQ: ∀g a w env H,BF g w env a.tmps->(∀t,lk env t=lk y.s.env t)->sM g w H->(∀id,qH H id=qH y.s.H id)->a.tmps.size=s.N->A8 B w a.defers->uD A L g0 w0 g w H->(∀id,s.nb+32*ops.size<=id->g.J id=none/\∀n,g.cur id n=none)->Q .normal a w):
  ∀(fuel:Nat) (listed:Array Bool) (g:Gh) (w:pT) (a:Act) (env:List (Nat×qE)) (H:sD),DP listed ops.size<=fuel->Mid B A L g0 w0 ops es s listed g w a env H->wpAnyIn (G1 ro) 0 P .any ops Q fuel listed a w:=by
 simp only[NO,aU6] at hchk;obtain⟨haf,hfr⟩:=hchk;have hsz:ops.toList.length=ops.size:=aVy;have done: ∀(listed:Array Bool) (g:Gh) (w:pT) (a:Act) (env:List (Nat×qE)) (H:sD),Mid B A L g0 w0 ops es s listed g w a env H->(∀j,j<ops.size->listed.getD j false=true)->Q .normal a w:=by
  intro listed g w a env H m hall;refine hQ g a w env H m.eok (fun t=> ?_) m.heap (fun id=> ?_) m.tmps m.def_ m.good m.top
  .rw[m.look t,run.env t,hsz];exact LP (fun j hj _=>hall j hj)
  .rw[m.get id,run.heap id,hsz];exact LP (fun j hj _=>hall j hj)
 have stuck: ∀(listed:Array Bool),listed.size=ops.size->Region.ready .any ops listed=[]->∀j,j<ops.size->listed.getD j false=true:=by
  intro listed hls hr j hj;cases hp:listed.getD j false with
  |true=>rfl
  |false=>
   obtain⟨k,h1,h2,h3⟩:=aDY (p:=fun j=>listed.getD j false) ⟨j,hj,hp⟩;have:k∈Region.ready .any ops listed:=by
    rw[mem_ready];refine⟨?_,ops[k],by simp [h1],fun e he hb=> ?_⟩
    .have h2:listed.getD k false=false:=h2;rw[aVr] at h2|-;rw[aWN pI] at h2|-;exact h2
    .have:=aDQ haf k ops[k] (by simp [h1]) e he hb;exact h3 e.on pI
   rw[hr] at this;cases this
 intro fuel
 induction fuel with
 |zero=>
  intro listed g w a env H hu m;have hall:=aDW (l:=listed) (n:=ops.size) pI;refine⟨?_,done listed g w a env H m hall⟩;cases hr:Region.ready .any ops listed with
  |nil=>rfl
  |cons i r=>
   have:i∈Region.ready .any ops listed:=by rw[hr];simp
   obtain⟨h0,o,ho,_⟩:=mem_ready.1 this;have hi:i<ops.size:=(aVn.1 ho).1;have:=hall i hi;rw[aVr] at this h0;rw[aWN (by rw[m.size];exact hi)] at this h0;simp at this h0;rw[this] at h0;cases h0
 |succ fuel ih=>
  intro listed g w a env H hu m;refine⟨fun hr=>done listed g w a env H m (stuck listed m.size hr),fun i hi=> ?_⟩;obtain⟨h0,o,ho,hall⟩:=mem_ready.1 hi;have hin:i<ops.size:=(aVn.1 ho).1;have hil:i<listed.size:=by rw[m.size];exact hin
  have hpi:listed.getD i false=false:=by
   rw[aVr] at h0|-;rw[aWN hil] at h0|-;exact h0
  have hoL:ops.toList[i]? =some o:=by simpa using ho
  obtain⟨e,he⟩: ∃e,es[i]? =some e:=⟨es[i]'(by rw[run.len,hsz];exact hin),by simp⟩;obtain⟨sk,st⟩:=run.step i o e hoL he;have hcl':a1Z ops.toList (fun j=>(listed.setIfInBounds i true).getD j false):=by
   intro j o' ho' hj ed hed hb;simp only[HI hil] at hj|-;by_cases hji:j=i
   .subst hji;rw[hoL] at ho';obtain rfl:=aUZ ho';have:=hall ed hed hb;split
    .rfl
    .exact this
   .rw[aUX hji] at hj;have:=m.closed j o' ho' hj ed hed hb;split
    .rfl
    .exact this
  have hbef: ∀j,((Region.before ops).toList.getD i 0).testBit j=true->j≠i->listed.getD j false=true:=by
   intro j hj hne;have:=aDU hcl' hj (by simp only[HI hil];simp);simp only[HI hil,aUX hne] at this;exact this
  have haft: ∀j,((Region.before ops).toList.getD j 0).testBit i=true->listed.getD j false=true->False:=by
   intro j hj hl;have:=aDU m.closed hj hl;rw[hpi] at this;cases this
  have pairLt: ∀j p f,j<i->ops.toList[j]? =some p->es[j]? =some f->listed.getD j false=true\/(p.apart ops o=true/\(HB f e=true\/(j=i0/\i=j0))/\LG (s.nb+32*j) e.upd=true):=by
   intro j p f hji hp hf;rcases a1Y hfr j i p f o e hji hp hf hoL he with h1|h1
   .rw[aVx,aVx] at h1;exact .inl (hbef j h1 pI)
   .rw[aVx,aVx] at h1;exact .inr h1
  have pairGt: ∀j p f,i<j->ops.toList[j]? =some p->es[j]? =some f->listed.getD j false=true->o.apart ops p=true/\(HB e f=true\/(i=i0/\j=j0)):=by
   intro j p f hij hp hf hl;rcases a1Y hfr i j o e p f hij hoL he hp hf with h1|h1
   .rw[aVx,aVx] at h1;exact(haft j h1 hl).elim
   .rw[aVx,aVx] at h1;exact⟨h1.1,h1.2.1⟩
  have same: ∀{α:Type}(wr:Nat->Option α) (b:α),(∀j p f,j<i->ops.toList[j]? =some p->es[j]? =some f->wr j≠none->p.apart ops o=true->(HB f e=true\/(j=i0/\i=j0))->False)->
    (∀j p f,i<j->ops.toList[j]? =some p->es[j]? =some f->wr j≠none->listed.getD j false=true->o.apart ops p=true->(HB e f=true\/(i=i0/\j=j0))->False)->(∀j,wr j≠none->∃f,es[j]? =some f)->
    vL (fun j=>listed.getD j false) wr b ops.size=vL (fun _=>true) wr b i:=by
   intro α wr b hlt hgt hex;rw[<-a1T (n:=ops.size) pI];refine LP (fun j hj hw=> ?_);obtain⟨f,hf⟩:=hex j hw;have hpj:ops.toList[j]? =some ops[j]:=by simp [hj]
   rcases Nat.lt_trichotomy j i with h1|h1|h1
   .rw[aVk h1];rcases pairLt j _ f h1 hpj hf with h2|h2
    .exact h2
    .exact(hlt j _ f h1 hpj hf hw h2.1 h2.2.1).elim
   .subst h1;simp [hpi]
   .have: ¬j<i:=by omega
    rw[decide_eq_false this];cases hl:listed.getD j false with
    |false=>rfl
    |true=>
     obtain⟨h2,h3⟩:=pairGt j _ f h1 hpj hf hl;exact(hgt j _ f h1 hpj hf hw hl h2 h3).elim
  have exS: ∀t j,BH ops.toList es t j≠none->∃f,es[j]? =some f:=by
   intro t j h;unfold BH at h;cases hf:es[j]? with
   |none=>rw[hf] at h;exact absurd (by split<;>first|rfl|(rename_i h1;cases h1)) h
   |some f=>exact⟨f,rfl⟩
  have exH: ∀t j,yM es t j≠none->∃f,es[j]? =some f:=by
   intro t j h;unfold yM at h;cases hf:es[j]? with
   |none=>rw[hf] at h;exact absurd rfl h
   |some f=>exact⟨f,rfl⟩
  have dS: ∀t j p f,ops.toList[j]? =some p->es[j]? =some f->BH ops.toList es t j≠none->p.dst=some t:=by
   intro t j p f hp hf h;unfold BH at h;rw[hp,hf] at h;simp only at h;split at h
   .assumption
   .exact absurd rfl h
  have dH: ∀id j f,es[j]? =some f->yM es id j≠none->id∈qJ (xO f):=by
   intro id j f hf h;unfold yM at h;rw[hf] at h;simp only at h;split at h
   .assumption
   .exact absurd rfl h
  have noW: ∀id j f,es[j]? =some f->yM es id j≠none->j=i0->False:=fun id j f hf hw hj=>by
   subst hj;obtain⟨_,ex,fx,hex,hup,_⟩:=hE (by have:=(aVd.1 hf).1;rw[run.len,hsz] at this;exact this);have:=(O5.1 (dH id j _ hex hw)).1;rw[hup] at this;cases this
  have hrds: ∀id∈e.rds,¬(i=i0/\listed.getD j0 false=true)->qH H id=qH sk.H id:=fun id hid hX=>by
   rw[m.get id,st.heap id];refine same _ _ (fun j p f _ hp hf hw _ ha=> ?_) (fun j p f _ hp hf hw hl _ ha=> ?_) (exH id)
   .rcases ha with ha|ha
    .exact((O7 ha).1 id (dH id j f hf hw)).1 hid
    .exact noW id j f hf hw ha.1
   .rcases ha with ha|ha
    .exact(O7 ha).2 id (dH id j f hf hw) hid
    .exact hX ⟨ha.1,ha.2▸hl⟩
  have htmp: ∀t∈o.looksAt ops,lk env t=lk sk.env t:=fun t ht=>by
   rw[m.look t,st.env t];refine same _ _ (fun j p f _ hp hf hw ha _=> ?_) (fun j p f _ hp hf hw _ ha _=> ?_) (exS t)
   .exact(Oper.apart_spec ha).1 t (dS t j p f hp hf hw) ht
   .exact(Oper.apart_spec ha).2.2 t (dS t j p f hp hf hw) ht
  have hNs: ∀(s':St) (N':Nat),zG T Γ ops.toList o ⟨s'.env,s'.H,s'.nb,N',s'.np⟩=zG T Γ ops.toList o s':=fun _ _=>rfl;have hev:zG T Γ ops.toList o ⟨env,H,s.nb+32*i,s.N,s.np⟩=some e:=by
   by_cases hX:i=i0/\listed.getD j0 false=true
   .obtain⟨h1,hl0⟩:=hX;subst h1;obtain⟨hij0,ex,fx,hex,hup,hfx,hxe⟩:=hE hin;rw[he] at hex;cases hex;refine a1S (hxe sk o hoL st) (fun t ht=>htmp t ht) (fun id hid=> ?_) st.nb.symm st.np.symm;show qH H id=qH (qZ (xO fx) sk.H) id;have hj0:j0<ops.size:=by
     have:=(aVd.1 hfx).1;rw[run.len,hsz] at this;exact this
    rw[m.get id,XB (p:=fun j=>listed.getD j false&& !decide (j=j0)) (i:=j0) pK (fun j=>by
     by_cases h:j=j0
     .subst h;rw[aUU rfl];exact hl0
     .rw[aUX h];simp [h]) hj0 (fun j h1 h2 h3=> ?_)]
    .have hrest:vL (fun j=>listed.getD j false&& !decide (j=j0)) (yM es id) (qH s.H id) ops.size=qH sk.H id:=by
      rw[st.heap id,<-a1T (n:=ops.size) pI];refine LP (fun j hj hw=> ?_);obtain⟨f,hf⟩:=exH id j hw;have hpj:ops.toList[j]? =some ops[j]:=by simp [hj]
      rcases Nat.lt_trichotomy j i with h1|h1|h1
      .rw[aVk h1];rcases pairLt j _ f h1 hpj hf with h2|h2
       .rw[h2,decide_eq_false pI];rfl
       .rcases h2.2.1 with h2|h2
        .exact(((O7 h2).1 id (dH id j f hf hw)).1 hid).elim
        .omega
      .exact(noW id j f hf hw h1).elim
      .have h9: ¬j<i:=by omega
       rw[decide_eq_false h9];cases hl:listed.getD j false with
       |false=>rfl
       |true=>
        obtain⟨_,h3⟩:=pairGt j _ f h1 hpj hf hl;rcases h3 with h3|h3
        .exact((O7 h3).2 id (dH id j f hf hw) hid).elim
        .rw[aVk h3.2];rfl
     rw[hrest,O6];unfold yM;rw[hfx];simp only;by_cases h7:id∈qJ (xO fx)
     .rw[aUU h7,aUU h7,aNk (O5.1 h7).2];rfl
     .rw[aUX h7,aUX h7];rfl
    .left;have hl:listed.getD j false=true:=by
      cases h:listed.getD j false with
      |true=>rfl
      |false=>rw[h] at h3;cases h3
     cases hw:yM es id j with
     |none=>rfl
     |some v=>
      obtain⟨f,hf⟩:=exH id j (by rw[hw];simp);have hpj:ops.toList[j]? =some ops[j]:=by simp [h2]
      obtain⟨_,h4⟩:=pairGt j _ f pI hpj hf hl;rcases h4 with h4|h4
      .exact((O7 h4).2 id (dH id j f hf (by rw[hw];simp)) hid).elim
      .omega
   .exact a1S st.ev (fun t ht=>htmp t ht) (fun id hid=>hrds id hid hX) st.nb.symm st.np.symm
  have hXu: ∀id,id∈qJ e.upd->¬(i=i0/\listed.getD j0 false=true):=fun id hid hX=>by
   obtain⟨h1,_⟩:=hX;subst h1;obtain⟨_,ex,fx,hex,hup,_⟩:=hE hin;rw[he] at hex;cases hex;rw[hup] at hid;cases hid
  have hfresh:zQ g (s.nb+32*i) e:=fun id hid hle=>m.free i hin hpi id hle (RQ st.ids hid);have key:=aDq hT hΓ (ops:=ops.toList) (o:=o) (a:=a) (s:=⟨env,H,s.nb+32*i,s.N,s.np⟩) (K:=wpAnyIn (G1 ro) 0 P .any ops Q fuel (listed.setIfInBounds i true)) (Q:=Q) m.eok m.heap hev (fun p hp=>hs p (st.side p hp)) hfresh (fun g' w' v k=>by
   refine ih (listed.setIfInBounds i true) g' w' (a.put o.dst v) (uM o.dst e.slot env) (qZ e.upd H) ?_ ⟨by rw[Array.size_setIfInBounds];exact m.size,hcl',a1N m.eok k.le k.slot m.tmps st.dst,fun t=> ?_,k.heap,fun id=> ?_,(aDu _ _ _).trans m.tmps,by rw[aDv];exact m.def_.eff m.heap k,m.good.eff k (m.len▸(RO hev).2),m.len,fun j hj hjp id h1 h2=> ?_,fun id hid=> ?_⟩
   .have:=aDX hil hpi hin;omega
   .rw[aDO,XB (p:=fun j=>listed.getD j false) (i:=i) hpi (fun j=>by simp only[HI hil]) hin (fun j hij hj hl=> ?_),<-m.look t]
    .unfold BH;rw[hoL,he];simp only;split<;>rfl
    .have hpj:ops.toList[j]? =some ops[j]:=by simp [hj]
     obtain⟨f,hf⟩: ∃f,es[j]? =some f:=⟨es[j]'(by rw[run.len,hsz];exact hj),by simp⟩;obtain⟨h3,_⟩:=pairGt j _ f hij hpj hf hl;by_cases hw:BH ops.toList es t j=none
     .exact .inl hw
     .right;have hd:=dS t j _ f hpj hf hw;by_cases hwi:BH ops.toList es t i=none
      .exact hwi
      .have hdi:=dS t i _ e hoL he hwi;exact absurd hd ((Oper.apart_spec h3).2.1 t hdi)
   .rw[O6,XB (p:=fun j=>listed.getD j false) (i:=i) hpi (fun j=>by simp only[HI hil]) hin (fun j hij hj hl=> ?_),<-m.get id]
    .unfold yM;rw[he];simp only;by_cases h7:id∈qJ (xO e)
     .rw[aUU h7,aUU (O5.1 h7).1];rfl
     .rw[aUX h7];by_cases h8:id∈qJ e.upd
      .obtain⟨q1,q2⟩:=st.same id h8 h7;rw[aUU h8,q1,<-hrds id q2 (hXu id h8)];rfl
      .rw[aUX h8];rfl
    .have hpj:ops.toList[j]? =some ops[j]:=by simp [hj]
     obtain⟨f,hf⟩: ∃f,es[j]? =some f:=⟨es[j]'(by rw[run.len,hsz];exact hj),by simp⟩;obtain⟨_,h3⟩:=pairGt j _ f hij hpj hf hl;by_cases hw:yM es id j=none
     .exact .inl hw
     .right;have hd:=dH id j f hf hw;by_cases hwi:yM es id i=none
      .exact hwi
      .have hdi:=dH id i e he hwi;rcases h3 with h3|h3
       .exact absurd (O5.1 hd).1 ((O7 h3).1 id hdi).2
       .exact(noW id i e he hwi h3.1).elim
   .rw[HI hil] at hjp;have hji:j≠i:=fun h=>by rw[aUU h] at hjp;cases hjp
    rw[aUX hji] at hjp;have hnot:id∉qJ e.upd:=by
     intro hm;have hlt:=RQ st.ids hm;rcases Nat.lt_or_gt_of_ne hji with h3|h3
     .obtain⟨f,hf⟩: ∃f,es[j]? =some f:=⟨es[j]'(by rw[run.len,hsz];exact hj),by simp⟩;rcases pairLt j ops[j] f h3 (by simp [hj]) hf with h4|h4
      .rw[hjp] at h4;cases h4
      .have:=aDR h4.2.2 id hm;omega
     .omega
    have hg:=k.gho id hnot;have hb:=m.free j hj hjp id h1 h2;exact⟨hg.1.trans hb.1,fun n=>by rw[hg.2];exact hb.2 n⟩
   .have hnot:id∉qJ e.upd:=fun hm=>by have:=RQ st.ids hm;omega
    have hg:=k.gho id hnot;have hb:=m.top id hid;exact⟨hg.1.trans hb.1,fun n=>by rw[hg.2];exact hb.2 n⟩)
  unfold wpOpIn;rw[ho];simp only[aWr] at key|-;split at key
  .rename_i hw;rw[aUU hw];exact aDz (aDy hev) key
  .rename_i hw;rw[aUX hw];exact⟨fun _ _=>trivial,key⟩
theorem aD2 {i0 j0:Nat}{ro:pR}(hm:P.follows .mixedOrders=true) {id:Nat}{ops:Array Oper}{s:St}{y:wA}{a:Act}{w:pT}{g:Gh}(h:vB T Γ ops.toList ops.toList (some ⟨s,[],[]⟩)=some y) (hchk:NO i0 j0 ops s.nb y.es.reverse=true) (hE:i0<ops.size->i0<j0/\∃ex fx a1 o1,y.es.reverse[i0]? =some ex/\ex.upd=[]/\y.es.reverse[j0]? =some fx/\ops.toList[i0]? =some o1/\vB T Γ ops.toList (ops.toList.take i0) (some ⟨s,[],[]⟩)=some a1/\zG T Γ ops.toList o1 ⟨a1.s.env,qZ (xO fx) a1.s.H,a1.s.nb,a1.s.N,a1.s.np⟩=some ex) (hs: ∀p∈y.side,p) (hr:w7 B g w s a) (hg:uD A L g0 w0 g w s.H) (hn:L.length=s.np)
  (hQ: ∀g' a' w',w7 B g' w' y.s a'->uD A L g0 w0 g' w' y.s.H->Q .normal a' w'):(Code.region id ops true).wpIn (G1 ro) 0 P Q a w:=by
 obtain⟨es,h1,run⟩:=XC h hs;have hes:y.es.reverse=es:=by rw[h1];simp
 simp only at run;rw[hes] at hchk hE;have hsd:=G0 h;have hrep: ∀j,(Array.replicate ops.size false).getD j false=false:=by
  intro j;rw[aVr,Array.getElem?_replicate];split<;>rfl
 have none: ∀{α:Type}(wr:Nat->Option α) (b:α) n,vL (fun j=>(Array.replicate ops.size false).getD j false) wr b n=b:=by
  intro α wr b n
  induction n with
  |zero=>rfl
  |succ n ih=>simp only[vL];rw[aUX (by rw[hrep];simp)];exact ih
 have hsz:ops.toList.length=ops.size:=aVy;refine wpIn_region_any hm (aNm hT hΓ run hs hchk (fun hi=>let ⟨c0,ex,fx,a1,o1,c1,c2,c3,c4,c5,c6⟩:=hE hi;⟨c0,ex,fx,c1,c2,c3,aNl run hs c4 c5 hes h c6⟩) (fun g' a' w' env H he hl hh hgt hz hd hgd htop=> ?_) _ _ g _ a s.env s.H ?_ ⟨by simp,fun j o ho hj=> ?_,fun t=>DL (aDZ g w _) (hr.env t),fun t=> ?_,hr.heap.drawn _,fun id=> ?_,hr.size,hr.def_.same (fun _ h=>h),hg.drawn _,hn,fun j _ _ id h1 _=>hr.nb id pI,fun id h1=>hr.nb id pI⟩)
 .refine hQ g' a' w' ⟨fun t=>by rw[<-hl t];exact he t,hh.ext (fun i=>(hgt i).symm),by rw[hsd.2.1];exact hz,fun i hi=>htop i ?_,hd,?_⟩ (hgd.ext (fun i=>(hgt i).symm))
  .rw[run.nb,hsz] at hi;exact hi
  .rw[hsd.2.2,run.nb];exact aVZ hr.np (Nat.le_add_right _ _)
 .have: ∀n (l:Array Bool),DP l n<=n:=by
   intro n l
   induction n with
   |zero=>exact aVi _
   |succ n ih=>simp only[DP];split<;>omega
  exact this _ _
 .simp only[hrep] at hj;cases hj
 .rw[none]
 .exact(none _ _ _).symm
end
theorem XE: ∀{l:List Prop},rC l->∀p∈l,p
 |[p],h,q,hq=>by simp only[aVb] at hq;subst hq;exact h
 |p::q::r,h,x,hx=>by
  rcases aU9.1 hx with rfl|hx
  .exact h.1
  .exact XE h.2 x hx
theorem aD3 {p:Nat->Prop}(h: ∃n,p n): ∃n,p n/\∀m,p m->n<=m:=by
 obtain⟨n,hn⟩:=h
 induction n using Nat.strongRecOn with
 |_ n ih=>
  by_cases hs: ∃m,m<n/\p m
  .obtain⟨m,hm,hp⟩:=hs;exact ih m hm hp
  .exact⟨n,hn,fun m hm=>Nat.le_of_not_lt fun hlt=>hs ⟨m,hlt,hm⟩⟩
noncomputable def RR (p:Nat->Prop):Nat:=open Classical in if h: ∃n,p n then(aD3 h).choose else 0
theorem XF {p:Nat->Prop}(h: ∃n,p n):p (RR p)/\∀m,p m->RR p<=m:=by
 unfold RR;rw[aW0 h];exact(aD3 h).choose_spec
def G2:Exit->Option Ex
 | .normal=>some .normal
 | .exit id=>some (.exit id)
 | .ret=>some .ret
 |_=>none
def LQ (B:Nat) (A:Nat->Nat->Prop) (L:List qD) (g0:Gh) (w0:pT) (Q:Ex->St->Prop) (x:Exit) (a:Act) (w:pT):Prop:=
 ∃e g s,G2 x=some e/\Q e s/\w7 B g w s a/\uD A L g0 w0 g w s.H/\s.np=L.length
section
variable {B:Nat}{P:Program}{T:sY}{Γ:uL}(hT:y5 P T) (hΓ:EO P Γ) (hm:P.follows .mixedOrders=true) {A:Nat->Nat->Prop}{L:List qD}{g0:Gh}{w0:pT}
include hT hΓ hm
theorem HJ {ro:pR}: ∀(c:Code) (s:St) (Q:Ex->St->Prop) (g:Gh) (a:Act) (w:pT),xB T Γ c s Q->w7 B g w s a->uD A L g0 w0 g w s.H->s.np=L.length->c.wpIn (G1 ro) 0 P (LQ B A L g0 w0 Q) a w
 | .skip,s,Q,g,a,w,h,hr,hg,hn=>by
  unfold xB at h;exact wpIn_skip ⟨.normal,g,s,rfl,h,hr,hg,hn⟩
 | .label l,s,Q,g,a,w,h,hr,hg,hn=>by
  unfold xB at h;exact wpIn_label ⟨.normal,g,s,rfl,h,hr,hg,hn⟩
 | .exit id,s,Q,g,a,w,h,hr,hg,hn=>by
  unfold xB at h;exact wpIn_exit ⟨.exit id,g,s,rfl,h,hr,hg,hn⟩
 | .ret,s,Q,g,a,w,h,hr,hg,hn=>by
  unfold xB at h;exact wpIn_ret ⟨.ret,g,s,rfl,h,hr,hg,hn⟩
 | .region id ops draw,s,Q,g,a,w,h,hr,hg,hn=>by
  unfold xB at h;cases draw with
  |false=>
   simp only[QZ] at h;cases hy:vB T Γ ops.toList ops.toList (some ⟨s,[],[]⟩) with
   |none=>rw[hy] at h;cases h
   |some y=>
    rw[hy] at h;refine aM8 hT hΓ hy (XE h.1) hr hg hn.symm (fun g' a' w' hr' hg'=>⟨.normal,g',y.s,rfl,h.2,hr',hg',(G0 hy).2.2.trans hn⟩)
  |true=>
   simp only[QZ] at h;cases hy:vB T Γ ops.toList ops.toList (some ⟨s,[],[]⟩) with
   |none=>rw[hy] at h;cases h
   |some y=>
    rw[hy] at h;simp only[aBZ] at h;by_cases hc:LH ops s.nb y.es.reverse=true
    .rw[aUU hc] at h;refine aD2 (i0:=ops.size) (j0:=0) hT hΓ hm hy hc (fun h=>absurd h (aWw _)) (XE h.1) hr hg hn.symm (fun g' a' w' hr' hg'=>⟨.normal,g',y.s,rfl,h.2,hr',hg',(G0 hy).2.2.trans hn⟩)
    .rw[aUX hc] at h;cases h
 | .seq x y,s,Q,g,a,w,h,hr,hg,hn=>by
  unfold xB at h;refine wpIn_seq (aWF (HJ x s _ g a w h hr hg hn) fun e a' w' hp=> ?_);obtain⟨e',g',s',h1,h2,h3,h4,h5⟩:=hp;cases e<;>simp only[G2,aUT] at h1
  case normal=>subst h1;exact HJ y s' Q g' a' w' h2 h3 h4 h5
  case exit id=>subst h1;exact⟨.exit id,g',s',rfl,h2,h3,h4,h5⟩
  case ret=>subst h1;exact⟨.ret,g',s',rfl,h2,h3,h4,h5⟩
  all_goals cases h1
 | .cond c x y,s,Q,g,a,w,h,hr,hg,hn=>by
  unfold xB at h;have hc:=AP hr.env c;generalize uQ s.env c=sc at h hc;unfold aB6 at h;split at h
  .exact wpIn_cond_split (wI hc.1) (fun ht=>HJ x s Q g a w (h.1 ht) hr hg hn) (fun ht=>HJ y s Q g a w (h.2 ht) hr hg hn)
  .obtain⟨b,hb,hp,hq⟩:=hc.1;exact wpIn_cond_split hb (fun ht=>HJ x s Q g a w (h.1 (hp ht)) hr hg hn) (fun ht=>HJ y s Q g a w (h.2 (hq ht)) hr hg hn)
  .cases h
 | .block id c,s,Q,g,a,w,h,hr,hg,hn=>by
  unfold xB at h;refine wpIn_block (aWF (HJ c s _ g a w h hr hg hn) fun e a' w' hp=> ?_);obtain⟨e',g',s',h1,h2,h3,h4,h5⟩:=hp;cases e<;>simp only[G2,aUT] at h1
  case normal=>subst h1;exact⟨.normal,g',s',rfl,h2,h3,h4,h5⟩
  case exit j=>
   subst h1;simp only[J8] at h2;simp only[Exit.inBlock];split
   .rename_i hj;rw[aUU hj] at h2;exact⟨.normal,g',s',rfl,h2,h3,h4,h5⟩
   .rename_i hj;rw[aUX hj] at h2;exact⟨.exit j,g',s',rfl,h2,h3,h4,h5⟩
  case ret=>subst h1;exact⟨.ret,g',s',rfl,h2,h3,h4,h5⟩
  all_goals cases h1
 | .loop c,s,Q,g,a,w,h,hr,hg,hn=>by
  unfold xB at h;obtain⟨k,I,μ,h0,hround⟩:=h;obtain⟨g1,k1,k2,k3,_⟩:=HH hr hg hn k
  let R:Act->pT->Nat->Prop:=fun a w n=> ∃g s,I s/\μ s=n/\w7 B g w s a/\uD A L g0 w0 g w s.H/\s.np=L.length
  refine wpIn_loop (fun a w=> ∃n,R a w n) (fun a w=>RR (R a w)) ⟨_,g1,s.keep k,h0,rfl,k1,k2,k3⟩ (fun a w hI=> ?_);obtain⟨⟨g2,s2,i1,i2,i3,i4,i5⟩,_⟩:=XF hI;refine aWF (HJ c s2 _ g2 a w (hround s2 i1) i3 i4 i5) fun e a' w' hp=> ?_;obtain⟨e',g',s',h1,h2,h3,h4,h5⟩:=hp;cases e<;>simp only[G2,aUT] at h1
  case normal=>
   subst h1;obtain⟨k',j1,j2⟩:=h2;obtain⟨g3,l1,l2,l3,_⟩:=HH h3 h4 h5 k';have hR:R a' w' (μ (s'.keep k')):=⟨g3,s'.keep k',j1,rfl,l1,l2,l3⟩;refine⟨⟨_,hR⟩,Nat.lt_of_le_of_lt ((XF ⟨_,hR⟩).2 _ hR) (by rw[<-i2];exact j2)⟩
  case exit id=>subst h1;exact⟨.exit id,g',s',rfl,h2,h3,h4,h5⟩
  case ret=>subst h1;exact⟨.ret,g',s',rfl,h2,h3,h4,h5⟩
  all_goals cases h1
 | .rangeFunc _ _ _ _,_,_,_,_,_,h,_,_,_=>by unfold xB at h;cases h
 | .scope _,_,_,_,_,_,h,_,_,_=>by unfold xB at h;cases h
 | .goto _,_,_,_,_,_,h,_,_,_=>by unfold xB at h;cases h
 | .refuse _,_,_,_,_,_,h,_,_,_=>by unfold xB at h;cases h
end
section
variable {f:St->Prop}{Q:Ex->St->Prop}{s:St}{id j:Nat}{I:St->Prop}{μ:St->Nat}{m:Nat}
theorem qM (h:f s):R2 f Q .normal s:=h
theorem tU (h:Q (.exit j) s):R2 f Q (.exit j) s:=h
theorem rG (h:Q .ret s):R2 f Q .ret s:=h
theorem rW (h:Q .normal s):J8 id Q .normal s:=h
theorem u7 (h:Q .normal s):J8 id Q (.exit id) s:=by show (if id=id then Q .normal s else Q (.exit id) s);rw[aUU rfl];exact h
theorem aD4 (hne:j≠id) (h:Q (.exit j) s):J8 id Q (.exit j) s:=by show (if j=id then Q .normal s else Q (.exit j) s);rw[aUX hne];exact h
theorem rY (h:Q .ret s):J8 id Q .ret s:=h
end
@[go_sem] def rM:Nat->List qE->List (Nat×qE)
 |_,[]=>[]
 |c,s::r=>(c,s)::rM (c+1) r
@[go_sem] def wJ:Nat->List qD->pN
 |_,[]=>[]
 |c,_::L=>(c,c)::wJ (c+1) L
@[go_sem] def RS (m:pN):List qE->Prop
 |[]=>True
 |s::r=>AK m s=s/\RS m r
@[go_sem] def RT (m:pN):List qD->Prop
 |[]=>True
 | .dead::_=>False
 |b::r=>J7 m (some b)=b/\RT m r
def rO:List qD->Prop
 |[]=>True
 | .row _ _ l n::r=>n=List.length l/\rO r
 |_::r=>rO r
theorem aD5 {g:Gh}{w:pT}: ∀{L:List qD},(∀(i:Nat) b,L[i]? =some b->∃j,AM g w j b)->rO L
 |[],_=>trivial
 |b::L,h=>by
  have h1:=aD5 (L:=L) fun i b' hb=>h (i+1) b' (by simpa using hb);obtain⟨j,h0⟩:=h 0 b rfl;cases b with
  |row e t l n=>exact⟨h0.1.symm,h1⟩
  |_=>exact h1
def a14:pP->pU
 |[v]=>v
 |l=> .tuple l.toArray
attribute [go_sem] qT
@[go_sem] def aD6:qE->Int
 |(.val (.int _) n,_)=>n
 |_=>0
theorem aD7: ∀(l:List qE) (c t:Nat),lk (rM c l) t=if c<=t then(l[t-c]?).getD (.any,none) else(.any,none)
 |[],c,t=>by simp [rM,lk]
 |s::l,c,t=>by
  simp only[rM,lk];by_cases h:c=t
  .subst h;simp
  .rw[aUX h,aD7 l (c+1) t];by_cases h2:c<=t
   .rw[aUU h2,aUU pI];obtain⟨d,hd⟩: ∃d,t-c=d+1:=⟨t-c-1,pI⟩;rw[hd,aVH,show t- (c+1)=d by omega]
   .rw[aUX h2,aUX pI]
theorem O8: ∀{L:List qD}{c i j:Nat},(i,j)∈wJ c L↔i=j/\c<=i/\i<c+L.length
 |[],c,i,j=>by simp only[wJ,aWv,aU7,false_iff];omega
 |b::L,c,i,j=>by
  simp only[wJ,aU9,aVs,O8,aUY];omega
theorem XG: ∀{L:List qD}{c:Nat},xQ 0 (wJ c L)=true
 |[],_=>rfl
 |b::L,c=>by
  simp only[wJ,xQ,aU6];refine⟨⟨by simp,?_⟩,XG⟩;have: ∀{m:pN},(∀i j,(i,j)∈m->i≠c/\j≠c)->NP c c m=false:=by
   intro m
   induction m with
   |nil=>intro _;rfl
   |cons q m ih=>
    intro h;obtain⟨i,j⟩:=q;have:=h i j pK;simp only[NP,ih (fun i j hm=>h i j (aU3 _ hm)),decide_eq_false this.1,decide_eq_false this.2];rfl
  rw[this]
  .rfl
  .intro i j hm;obtain⟨rfl,h1,_⟩:=O8.1 hm;omega
theorem aD8 {m:pN}: ∀{l:List qE},RS m l->∀s∈l,AK m s=s
 |x::l,h,s,hs=>by
  rcases aU9.1 hs with rfl|hs
  .exact h.1
  .exact aD8 h.2 s hs
theorem LR {m:pN}: ∀{l:List qD},RT m l->∀b∈l,J7 m (some b)=b/\b≠.dead
 |x::l,h,b,hb=>by
  cases x with
  |dead=>exact h.elim
  |cells t y ts=>
   rcases aU9.1 hb with rfl|hb
   .exact⟨h.1,fun h=>by cases h⟩
   .exact LR h.2 b hb
  |row e t l n=>
   rcases aU9.1 hb with rfl|hb
   .exact⟨h.1,fun h=>by cases h⟩
   .exact LR h.2 b hb
  |map k v l=>
   rcases aU9.1 hb with rfl|hb
   .exact⟨h.1,fun h=>by cases h⟩
   .exact LR h.2 b hb
  |iter s n=>
   rcases aU9.1 hb with rfl|hb
   .exact⟨h.1,fun h=>by cases h⟩
   .exact LR h.2 b hb
  |grow e c n=>
   rcases aU9.1 hb with rfl|hb
   .exact⟨h.1,fun h=>by cases h⟩
   .exact LR h.2 b hb
theorem XH {g:Gh}{w:pT}: ∀{ss:List qE}{vs:pP},vR g w ss vs->vs.length=ss.length/\∀(i:Nat) s,ss[i]? =some s->∃v,vs[i]? =some v/\rX g w s v
 |[],vs,h=>by rw[show vs=[] from h];exact⟨rfl,fun i s h=>by simp at h⟩
 |s::ss,vs,⟨v,vs',e,h1,h2⟩=>by
  subst e;obtain⟨h3,h4⟩:=XH h2;refine⟨by simp [h3],fun i s' hi=> ?_⟩;cases i with
  |zero=>simp only[aVt,aUT] at hi;subst hi;exact⟨v,rfl,h1⟩
  |succ i=>simp only[aVH] at hi|-;exact h4 i s' hi
theorem XI: ∀(L:List qD),r6 L=L.length
 |[]=>rfl
 |_::L=>by simp only[r6,aUY,XI L]
theorem aNn {g:Gh}{w:pT}{args:List qE}{vals:pP}{L:List qD}{N:Nat}(hH:sM g w (qT 0 L)) (ha:vR g w args vals) (hs:RS (wJ 0 L) args) (hb:RT (wJ 0 L) L) (hN:args.length<=N):
  w7 w.heap.size (vC g 0 (wJ 0 L)) w ⟨rM 0 args,qT 0 L,r6 L,N,r6 L⟩ {tmps:=vals.toArray++Array.replicate (N-vals.toArray.size) undef,defers:=[]}/\
  (∀i blk,L[i]? =some blk->(vC g 0 (wJ 0 L)).J i=g.J i/\AM (vC g 0 (wJ 0 L)) w i blk/\∀b o,sG (vC g 0 (wJ 0 L)) i blk b o->sG g i blk b o):=by
 have hk:xQ 0 (wJ 0 L)=true:=XG;have hmem: ∀i blk,L[i]? =some blk->(i,i)∈wJ 0 L:=fun i blk h=>O8.2 ⟨rfl,pI,by have:=(aVd.1 h).1;omega⟩;have hblk: ∀i blk,L[i]? =some blk->AM (vC g 0 (wJ 0 L)) w i blk/\∀b o,sG (vC g 0 (wJ 0 L)) i blk b o->sG g i blk b o:=by
  intro i blk h;have hr:=(LR hb blk (List.mem_of_getElem? h)).1;have:=LO (g:=g) (w:=w) hk (hmem i blk h) (b:=some blk) (fun c hc=>by cases hc;exact hH.blk i blk (by rw[y6];exact h));rw[hr] at this;exact⟨this.1,fun b o ho=>by obtain⟨c,hc,hco⟩:=this.2 b o ho;cases hc;exact hco⟩
 obtain⟨hl,hv⟩:=XH ha;refine⟨⟨fun t=> ?_,⟨fun i b h=> ?_,fun i j bi bj b o hij h1 h2 o1 o2=> ?_,hH.sl,hH.tab.1,fun i blk b o hg ho=>hH.tab.2 i blk b o hg ((hblk i blk (by rw[<-y6];exact hg)).2 b o ho)⟩,?_,fun i hi=> ?_,aDo _ _,aVi _⟩,fun i blk h=>⟨(BG hk (hmem i blk h)).1,hblk i blk h⟩⟩
 .rw[aD7,aUU (aV4 _),Nat.sub_zero];cases ht:args[t]? with
  |none=>exact⟨trivial,trivial⟩
  |some s=>
   obtain⟨v,hv1,hv2⟩:=hv t s ht;have hlt:t<vals.length:=(aVd.1 hv1).1;have:(vals.toArray++Array.replicate (N-vals.toArray.size) undef).getD t undef=v:=by
    rw[aVr,Array.getElem?_append_left (by simpa using hlt)];simp [hv1]
   simp only[aW1];rw[this];have:=X9 hk hv2;rw[aD8 hs s (List.mem_of_getElem? ht)] at this;exact this
 .rw[y6] at h;exact(hblk i b h).1
 .rw[y6] at h1 h2;exact hH.dis i j bi bj b o hij (by rw[y6];exact h1) (by rw[y6];exact h2) ((hblk i bi h1).2 b o o1) ((hblk j bj h2).2 b o o2)
 .simp only[aWK,Array.size_replicate,aVP];omega
 .have hold:A9 (wJ 0 L) i=none:=by
   cases ho:A9 (wJ 0 L) i with
   |none=>rfl
   |some o=>
    obtain⟨rfl,_,h2⟩:=O8.1 (a1L ho);have hi:r6 L<=i:=hi;rw[XI] at hi;omega
  refine⟨?_,fun n=> ?_⟩
  .show (if i<0 then g.J i else(A9 (wJ 0 L) i).bind g.J)=none;rw[aUX pI,hold];rfl
  .show (if i<0 then g.cur i n else(A9 (wJ 0 L) i).bind fun o=>g.cur o n)=none;rw[aUX pI,hold];rfl
structure vS (B:Nat) (w w':pT):Prop where
 os:w'.os=w.os
 tape:w'.tape=w.tape
 output:w'.output=w.output
 size:w.heap.size<=w'.heap.size
 blk: ∀b,b<w.heap.size->w'.heap[b]? =w.heap[b]? \/(B<=b/\NG<=b/\∃o o',w.heap[b]? =some o/\w'.heap[b]? =some o'/\HG o=true/\HG o'=true)
theorem aD9 {w:pT}{b:Nat}{ob:Obj}(hd:w.heap[b]? =some ob) (hm:HG ob=true) (o:Nat):w.frozen? ⟨b,o,none⟩=false:=by
 unfold World.frozen?;simp only[hd];cases ob<;>first|rfl|cases hm
theorem aNo {w:pT}{b:Nat}{ob:Obj}(hd:w.heap[b]? =some ob) (hm:HG ob=true):w.shape? b=none:=by
 unfold World.shape?;simp only[hd];cases ob<;>first|rfl|cases hm
section
variable {B:Nat}{w w' w'':pT}
theorem vS.refl (B:Nat) (w:pT):vS B w w:=⟨rfl,rfl,rfl,aVi _,fun _ _=> .inl rfl⟩
theorem vS.trans (h:vS B w w') (k:vS B w' w''):vS B w w'':=by
 refine⟨k.os.trans h.os,k.tape.trans h.tape,k.output.trans h.output,aVZ h.size k.size,fun b hb=> ?_⟩;rcases k.blk b (aVz hb h.size) with k1|⟨k0,k1,o,o',k2,k3,k4,k5⟩
 .rcases h.blk b hb with h1|⟨h0,h1,o,o',h2,h3,h4,h5⟩
  .exact .inl (k1.trans h1)
  .exact .inr ⟨h0,h1,o,o',h2,k1.trans h3,h4,h5⟩
 .rcases h.blk b hb with h1|⟨h0,h1,p,p',h2,h3,h4,h5⟩
  .exact .inr ⟨k0,k1,o,o',h1▸k2,k3,k4,k5⟩
  .exact .inr ⟨h0,h1,p,o',h2,k3,h4,k5⟩
theorem vS.cell (t:vS B w w') {b:Nat}(hb:b<w.heap.size) (o:Nat):w'.cell? ⟨b,o,none⟩=w.cell? ⟨b,o,none⟩/\w'.frozen? ⟨b,o,none⟩=w.frozen? ⟨b,o,none⟩:=by
 rcases t.blk b hb with h|⟨_,_,o1,o2,h1,h2,m1,m2⟩
 .exact⟨aVl h,by unfold World.frozen?;simp only[h]⟩
 .exact⟨by rw[a1H h1 m1,a1H h2 m2],by rw[aD9 h1 m1,aD9 h2 m2]⟩
theorem vS.shape (t:vS B w w') {b:Nat}{s:TypeId×Nat}(h:w.shape? b=some s):w'.shape? b=some s:=by
 have hb:b<w.heap.size:=by
  unfold World.shape? at h;cases hx:w.heap[b]? with
  |none=>rw[hx] at h;cases h
  |some _=>exact(aVn.1 hx).1
 rcases t.blk b hb with k|⟨_,_,o1,o2,h1,h2,m1,m2⟩
 .unfold World.shape? at h|-;rw[k];exact h
 .rw[aNo h1 m1] at h;cases h
theorem vS.le (t:vS B w w') {g:Gh}(hs: ∀b o,g.S b o->b<w.heap.size):Le g w g w':=⟨fun _ _ h=>h,fun b o h=>(t.cell (hs b o h) o).1,fun _ _ h=>h,fun _ _ _ h=>h⟩
theorem vS.heapOk (t:vS B w w') {g:Gh}{H:sD}(h:sM g w H):sM g w' H:=by
 have own: ∀{i blk b o},qH H i=some blk->sG g i blk b o->w'.heap[b]? =w.heap[b]? :=fun hg ho=>by
  rcases t.blk _ (NR (h.blk _ _ hg) ho) with k|⟨_,_,o1,o2,h1,_,m1,_⟩
  .exact k
  .exact(X6 (h.blk _ _ hg) ho h1 m1).elim
 refine⟨fun i blk hb=>NS (h.blk i blk hb) (t.le h.sl) rfl rfl (fun b o ho=>t.cell (NR (h.blk i blk hb) ho) o) (fun b ho=>own hb (ho 0)) (fun _ _ _ x=>x) (fun b o s _ x=>t.shape x),h.dis,fun b o x=>aVz (h.sl b o x) t.size,KX h.tab.1 t.size (fun b hb=> ?_),h.tab.2⟩;rcases t.blk b (aVz hb h.tab.1.1) with k|⟨_,k,_⟩
 .exact k
 .omega
theorem w7.turn {g:Gh}{s:St}{a:Act}{ds:List Deferred}(h:w7 B g w s a) (t:vS B w w') (hd:A8 B w' ds):w7 B g w' s {a with defers:=ds}:=
 ⟨fun x=>DL (t.le h.heap.sl) (h.env x),t.heapOk h.heap,h.size,h.nb,hd,h.np⟩
theorem uD.turn {A:Nat->Nat->Prop}{L:List qD}{g0 g:Gh}{w0:pT}{H:sD}(h:uD A L g0 w0 g w H) (hs: ∀b o,g.S b o->b<w.heap.size) (t:vS w0.heap.size w w'):uD A L g0 w0 g w' H:=by
 refine⟨fun b o x=>⟨(h.shut b o x).1,(t.cell (hs b o (h.shut b o x).1) o).1.trans (h.shut b o x).2⟩,⟨t.os.trans h.fr.os,t.tape.trans h.fr.tape,t.output.trans h.fr.output,aVZ h.fr.size t.size,fun b hb hA=> ?_,fun b o hb hA=> ?_,h.fr.new,fun b s x=> ?_⟩,h.perm,h.J,h.live,h.ty,h.cur⟩
 .rcases t.blk b (aVz hb h.fr.size) with k|⟨k,_⟩
  .exact k.trans (h.fr.blk b hb hA)
  .omega
 .have:=t.cell (aVz hb h.fr.size) o;have k:=h.fr.cell b o hb hA;exact⟨this.1.trans k.1,this.2.trans k.2⟩
 .rcases h.fr.shape b s x with k|k
  .exact .inl (t.shape k)
  .exact .inr k
end
theorem aEa {P:Program}{fn:Func}{R:Ending->pT->Prop}{A:Nat->Nat->Prop}{L:List qD}{g0 g:Gh}{w0:pT}{s:St}{tmps:Array pU}: ∀(ds:List Deferred) (w:pT),w7 w0.heap.size g w s {tmps:=tmps,defers:=ds}->uD A L g0 w0 g w s.H->
  (∀w',w7 w0.heap.size g w' s {tmps:=tmps,defers:=[]}->uD A L g0 w0 g w' s.H->∃v,(results fn tmps).run P w'= .ok v w'/\R (.returned v) w')->LeavesInM Fence.wide 0 P fn tmps R ds .returning w
 |[],w,hr,hg,h=>h w hr hg
 |d::ds,w,hr,hg,h=>by
  obtain⟨hnd,hall⟩:=hr.def_;obtain⟨D,rfl,h1,h2,h3⟩:=hall d aU2;have hlt:=(aVn.1 h3).1;have t:vS w0.heap.size w (w.putObj D (.deferred none)):=by
   refine⟨rfl,rfl,rfl,by simp [World.putObj],fun b hb=> ?_⟩;by_cases e:b=D
   .subst e;exact .inr ⟨h1,h2,_,_,h3,World.putObj_heap_same hlt,rfl,rfl⟩
   .exact .inl (World.putObj_heap_other e)
  have hd:A8 w0.heap.size (w.putObj D (.deferred none)) ds:=by
   refine⟨(List.nodup_cons.1 hnd).2,fun d' hd'=> ?_⟩;obtain⟨D',rfl,k1,k2,k3⟩:=hall d' (aU3 _ hd');refine⟨D',rfl,k1,k2,?_⟩;rw[World.putObj_heap_other (fun e:D'=D=>(List.nodup_cons.1 hnd).1 (by subst e;exact hd'))];exact k3
  exact⟨by simp,.inl ⟨D,_,rfl,run_takeDeferred h3,aEa ds _ (hr.turn t hd) (hg.turn hr.heap.sl t) h⟩⟩
end Go.Proofs.YtkpflnijijccpaaGreatDoor.Vc
