/- Packed by a program of mine (wip/tools/pack.py): the same texts with short names and few blanks. -/
import Derived.ChangeKeysEq
import Derived.Laws.BytesArg
import Derived.Laws.StructEq
import Derived.Lib.AppendStr
import Derived.MapKept
import Derived.OrdersIn
import Derived.RangeFuncLeaves
import Derived.RangeFuncNested
import Derived.WalkSpells
import Derived.Test.YtkpflnijijccpaaGreatDoorF000
set_option linter.defProp false
set_option linter.unusedVariables false
set_option linter.unusedSimpArgs false
set_option linter.unusedSectionVars false
set_option maxRecDepth 100000
set_option maxHeartbeats 4000000
namespace Go.Proofs.YtkpflnijijccpaaGreatDoor.Vc
open Go.RowKit
def zJ:Ty->TypeDesc
 | .int k=> .int k
 | .str=> .string
 |_=> .bool
theorem WY {P:Program}{t:TypeId}{ti:TI}(h:tW P t ti) (hk:CU ti.ty=true):P.underlying t=some (zJ ti.ty):=by
 have h2:=h.2;unfold xP at h2;obtain⟨ty,el,by',ar,ls⟩:=ti;cases ty<;>simp only[CU,aNt] at hk<;>exact h2
theorem aE9 {g:Gh}{w:pR}{k:Ty}(hk:CU k=true) {a x:k.den}{v u:pS}(ha:tJ g w k a v) (hx:tJ g w k x u):Instr.sameNow (zJ k) v u=some (EY k a x)/\(EY k a x=true->u=v):=by
 cases k with
 |int k=>
  rw[w7 ha,w7 hx];simp only[zJ,Instr.sameNow,aNo,EY];refine⟨?_,fun h=> ?_⟩
  .congr 1
  .rw[aMv h]
 |str=>
  rw[wG ha,wG hx];simp only[zJ,Instr.sameNow,EY];refine⟨?_,fun h=> ?_⟩
  .congr 1;rw[aNI,MapKept.bytes_beq,aMj];constructor
   .intro h;have:=aL9 (fun z:ByteArray=>z.data.toList) h;simpa using this
   .intro h;rw[h]
  .rw[aMv h]
 |bool=>
  rw[vL ha,vL hx];simp only[zJ,Instr.sameNow,EY];refine⟨trivial,fun h=> ?_⟩;rw[beq_iff_eq.1 h]
 |_=>simp [CU] at hk
theorem WZ {g:Gh}{w:pR}{k v:Ty}(hk:CU k=true) {a:k.den}{key:pS}(ha:tJ g w k a key): ∀{l:List (k.den×v.den)}{es:List MapEntry}(i:Nat),CV g w k v l es->
  (vB k v l a=false->Instr.findNow (zJ k) key es i=some none/\rS k v l a=v.zero/\∀b val born,tJ g w v b val->CV g w k v (tO k v a b l) (es++[⟨key,val,born⟩]))/\
  (vB k v l a=true->∃j e,es[j]? =some e/\Instr.findNow (zJ k) key es i=some (some (i+j,e.val))/\tJ g w v (rS k v l a) e.val/\e.key=key/\∀b val,tJ g w v b val->CV g w k v (tO k v a b l) (es.modify j fun e=>{e with key:=key,val:=val}))
 |[],es,i,h=>by
  rw[show es=[] from h];exact⟨fun _=>⟨rfl,rfl,fun b val born hb=>⟨_,[],rfl,ha,hb,rfl⟩⟩,fun h=>by simp [vB] at h⟩
 |(x,y)::l,_,i,⟨e,es',rfl,h1,h2,h3⟩=>by
  obtain⟨s1,s2⟩:=aE9 hk ha h1;cases hq:EY k a x with
  |true=>
   rw[hq] at s1;refine⟨fun h=>by simp [vB,hq] at h,fun _=>⟨0,e,rfl,?_,?_,s2 hq,fun b val hb=> ?_⟩⟩
   .simp only[Instr.findNow,s1,aM7]
   .simp only[rS,hq,aNo];exact h2
   .simp only[tO,hq,aNo];exact⟨_,es',rfl,ha,hb,h3⟩
  |false=>
   rw[hq] at s1;obtain⟨f1,f2⟩:=WZ (v:=v) hk ha (i+1) h3;refine⟨fun h=> ?_,fun h=> ?_⟩
   .simp only[vB,hq] at h;obtain⟨g1,g2,g3⟩:=f1 (by simpa using h);refine⟨by simp only[Instr.findNow,s1];exact g1,by simp only[rS,hq];simpa using g2,fun b val born hb=> ?_⟩;simp only[tO,hq];exact⟨e,_,rfl,h1,h2,g3 b val born hb⟩
   .simp only[vB,hq] at h;obtain⟨j,e',g1,g2,g3,g4,g5⟩:=f2 (by simpa using h);refine⟨j+1,e',by simpa using g1,by simp only[Instr.findNow,s1];rw[g2];congr 3;omega,by simp only[rS,hq];simpa using g3,g4,fun b val hb=> ?_⟩;simp only[tO,hq];exact⟨e,_,rfl,h1,h2,g5 b val hb⟩
def IL (ok:Bool) (z:pS):Option (Nat×pS)->pS
 |some (_,v)=>if ok then .tuple #[v,.bool true] else v
 |none=>if ok then .tuple #[z,.bool false] else z
section
variable {P:Program}{o:Oper}{a:Act}{g:Gh}{w:pR}{H:s0}{T:sM}(hT:wV P T) (hH:sG g w H)
include hT hH
theorem sB.newMap {side:List Prop}{rds:pQ}{base:Nat}{k v:Ty}(hf:g.J base=none) (hc:g.cur base=fun _=>none):
  sB g w H ⟨side,(.val .mp (some base),none),[(base,.map k v [])],rds⟩ (g.var base w.heap.size none) (w.alloc (.map #[] 0)) (.map (some w.heap.size)):=by
 have hJ:(g.var base w.heap.size none).J base=some ⟨w.heap.size,0,none⟩:=by simp [Gh.var]
 have le:Le g w (g.var base w.heap.size none) (w.alloc (.map #[] 0)):=⟨fun _ _ h=>h,fun b o h=>aMe (a:=⟨b,o,none⟩) (aMp _ _ _ (hH.sl b o h)),fun i p h=>by
  show (if i=base then _ else _)=_;rw[aLU (fun e1=>by rw[e1,hf] at h;cases h)];exact h,fun _ _ _ h=>h⟩
 have fr:Fr (sW g H (qG [(base,q9.map k v [])])) w (w.alloc (.map #[] 0)) g.S (g.var base w.heap.size none).S:=
  ⟨rfl,rfl,rfl,by simp,fun b hb _=>aMp _ _ _ hb,fun b o hb _=>⟨aMe (a:=⟨b,o,none⟩) (aMp _ _ _ hb),aME (a:=⟨b,o,none⟩) (aMp _ _ _ hb)⟩,fun b o h=> .inl h,fun b s h=> .inl ((BM (aMp _ _ _ (BL h))).trans h)⟩
 have gho: ∀i,i∉qG [(base,q9.map k v [])]->(g.var base w.heap.size none).J i=g.J i/\(g.var base w.heap.size none).cur i=g.cur i:=fun i hi=>⟨by
  show (if i=base then _ else _)=_;rw[aLU (fun e1=>hi (by simp [qG,e1]))],rfl⟩
 have get: ∀i blk,i∈qG [(base,q9.map k v [])]->qD (qP [(base,q9.map k v [])] H) i=some blk->i=base/\blk= .map k v []:=by
  intro i blk hi hg;simp only[qG,aL6] at hi;subst hi;simp only[qP,qD,aNo,aLO] at hg;exact⟨rfl,hg.symm⟩
 have perm: ∀i blk b o,i∈qG [(base,q9.map k v [])]->qD (qP [(base,q9.map k v [])] H) i=some blk->sA (g.var base w.heap.size none) i blk b o->w.heap.size<=b\/sW g H (qG [(base,q9.map k v [])]) b o:=by
  intro i blk b o hi hg ho;obtain⟨rfl,rfl⟩:=get i blk hi hg;obtain⟨p,hp,h1⟩:=ho;rw[hJ] at hp;obtain rfl:=aLS hp;exact .inl (aNj h1.symm)
 refine⟨le,⟨.inr ⟨rfl,_,hJ,rfl⟩,trivial⟩,hH.upd le fr perm gho (fun i blk hi hg=> ?_) (fun i j bi bj b o hi hj hij hgi hgj _ _=>hij ((get i bi hi hgi).1.trans (get j bj hj hgj).1.symm)) (fun b o h=>aMu (hH.sl b o h) pI),fr,perm,gho,fun i u' y us h=>by
  simp only[qP,qD] at h;split at h
  .cases h
  .exact .inl ⟨y,us,h⟩⟩
 obtain⟨rfl,rfl⟩:=get i blk hi hg;refine⟨⟨w.heap.size,0,none⟩,#[],0,hJ,rfl,?_,rfl,fun o hs=>aNp _ (hH.sl _ _ hs)⟩;show (w.heap.push (.map #[] 0))[w.heap.size]? =_;rw[aNF]
theorem aFa {t:TypeId}{r:Option Operand}(ho:o.op= .makeMap t r) {base:Nat}{e:qH}(hr:VX T base (rK T t) r=some e) (hf:yG g base e):rD P o a g w H e:=by
 generalize hst:rK T t=ot at hr;unfold VX at hr;split at hr
 .rename_i el fl ar ls_;unfold a6g at hr;split at hr
  .split at hr
   .cases hr;have hfr:=hf base (by simp [qG]) (aMc _);refine rD.value (v:= .map (some w.heap.size)) (w':=w.alloc (.map #[] 0)) ?_ (sB.newMap hT hH hfr.1 (funext hfr.2));unfold execOp;rw[ho];simp only[Instr.makeMap,aL2,run_newObj,aLX,aMf,Option.map_none];rfl
   .cases hr
  .cases hr
 .cases hr
theorem aFb {xt el fl:TypeId}{ok:Bool}{r:Nat}{es:Array MapEntry}{cl:Nat}{key z res:pS}{kd:TypeDesc}(hm:P.underlying xt=some (.map el fl)) (hb:w.heap[r]? =some (.map es cl)) (hkd:P.underlying el=some kd) (hsim: ∀ty,kd≠.interface ty) (hna: ∀n t,kd≠.array n t) (hns: ∀f,kd≠.struct f)
  {q:Option (Nat×pS)}(hq:Instr.findNow kd key es.toList 0=some q) (hz:(zeroValue fl).run P w= .ok z w)
  (hres:res=IL ok z q):(Instr.lookup xt (.map (some r)) key ok).run P w= .ok res w:=by
 have hck: ∀em,(Instr.checkKey em 10000 el key).run P w= .ok () w:=by
  intro em;unfold Instr.checkKey;simp only[aL2,aMa hkd,aLX];cases kd<;>first|rfl|(exact absurd rfl (hsim _)) |(exact absurd rfl (hna _ _)) |(exact absurd rfl (hns _))
 have hfk:(Instr.findKey el key es.toList).run P w= .ok q w:=by
  unfold Instr.findKey;simp only[aL2,aMa hkd,aLX,hq,aMf]
 subst hres;unfold Instr.lookup;simp only[aL2,aMa hm,aLX,MapKept.run_getObj_map hb,aMf,hck,hfk];cases q with
 |none=>cases ok<;>simp [hz,aL2,aLX,IL]
 |some q=>cases ok<;>simp [aL2,aLX,IL]
theorem aFc {xt el fl:TypeId}{ok:Bool}{key z:pS}{kd:TypeDesc}(hm:P.underlying xt=some (.map el fl)) (hkd:P.underlying el=some kd) (hsim: ∀ty,kd≠.interface ty) (hna: ∀n t,kd≠.array n t) (hns: ∀f,kd≠.struct f)
  (hz:(zeroValue fl).run P w= .ok z w):(Instr.lookup xt (.map none) key ok).run P w= .ok (IL ok z none) w:=by
 have hck: ∀em,(Instr.checkKey em 10000 el key).run P w= .ok () w:=by
  intro em;unfold Instr.checkKey;simp only[aL2,aMa hkd,aLX];cases kd<;>first|rfl|(exact absurd rfl (hsim _)) |(exact absurd rfl (hna _ _)) |(exact absurd rfl (hns _))
 have hfk:(Instr.findKey el key ([]:List MapEntry)).run P w= .ok none w:=by
  unfold Instr.findKey;simp only[aL2,aMa hkd,aLX,Instr.findNow,aMf]
 unfold Instr.lookup;simp only[aL2,aMa hm,aLX,aMf,hck,hfk];cases ok<;>simp [hz,aL2,aLX,IL,hfk]
theorem sB.updMap {side:List Prop}{rds:pQ}{i:Nat}{k v:Ty}{l l':List (k.den×v.den)}{p:Pl}{es es':Array MapEntry}{cl cl':Nat}(hi:qD H i=some (.map k v l)) (hp:g.J i=some p) (hp0:p.2=0) (hb:w.heap[p.1]? =some (.map es cl)) (hS: ∀o,¬g.S p.1 o) (hM:CV g w k v l' es'.toList):
  sB g w H ⟨side,(.any,none),[(i,.map k v l')],rds⟩ g {w with heap:=w.heap.setIfInBounds p.1 (.map es' cl')} undef:=by
 have hlt:p.1<w.heap.size:=(aMi.1 hb).1;have hoth: ∀b,b≠p.1->(w.heap.setIfInBounds p.1 (.map es' cl'))[b]? =w.heap[b]? :=fun b hne=>by rw[aNa (Ne.symm hne)]
 have hown: ∀o,sW g H (qG [(i,q9.map k v l')]) p.1 o:=fun o=>⟨i,_,by simp [qG],hi,p,hp,rfl⟩;have le:Le g w g {w with heap:=w.heap.setIfInBounds p.1 (.map es' cl')}:=⟨fun _ _ h=>h,fun b o h=>aMe (a:=⟨b,o,none⟩) (hoth b (fun e=>hS o (e▸h))),fun _ _ h=>h,fun _ _ _ h=>h⟩
 have fr:Fr (sW g H (qG [(i,q9.map k v l')])) w {w with heap:=w.heap.setIfInBounds p.1 (.map es' cl')} g.S g.S:=
  ⟨rfl,rfl,rfl,by simp,fun b _ hn=>hoth b (fun e=>hn 0 (e▸hown 0)),fun b o _ hn=>⟨aMe (a:=⟨b,o,none⟩) (hoth b (fun e=>hn (e▸hown o))),aME (a:=⟨b,o,none⟩) (hoth b (fun e=>hn (e▸hown o)))⟩,fun b o h=> .inl h,fun b s h=>(by
   by_cases e:b=p.1
   .exact .inr fun o=>e▸hown o
   .exact .inl ((BM (hoth b e)).trans h))⟩
 have get: ∀j blk,j∈qG [(i,q9.map k v l')]->qD (qP [(i,q9.map k v l')] H) j=some blk->j=i/\blk= .map k v l':=by
  intro j blk hj hg;simp only[qG,aL6] at hj;subst hj;simp only[qP,qD,aNo,aLO] at hg;exact⟨rfl,hg.symm⟩
 have perm: ∀j blk b o,j∈qG [(i,q9.map k v l')]->qD (qP [(i,q9.map k v l')] H) j=some blk->sA g j blk b o->w.heap.size<=b\/sW g H (qG [(i,q9.map k v l')]) b o:=by
  intro j blk b o hj hg ho;obtain⟨rfl,rfl⟩:=get j blk hj hg;obtain⟨q,hq,rfl⟩:=ho;rw[hp] at hq;obtain rfl:=aLS hq;exact .inr (hown o)
 refine⟨le,⟨trivial,trivial⟩,hH.upd le fr perm (fun _ _=>⟨rfl,rfl⟩) (fun j blk hj hg=> ?_) (fun j j' bi bj b o hj hj' hij hgi hgj _ _=>hij ((get j bi hj hgi).1.trans (get j' bj hj' hgj).1.symm)) (fun b o h=>by simpa using hH.sl b o h),fr,perm,fun _ _=>⟨rfl,rfl⟩,fun j u' y us h=>by
  simp only[qP,qD] at h;split at h
  .cases h
  .exact .inl ⟨y,us,h⟩⟩
 obtain⟨rfl,rfl⟩:=get j blk hj hg;exact⟨p,es',cl',hp,hp0,by simp [aNu,hlt],WA le hM,hS⟩
theorem a7b {i:Nat}{k:pP}{v:pS}(h:rJ g w (.val .mp (some i),k) v): ∃p,g.J i=some p/\v= .map (some p.1):=by
 obtain⟨p,h1,e⟩:=A4 rfl h.1;simp only[aMI,and_true] at e;exact⟨p,h1,e⟩
theorem X0 {k:Ty}:(∀ty,zJ k≠.interface ty)/\(∀n t,zJ k≠.array n t)/\(∀f,zJ k≠.struct f):=by
 cases k<;>exact⟨fun _ h=>by simp [zJ] at h,fun _ _ h=>by simp [zJ] at h,fun _ h=>by simp [zJ] at h⟩
theorem aFd {t:TypeId}{x y:Operand}{ok:Bool}(ho:o.op= .lookup t x y ok) {sx sy:qC}(hx:rJ g w sx (a.eval x)) (hy:rJ g w sy (a.eval y)) {e:qH}(hr:RJ T H ok (rK T t) sx sy=some e):rD P o a g w H e:=by
 generalize hst:rK T t=ot at hr;unfold RJ at hr;split at hr
 .rename_i el fl ar ls_ i kk;generalize hk:rK T el=ok1 at hr;generalize hv:rK T fl=ok2 at hr;unfold VY at hr;split at hr
  .rename_i kt vt k a' _;split at hr
   .rename_i hkt;unfold RI at hr;split at hr
    .rename_i k' v' l hb;split at hr
     .rename_i hkv;obtain⟨rfl,rfl⟩:=hkv;split at hr
      .rename_i hkey;obtain⟨p,es,cl,hp,hp0,hh,hM,hS⟩:=hH.blk i _ hb;obtain⟨p',hp',hxv⟩:=a7b hT hH hx;rw[hp] at hp';obtain rfl:=aLS hp';have hm:=(tD hT hst).2;simp only[xP] at hm;have hkd:=WY (tD hT hk) (hkt▸hkey);obtain⟨iv,hi1,hi2,hi3⟩:=CZ (tD hT hv);have hz:(zeroValue fl).run P w= .ok (vW vt.ty) w:=by
        simp only[zeroValue,typeInfo,aL2,aMP,hi1,hi3,aLX,aMf]
       obtain⟨f1,f2⟩:=WZ (v:=vt.ty) hkey hy.1 0 hM;rw[<-hkt] at hkd;obtain⟨p1,p2,p3⟩:=X0 hT hH (k:=k);have go: ∀{q res},Instr.findNow (zJ k) (a.eval y) es.toList 0=some q->res=IL ok (vW vt.ty) q->(execOp a.eval o).run P w= .ok (.value res) w:=by
        intro q res h1 h2;unfold execOp;rw[ho];simp only[hxv,aL2,aFb hT hH hm hh hkd p1 p2 p3 h1 hz h2,aLX,aMf]
       cases hmh:vB k vt.ty l a' with
       |false=>
        obtain⟨g1,g2,_⟩:=f1 hmh;cases ok with
        |true=>
         cases hr;refine rD.pure hH (v:= .tuple #[vW vt.ty,.bool false]) (go g1 rfl) ?_;simp only[K2,hmh,g2];exact⟨[_,_],rfl,_,[_],rfl,IJ g w _,trivial,_,[],rfl,w9 g w false,trivial,rfl⟩
        |false=>
         cases hr;refine rD.pure hH (v:=vW vt.ty) (go g1 rfl) ?_;simp only[K2,g2];exact IJ g w _
       |true=>
        obtain⟨j,e',g1,g2,g3,g4,g5⟩:=f2 hmh;cases ok with
        |true=>
         cases hr;refine rD.pure hH (v:= .tuple #[e'.val,.bool true]) (go g2 rfl) ?_;simp only[K2,hmh];exact⟨[_,_],rfl,_,[_],rfl,g3,trivial,_,[],rfl,w9 g w true,trivial,rfl⟩
        |false=>
         cases hr;refine rD.pure hH (v:=e'.val) (go g2 rfl) ?_;simp only[K2];exact g3
      .cases hr
     .cases hr
    .cases hr
   .cases hr
  .cases hr
 .rename_i el fl ar ls_ kk;generalize hk:rK T el=ok1 at hr;generalize hv:rK T fl=ok2 at hr;unfold a6h at hr;split at hr
  .rename_i kt vt k a' _;split at hr
   .rename_i hkt;split at hr
    .rename_i hkey;have hxv:a.eval x= .map none:=by
      have e1:=A4 rfl hx.1;simpa[Rd,II] using e1
     have hm:=(tD hT hst).2;simp only[xP] at hm;have hkd:=WY (tD hT hk) (hkt▸hkey);obtain⟨iv,hi1,hi2,hi3⟩:=CZ (tD hT hv);have hz:(zeroValue fl).run P w= .ok (vW vt.ty) w:=by
      simp only[zeroValue,typeInfo,aL2,aMP,hi1,hi3,aLX,aMf]
     rw[<-hkt] at hkd;obtain⟨p1,p2,p3⟩:=X0 hT hH (k:=k);have go:(execOp a.eval o).run P w= .ok (.value (IL ok (vW vt.ty) none)) w:=by
      unfold execOp;rw[ho];simp only[hxv,aL2,aFc hT hH hm hkd p1 p2 p3 hz,aLX,aMf]
     cases ok with
     |true=>
      cases hr;exact rD.pure hH (v:= .tuple #[vW vt.ty,.bool false]) go ⟨[_,_],rfl,_,[_],rfl,IJ g w _,trivial,_,[],rfl,w9 g w false,trivial,rfl⟩
     |false=>
      cases hr;exact rD.pure hH (v:=vW vt.ty) go (IJ g w _)
    .cases hr
   .cases hr
  .cases hr
 .cases hr
theorem aFe {g:Gh}{w:pR}{k:Ty}(hk:CU k=true) {x:k.den}{v:pS}(h:tJ g w k x v) (n:Nat):Instr.sameBits n v v=true:=by
 cases k with
 |int k=>rw[w7 h];cases n<;>simp [Instr.sameBits]
 |str=>rw[wG h];cases n<;>simp [Instr.sameBits,MapKept.bytes_beq]
 |bool=>rw[vL h];cases n<;>simp [Instr.sameBits]
 |_=>simp [CU] at hk
omit hT hH in
theorem a7c {T:sM}{ti:Option TI}{s:qC}{v:pS}(h:rJ g w s v):rJ g w (RL T ti s) v:=by
 unfold RL;split
 .unfold a6i;split
  .rename_i f x _;refine⟨.inr ⟨rfl,?_⟩,trivial⟩;rcases h.1 with⟨h1,_⟩ |⟨h1,vs,h2,h3⟩
   .cases h1
   .rw[show vs=[] from h2] at h3;exact h3
  .exact h
 .exact h
theorem a7d {t:TypeId}{m x y:Operand}(ho:o.op= .mapUpdate t m x y\/o.op= .insert t m x y) {sm sx sy:qC}(hm:rJ g w sm (a.eval m)) (hx:rJ g w sx (a.eval x)) (hy:rJ g w sy (a.eval y)) {e:qH}(hr:KD T H (rK T t) sm sx sy=some e):rD P o a g w H e:=by
 generalize hst:rK T t=ot at hr;unfold KD at hr;split at hr
 .rename_i el fl ar ls_ i kk;generalize hk:rK T el=ok1 at hr;unfold RK at hr;split at hr
  .rename_i kt k a' _ u b _;split at hr
   .rename_i hkt;unfold KC at hr;split at hr
    .rename_i k' v' l hb;split at hr
     .rename_i hkv;obtain⟨rfl,rfl⟩:=hkv;split at hr
      .rename_i hkey;cases hr;obtain⟨p,es,cl,hp,hp0,hh,hM,hS⟩:=hH.blk i _ hb;obtain⟨p',hp',hxv⟩:=a7b hT hH hm;rw[hp] at hp';obtain rfl:=aLS hp';have hmt:=(tD hT hst).2;simp only[xP] at hmt;have hkd:=WY (tD hT hk) (hkt▸hkey);rw[<-hkt] at hkd;obtain⟨p1,p2,p3⟩:=X0 hT hH (k:=k);have hck:(Instr.checkKey false 10000 el (a.eval x)).run P w= .ok () w:=by
        unfold Instr.checkKey;simp only[aL2,aMa hkd,aLX];generalize zJ k=kd at p1 p2 p3;cases kd<;>first|rfl|(exact absurd rfl (p1 _)) |(exact absurd rfl (p2 _ _)) |(exact absurd rfl (p3 _))
       have hfk: ∀{q},Instr.findNow (zJ k) (a.eval x) es.toList 0=some q->(Instr.findKey el (a.eval x) es.toList).run P w= .ok q w:=by
        intro q hq;unfold Instr.findKey;simp only[aL2,aMa hkd,aLX,hq,aMf]
       obtain⟨f1,f2⟩:=WZ (v:=u) hkey hx.1 0 hM;cases hmh:vB k u l a' with
       |false=>
        obtain⟨g1,_,g3⟩:=f1 hmh;refine rD.skip (w':={w with heap:=w.heap.setIfInBounds p.1 (.map (es.push ⟨a.eval x,a.eval y,cl⟩) (cl+1))}) ?_ (sB.updMap hT hH hb hp hp0 hh hS ?_)
        .unfold execOp;rcases ho with ho|ho<;>rw[ho]<;>
          simp only[Instr.mapUpdate,hxv,aL2,aMa hmt,aLX,MapKept.run_getObj_map hh,hck,hfk g1,MapKept.run_setObj_map _ hh,aMf]
        .simp only[K2,Array.toList_push];exact g3 b _ _ hy.1
       |true=>
        obtain⟨j,e',g1,g2,g3,g4,g5⟩:=f2 hmh;rw[aMs] at g2;refine rD.skip (w':={w with heap:=w.heap.setIfInBounds p.1 (.map (es.modify j fun e=>{e with key:=a.eval x,val:=a.eval y}) cl)}) ?_ (sB.updMap hT hH hb hp hp0 hh hS ?_)
        .have hj:es[j]? =some e':=by rw[<-aMT];exact g1
         unfold execOp;rcases ho with ho|ho<;>rw[ho]<;>
          simp only[Instr.mapUpdate,hxv,aL2,aMa hmt,aLX,MapKept.run_getObj_map hh,hck,hfk g2,hj,Option.map_some,aNR,g4,Instr.keyThatStays,aFe hT hH hkey hx.1,aNo,MapKept.run_setObj_map _ hh,aMf]
        .simp only[K2,Array.toList_modify];exact g5 b _ hy.1
      .cases hr
     .cases hr
    .cases hr
   .cases hr
  .cases hr
 .cases hr
end
theorem a7e {P:Program}{w:pR}{r:Nat}{s:ByteArray}{n:Nat}(hb:w.heap[r]? =some (.stringIter s n)):(getObj r).run P w= .ok (.stringIter s n) w:=by
 simp [getObj,Sem.run,hb]
theorem aFf {P:Program}{w:pR}{r:Nat}{s:ByteArray}{n:Nat}(o:Obj) (hb:w.heap[r]? =some (.stringIter s n)):(setObj r o).run P w= .ok () {w with heap:=w.heap.setIfInBounds r o}:=by
 simp [setObj,Sem.run,hb]
section
variable {P:Program}{o:Oper}{a:Act}{g:Gh}{w:pR}{H:s0}{T:sM}(hT:wV P T) (hH:sG g w H)
include hT hH
theorem sB.newIter {side:List Prop}{rds:pQ}{base:Nat}{s:pD}(hf:g.J base=none) (hc:g.cur base=fun _=>none):
  sB g w H ⟨side,(.val .ref (some (base,0)),none),[(base,.iter s 0)],rds⟩ (g.var base w.heap.size none) (w.alloc (.stringIter ⟨s.toArray⟩ 0)) (.pointer (some ⟨w.heap.size,0,none⟩)):=by
 have hJ:(g.var base w.heap.size none).J base=some ⟨w.heap.size,0,none⟩:=by simp [Gh.var]
 have le:Le g w (g.var base w.heap.size none) (w.alloc (.stringIter ⟨s.toArray⟩ 0)):=⟨fun _ _ h=>h,fun b o h=>aMe (a:=⟨b,o,none⟩) (aMp _ _ _ (hH.sl b o h)),fun i p h=>by
  show (if i=base then _ else _)=_;rw[aLU (fun e1=>by rw[e1,hf] at h;cases h)];exact h,fun _ _ _ h=>h⟩
 have fr:Fr (sW g H (qG [(base,q9.iter s 0)])) w (w.alloc (.stringIter ⟨s.toArray⟩ 0)) g.S (g.var base w.heap.size none).S:=
  ⟨rfl,rfl,rfl,by simp,fun b hb _=>aMp _ _ _ hb,fun b o hb _=>⟨aMe (a:=⟨b,o,none⟩) (aMp _ _ _ hb),aME (a:=⟨b,o,none⟩) (aMp _ _ _ hb)⟩,fun b o h=> .inl h,fun b s h=> .inl ((BM (aMp _ _ _ (BL h))).trans h)⟩
 have gho: ∀i,i∉qG [(base,q9.iter s 0)]->(g.var base w.heap.size none).J i=g.J i/\(g.var base w.heap.size none).cur i=g.cur i:=fun i hi=>⟨by
  show (if i=base then _ else _)=_;rw[aLU (fun e1=>hi (by simp [qG,e1]))],rfl⟩
 have get: ∀i blk,i∈qG [(base,q9.iter s 0)]->qD (qP [(base,q9.iter s 0)] H) i=some blk->i=base/\blk= .iter s 0:=by
  intro i blk hi hg;simp only[qG,aL6] at hi;subst hi;simp only[qP,qD,aNo,aLO] at hg;exact⟨rfl,hg.symm⟩
 have perm: ∀i blk b o,i∈qG [(base,q9.iter s 0)]->qD (qP [(base,q9.iter s 0)] H) i=some blk->sA (g.var base w.heap.size none) i blk b o->w.heap.size<=b\/sW g H (qG [(base,q9.iter s 0)]) b o:=by
  intro i blk b o hi hg ho;obtain⟨rfl,rfl⟩:=get i blk hi hg;obtain⟨p,hp,h1⟩:=ho;rw[hJ] at hp;obtain rfl:=aLS hp;exact .inl (aNj h1.symm)
 refine⟨le,⟨.inr ⟨rfl,_,hJ,rfl⟩,trivial⟩,hH.upd le fr perm gho (fun i blk hi hg=> ?_) (fun i j bi bj b o hi hj hij hgi hgj _ _=>hij ((get i bi hi hgi).1.trans (get j bj hj hgj).1.symm)) (fun b o h=>aMu (hH.sl b o h) pI),fr,perm,gho,fun i u' y us h=>by
  simp only[qP,qD] at h;split at h
  .cases h
  .exact .inl ⟨y,us,h⟩⟩
 obtain⟨rfl,rfl⟩:=get i blk hi hg;refine⟨⟨w.heap.size,0,none⟩,hJ,rfl,?_,fun o hs=>aNp _ (hH.sl _ _ hs)⟩;show (w.heap.push (.stringIter ⟨s.toArray⟩ 0))[w.heap.size]? =_;rw[aNF]
theorem sB.updIter {side:List Prop}{rds:pQ}{i:Nat}{s:pD}{n n':Nat}{d:qC}{val:pS}{p:Pl}(hi:qD H i=some (.iter s n)) (hp:g.J i=some p) (hp0:p.2=0) (hb:w.heap[p.1]? =some (.stringIter ⟨s.toArray⟩ n)) (hS: ∀o,¬g.S p.1 o) (hd:rJ g {w with heap:=w.heap.setIfInBounds p.1 (.stringIter ⟨s.toArray⟩ n')} d val):
  sB g w H ⟨side,d,[(i,.iter s n')],rds⟩ g {w with heap:=w.heap.setIfInBounds p.1 (.stringIter ⟨s.toArray⟩ n')} val:=by
 have hlt:p.1<w.heap.size:=(aMi.1 hb).1;have hoth: ∀b,b≠p.1->(w.heap.setIfInBounds p.1 (.stringIter ⟨s.toArray⟩ n'))[b]? =w.heap[b]? :=fun b hne=>by rw[aNa (Ne.symm hne)]
 have hown: ∀o,sW g H (qG [(i,q9.iter s n')]) p.1 o:=fun o=>⟨i,_,by simp [qG],hi,p,hp,rfl⟩;have le:Le g w g {w with heap:=w.heap.setIfInBounds p.1 (.stringIter ⟨s.toArray⟩ n')}:=⟨fun _ _ h=>h,fun b o h=>aMe (a:=⟨b,o,none⟩) (hoth b (fun e=>hS o (e▸h))),fun _ _ h=>h,fun _ _ _ h=>h⟩
 have fr:Fr (sW g H (qG [(i,q9.iter s n')])) w {w with heap:=w.heap.setIfInBounds p.1 (.stringIter ⟨s.toArray⟩ n')} g.S g.S:=
  ⟨rfl,rfl,rfl,by simp,fun b _ hn=>hoth b (fun e=>hn 0 (e▸hown 0)),fun b o _ hn=>⟨aMe (a:=⟨b,o,none⟩) (hoth b (fun e=>hn (e▸hown o))),aME (a:=⟨b,o,none⟩) (hoth b (fun e=>hn (e▸hown o)))⟩,fun b o h=> .inl h,fun b s h=>(by
   by_cases e:b=p.1
   .exact .inr fun o=>e▸hown o
   .exact .inl ((BM (hoth b e)).trans h))⟩
 have get: ∀j blk,j∈qG [(i,q9.iter s n')]->qD (qP [(i,q9.iter s n')] H) j=some blk->j=i/\blk= .iter s n':=by
  intro j blk hj hg;simp only[qG,aL6] at hj;subst hj;simp only[qP,qD,aNo,aLO] at hg;exact⟨rfl,hg.symm⟩
 have perm: ∀j blk b o,j∈qG [(i,q9.iter s n')]->qD (qP [(i,q9.iter s n')] H) j=some blk->sA g j blk b o->w.heap.size<=b\/sW g H (qG [(i,q9.iter s n')]) b o:=by
  intro j blk b o hj hg ho;obtain⟨rfl,rfl⟩:=get j blk hj hg;obtain⟨q,hq,rfl⟩:=ho;rw[hp] at hq;obtain rfl:=aLS hq;exact .inr (hown o)
 refine⟨le,hd,hH.upd le fr perm (fun _ _=>⟨rfl,rfl⟩) (fun j blk hj hg=> ?_) (fun j j' bi bj b o hj hj' hij hgi hgj _ _=>hij ((get j bi hj hgi).1.trans (get j' bj hj' hgj).1.symm)) (fun b o h=>by simpa using hH.sl b o h),fr,perm,fun _ _=>⟨rfl,rfl⟩,fun j u' y us h=>by
  simp only[qP,qD] at h;split at h
  .cases h
  .exact .inl ⟨y,us,h⟩⟩
 obtain⟨rfl,rfl⟩:=get j blk hj hg;exact⟨p,hp,hp0,by simp [aNu,hlt],hS⟩
theorem aFg {t:TypeId}{x:Operand}(ho:o.op= .range t x) {sx:qC}(hx:rJ g w sx (a.eval x)) {base:Nat}{e:qH}(hr:W3 base (rK T t) sx=some e) (hf:yG g base e):rD P o a g w H e:=by
 generalize hst:rK T t=ot at hr;unfold W3 at hr;split at hr
 .rename_i el b ar ls s k;cases hr;have hfr:=hf base (by simp [qG]) (aMc _);have hv:=wG hx.1;have hu:=(tD hT hst).2;simp only[xP] at hu;refine rD.value (v:= .pointer (some ⟨w.heap.size,0,none⟩)) (w':=w.alloc (.stringIter ⟨s.toArray⟩ 0)) ?_ (sB.newIter hT hH hfr.1 (funext hfr.2));unfold execOp;rw[ho];simp only[Instr.range,hv,aL2,aMa hu,run_newObj,aLX,aMf];rfl
 .cases hr
theorem aFh {x:Operand}{b:Bool}(ho:o.op= .next x b) {sx:qC}(hx:rJ g w sx (a.eval x)) {e:qH}(hr:RM H b sx=some e):rD P o a g w H e:=by
 unfold RM at hr;split at hr
 .rename_i i k;unfold W4 at hr;split at hr
  .rename_i s n hb;cases hr;obtain⟨p,hp,hp0,hh,hS⟩:=hH.blk i _ hb;obtain⟨q,hq,hv⟩:=yX hx.1;rw[hp] at hq;obtain rfl:=aLS hq;rw[hp0] at hv;by_cases hl:n<s.length
   .have hsz:n<(⟨s.toArray⟩:ByteArray).size:=by simpa[ByteArray.size] using hl
    refine rD.value (v:= .tuple #[.bool true,.int .i64 (n:Int),.int .i32 (wT s n)]) (w':={w with heap:=w.heap.setIfInBounds p.1 (.stringIter ⟨s.toArray⟩ (A2 s n))}) ?_ (sB.updIter hT hH hb hp hp0 hh hS ⟨⟨fun _=>rfl,fun h=>absurd hl (of_decide_eq_false h)⟩,trivial⟩)
    unfold execOp;rw[ho];have hrn:A2 s n=n+(Utf8.decode ⟨s.toArray⟩ n).2:=by unfold A2 VZ;rw[aLQ hl]
    simp only[Instr.next,hv,aL2,a7e hh,aLX,hsz,aNo,aFf _ hh,aMf,hrn];rfl
   .have hsz: ¬n<(⟨s.toArray⟩:ByteArray).size:=by simpa[ByteArray.size] using hl
    have hrn:A2 s n=n:=by unfold A2;rw[aLU hl]
    have hw:({w with heap:=w.heap.setIfInBounds p.1 (.stringIter ⟨s.toArray⟩ (A2 s n))}:pR)=w:=by
     rw[hrn];have:w.heap.setIfInBounds p.1 (.stringIter ⟨s.toArray⟩ n)=w.heap:=by
      obtain⟨h1,h2⟩:=aMi.1 hh;apply Array.ext_getElem?;intro j;rw[aNu];split
      .rename_i hj;subst hj;first|rw[hh] |rw[aLQ h1,hh]
      .rfl
     rw[this]
    refine rD.value (v:= .tuple #[.bool false]) (w':={w with heap:=w.heap.setIfInBounds p.1 (.stringIter ⟨s.toArray⟩ (A2 s n))}) ?_ (sB.updIter hT hH hb hp hp0 hh hS ⟨⟨fun h=>absurd (aMv h) hl,fun _=>rfl⟩,trivial⟩)
    rw[hw];unfold execOp;rw[ho];simp only[Instr.next,hv,aL2,a7e hh,aLX,hsz,aNT,aMf]
  .cases hr
 .cases hr
end
def qM:Nat->List q9->s0
 |_,[]=>[]
 |c,b::L=>(c,b)::qM (c+1) L
theorem S7: ∀(L:List q9) (c i:Nat),qD (qM c L) i=if c<=i then L[i-c]? else none
 |[],c,i=>by simp [qM,qD]
 |b::L,c,i=>by
  simp only[qM,qD];by_cases h:c=i
  .subst h;simp
  .rw[aLU h,S7 L (c+1) i];by_cases h2:c<=i
   .rw[aLQ h2,aLQ pG];obtain⟨d,hd⟩: ∃d,i-c=d+1:=⟨i-c-1,pG⟩;rw[hd,aMx];congr 1;omega
   .rw[aLU h2,aLU pG]
theorem wW (L:List q9) (i:Nat):qD (qM 0 L) i=L[i]? :=by rw[S7];simp
def xQ (g:Gh) (H:s0) (b o:Nat):Prop:= ∃i blk,qD H i=some blk/\sA g i blk b o
def uX (g:Gh) (w:pR):List qC->pN->Prop
 |[],vs=>vs=[]
 |s::ss,vs=> ∃v vs',vs=v::vs'/\rJ g w s v/\uX g w ss vs'
def NP (g:Gh) (w:pR):List qC->pS->Prop
 |[s],v=>rJ g w s v
 |l,v=> ∃vs:pN,v= .tuple vs.toArray/\uX g w l vs
structure D1 (g:Gh) (w:pR) (L:List q9) (r:qI) (g':Gh) (w':pR) (v:pS):Prop where
 shut: ∀b o,g.S b o->g'.S b o/\w'.cell? ⟨b,o,none⟩=w.cell? ⟨b,o,none⟩
 heap:sG g' w' (qM 0 r.H)
 ret:NP g' w' r.ret v
 fr:Fr (xQ g (qM 0 L)) w w' g.S g'.S
 perm: ∀i blk b o,r.H[i]? =some blk->sA g' i blk b o->w.heap.size<=b\/xQ g (qM 0 L) b o
 J: ∀(i:Nat) t x ts,L[i]? =some (.cells t x ts)->g'.J i=g.J i
 ty: ∀(i:Nat) t x ts u y us,L[i]? =some (.cells t x ts)->r.H[i]? =some (.cells u y us)->u=t
 Jt: ∀i p,i<L.length->g.J i=some p->g'.J i=some p
 cur: ∀i n u,i<L.length->g.cur i n=some u->g'.cur i n=some u
def xR (P:Program) (f:FuncId) (C:List qC->List q9->Option qI):Prop:=
 (∀args w,(callFunc f args).run P w= .ok (.enter f args) w)/\
 ∀(g:Gh) (w:pR) (args:List qC) (vals:pN) (L:List q9) (r:qI),sG g w (qM 0 L)->uX g w args vals->C args L=some r->(∀p∈r.side,p)->
  Calls P f vals.toArray w (fun e w'=> ∃v g',e= .returned v/\D1 g w L r g' w' v)
def S8 (P:Program) (f:FuncId) (F:(t:Ty)->List t.den->Option (List t.den)):Prop:=
 ∀(g:Gh) (w:pR) (e:TypeId) (t:Ty) (l l':List t.den) (v:pS) (n:Nat) (xs:pN),CP w->w.ownsRow 0 e t.cells v n xs->tV (Rd g w t) t.cells l xs->l.length=n->n<4611686018427387904->F t l=some l'->
  Calls P f #[v] w (fun en w'=>en= .returned (.tuple #[])/\l'.length=n/\∃xs',w'.ownsRow 0 e t.cells v n xs'/\tV (Rd g w t) t.cells l' xs'/\w.grownBy w' v.ownBlock)
def D2 (P:Program) (Γ:tX):Prop:= ∀f s,f<1000000000->Γ f=some s->xR P f s.C/\∀F,s.row=some F->S8 P f F
theorem a7f {g:Gh}{w:pR}{t:Ty}{x:t.den}{v:pS}{k:pP}(h:rJ g w (.val t x,k) v):rJ g w (.val t x,DQ t k) v:=by
 refine⟨h.1,?_⟩;cases t with
 |list u=>exact h.2
 |_=>trivial
theorem aFi {t:Ty}{k:pP}: ∀c,DQ t k=some c->∃u,t= .list u:=by
 cases t with
 |list u=>exact fun _ _=>⟨u,rfl⟩
 |_=>intro c h;cases h
theorem S9 {g g':Gh}{w:pR}(hS:g'.S=g.S) {t:Ty}(hp:t.pure=true) {x:t.den}{v:pS}{k k':pP}(hl: ∀c,k=some c->∃u,t= .list u) (h:rJ g w (.val t x,k) v) (hk: ∀c,k=some c->∃c',k'=some c'/\∀n u,g.cur c n=some u->g'.cur c' n=some u) (hk0:k=none->k'=none):rJ g' w (.val t x,k') v:=by
 have hv:tJ g' w t x v:=h.1.imp (fun⟨a,cs,e,q⟩=>⟨a,cs,e,vT hS hp q⟩) (fun⟨a,q⟩=>⟨a,vT hS hp q⟩);refine⟨hv,?_⟩;cases k with
 |none=>rw[hk0 rfl];trivial
 |some c=>
  obtain⟨c',rfl,h2⟩:=hk c rfl;have h1:=h.2;cases t with
  |list u=>exact h2 _ _ h1
  |pair a b=>obtain⟨u,e⟩:=hl c rfl;cases e
  |_=>exact h1.elim
section
variable {P:Program}{o:Oper}{a:Act}{g:Gh}{w:pR}{H:s0}{T:sM}{Γ:tX}(hT:wV P T) (hΓ:D2 P Γ) (hH:sG g w H)
include hT hΓ hH
theorem X1 {ti:Option TI}{s:qC}{v:pS}(h:rJ g w s v):rJ g w (K3 ti s) v:=by
 unfold K3;split
 .have:v= .slice none 0 0:=h.1;subst this;exact⟨.inr ⟨rfl,none,0,rfl,aMc _,.inl rfl⟩,trivial⟩
 .exact h
theorem a7g {ρ:Operand->qC}: ∀{xs:List Operand}{ts:List TypeId},xs.length=ts.length->(∀x∈xs,rJ g w (ρ x) (a.eval x))->uX g w (EX T ρ xs ts) (xs.map a.eval)
 |[],[],_,_=>rfl
 |x::xs,t::ts,h,hx=>⟨_,_,rfl,X1 hT hΓ hH (hx x pI),a7g (by simpa using h) (fun y hy=>hx y (by simp [hy]))⟩
theorem aFj {l m:List qC}{vs us:pN}(h:uX g w l vs) (k:uX g w m us):uX g w (l++m) (vs++us):=by
 induction l generalizing vs with
 |nil=>rw[show vs=[] from h];exact k
 |cons s l ih=>
  obtain⟨v,vs',rfl,h1,h2⟩:=h;exact⟨v,_,rfl,h1,ih h2⟩
theorem a7h: ∀{caps:pL}{vs:pN},xO g caps vs->uX g w (VU caps) vs
 |[],_,h=>h
 |(i,o)::caps,_,⟨p,vs',h1,h2,h3⟩=>⟨_,_,h2,⟨.inr ⟨rfl,p,h1,rfl⟩,trivial⟩,a7h h3⟩
end
theorem a7i {P:Program}{o:Oper}{a:Act}{f:FuncId}{fop:Operand}{args:Array Operand}{tys:Array TypeId}(ho:o.op= .call ⟨.value fop,args,tys⟩) {caps:pN}(hf:a.eval fop= .func (.func f) #[] caps.toArray)
  (hen: ∀args w,(callFunc f args).run P w= .ok (.enter f args) w) {w:pR}{K:Act->pR->Prop}{Q:Exit->Act->pR->Prop}
  (h:Calls P f ((args.toList.map a.eval)++caps).toArray w (fun e w'=> ∃v,e= .returned v/\K (a.put o.dst v) w')):o.wp P a w K Q:=by
 unfold Oper.wp;have:(execOp a.eval o).run P w= .ok (.enter f ((args.toList.map a.eval)++caps).toArray) w:=by
  unfold execOp;rw[ho];simp only[resolve,hf,Deferred.ofValue,aL2,aMf,aLX,invoke];rw[hen];congr 2;apply aMV.1;simp
 rw[this];unfold Oper.upon;refine h.mono fun e w' ⟨v,he,hk⟩=> ?_;subst he;exact hk
def vY (g:Gh):Option rH->Option Pl
 |some (.box i _ _ _ o)=>(g.J i).map fun p=>⟨p.1,p.2+o,p.3⟩
 |some (.tok k)=>g.J k
 |none=>none
def AM (g:Gh):Option rH->Nat->Option pS
 |some (.tok k),n=>g.cur k n
 |_,_=>none
def vD (g:Gh) (ws:List rH):Gh:=⟨g.S,fun c=>vY g ws[c]?,fun c n=>AM g ws[c]? n⟩
def SA (H:s0) (ws:List rH):rH->q9->Prop
 | .box i u x toks o,.cells t y ts=>qD H i=some (.cells u x toks)/\rC t u x o=some y/\∀q n,(q,n)∈ts->∃k,ws[n]? =some (.tok k)/\wS toks (o+q)=some k/\q<t.cells
 | .tok k,.grow e c m=>qD H k=some (.grow e c m)
 | .tok k,.map s t l=>qD H k=some (.map s t l)/\s.pure=true/\t.pure=true
 | .tok k,.row e t l n=>qD H k=some (.row e t l n)/\t.pure=true
 |_,_=>False
structure F3 (H:s0) (ws:List rH) (L:List q9):Prop where
 len:ws.length=L.length
 ok: ∀(c:Nat) wh b,ws[c]? =some wh->L[c]? =some b->SA H ws wh b
 nodup:(sF ws).Nodup
def X2 (ws:List rH) (t:Ty) (x y:t.den):Prop:=(t.pure=true/\y=x)\/C3 ws t x=some y
def SB (H:s0) (ws:List rH):rH->q9->Prop
 | .box i u x toks o,.cells t y ts=>qD H i=some (.cells u x toks)/\(∃y0,rC t u x o=some y0/\X2 ws t y0 y)/\∀q n,(q,n)∈ts->∃k,ws[n]? =some (.tok k)/\wS toks (o+q)=some k/\q<t.cells
 | .tok k,.grow e c m=>qD H k=some (.grow e c m)
 | .tok k,.map s t l=>qD H k=some (.map s t l)/\s.pure=true/\t.pure=true
 | .tok k,.row e t l n=>qD H k=some (.row e t l n)/\t.pure=true
 |_,_=>False
theorem SC {i o:Nat}: ∀{ws:List rH}{c0:Nat}{c q:Nat},ET i o ws c0=some (c,q)->∃d u x toks oc,c=c0+d/\ws[d]? =some (.box i u x toks oc)/\o=oc+q
 |[],_,_,_,h=>by simp [ET] at h
 | .box j u x toks oc::r,c0,c,q,h=>by
  simp only[ET] at h;split at h
  .rename_i hc;simp only[aLO,aMl] at h;obtain⟨rfl,rfl⟩:=h;obtain⟨rfl,h2⟩:=hc;exact⟨0,u,x,toks,oc,rfl,rfl,pG⟩
  .obtain⟨d,u',x',toks',oc',h1,h2,h3⟩:=SC h;exact⟨d+1,u',x',toks',oc',pG,by simpa using h2,h3⟩
 | .tok k::r,c0,c,q,h=>by
  simp only[ET] at h;obtain⟨d,u',x',toks',oc',h1,h2,h3⟩:=SC h;exact⟨d+1,u',x',toks',oc',pG,by simpa using h2,h3⟩
theorem KS {i:Nat}: ∀{ws:List rH}{c0 c:Nat},w5 i ws c0=some c->∃d,c=c0+d/\ws[d]? =some (.tok i)
 |[],_,_,h=>by simp [w5] at h
 | .tok j::r,c0,c,h=>by
  simp only[w5] at h;split at h
  .rename_i hc;simp only[aLO] at h;subst h;subst hc;exact⟨0,rfl,rfl⟩
  .obtain⟨d,h1,h2⟩:=KS h;exact⟨d+1,pG,by simpa using h2⟩
 | .box _ _ _ _ _::r,c0,c,h=>by
  simp only[w5] at h;obtain⟨d,h1,h2⟩:=KS h;exact⟨d+1,pG,by simpa using h2⟩
theorem X3 {α β:Type}{a:Option α}{b:Option β}{p:α×β}(h:I1 a b=some p):a=some p.1/\b=some p.2:=by
 cases a<;>cases b<;>simp [I1] at h
 subst h;exact⟨rfl,rfl⟩
theorem aFk {x y:Option (Nat×pL)}(h:MP x=some y):y=x/\∀f l,x=some (f,l)->l=[]:=by
 unfold MP at h;split at h
 .cases h;exact⟨rfl,fun _ _ h=>by cases h⟩
 .cases h;exact⟨rfl,fun _ _ h=>by cases h;rfl⟩
 .cases h
theorem aFl {g g':Gh}{x:Option (Nat×pL)}{cs:pN}(hx: ∀f l,x=some (f,l)->l=[]) (h:NB g x cs):NB g' x cs:=by
 cases x with
 |none=>exact h
 |some q=>
  obtain⟨f,l⟩:=q;obtain rfl:=hx f l rfl;exact h
theorem SD {g g':Gh}{w:pR}(hS:g'.S=g.S) (f:(t:Ty)->t.den->Option t.den)
  (hp: ∀a b x,f (.pair a b) x=I1 (if a.pure=true then some x.1 else f a x.1) (if b.pure=true then some x.2 else f b x.2))
  (hl: ∀t x,f (.list t) x=if t.pure=true then some x else none) (hb: ∀x,f .bool x=some x) (hi: ∀k x,f (.int k) x=some x) (hs: ∀x,f .str x=some x) (hu: ∀x,f .unit x=some x) (hfn: ∀x,f .fn x=some x) (hrl: ∀e t x y cs,f (.rl e t) x=some y->DW g x cs->DW g' y cs) (hmr: ∀x y cs,f .mref x=some y->NC g x cs->NC g' y cs)
  (hr: ∀x y cs,f .ref x=some y->NA g x cs->NA g' y cs) (hm: ∀x y cs,f .mp x=some y->II g x cs->II g' y cs) (hc: ∀x,f .clo x=MP x):
  ∀{t:Ty}{x y:t.den}{cs:pN},Rd g w t x cs->f t x=some y->Rd g' w t y cs
 | .bool,_,_,_,r,h=>by rw[hb] at h;cases h;exact r
 | .int _,_,_,_,r,h=>by rw[hi] at h;cases h;exact r
 | .str,_,_,_,r,h=>by rw[hs] at h;cases h;exact r
 | .unit,_,_,_,r,h=>by rw[hu] at h;cases h;exact r
 | .rl e t,x,y,_,r,h=>hrl e t x y _ h r
 | .fn,_,_,_,r,h=>by rw[hfn] at h;cases h;exact r
 | .mref,x,y,_,r,h=>hmr x y _ h r
 | .list t,x,y,_,r,h=>by
  rw[hl] at h;split at h
  .rename_i hpu;cases h;exact vT hS (t:= .list t) (by simpa[Ty.pure] using hpu) r
  .cases h
 | .ref,x,y,_,r,h=>hr x y _ h r
 | .clo,x,y,_,r,h=>by
  rw[hc] at h;obtain⟨rfl,h2⟩:=aFk h;exact aFl h2 r
 | .mp,x,y,_,r,h=>hm x y _ h r
 | .pair a b,x,y,_,⟨c1,c2,e,r1,r2⟩,h=>by
  rw[hp] at h;obtain⟨h1,h2⟩:=X3 h;refine⟨c1,c2,e,?_,?_⟩
  .split at h1
   .rename_i hpu;exact(aLS h1)▸vT hS hpu r1
   .exact SD hS f hp hl hb hi hs hu hfn hrl hmr hr hm hc r1 h1
  .split at h2
   .rename_i hpu;exact(aLS h2)▸vT hS hpu r2
   .exact SD hS f hp hl hb hi hs hu hfn hrl hmr hr hm hc r2 h2
theorem X4 (f:(t:Ty)->t.den->Option t.den)
  (hp: ∀a b x,f (.pair a b) x=I1 (if a.pure=true then some x.1 else f a x.1) (if b.pure=true then some x.2 else f b x.2))
  (hl: ∀t x,f (.list t) x=if t.pure=true then some x else none) {u:Ty}: ∀{t:Ty}{x y:t.den}{o:Nat}{l:List u.den},f t x=some y->rC (.list u) t x o=some l->rC (.list u) t y o=some l:=by
 intro t
 induction t with
 |pair a b iha ihb=>
  intro x y o l h hg;rw[hp] at h;obtain⟨h1,h2⟩:=X3 h;have key: ∀z:(Ty.pair a b).den,∀q,rC (.list u) (.pair a b) z q=if q<a.cells then rC (.list u) a z.1 q else rC (.list u) b z.2 (q-a.cells):=by
   intro z q;cases q with
   |zero=>
    conv=>lhs;unfold rC
    rw[aNr (by intro e;cases e),Nat.zero_sub]
   |succ q=>simp [rC]
  rw[key] at hg|-;split
  .rename_i ho;rw[aLQ ho] at hg;split at h1
   .rw[<-aLS h1];exact hg
   .exact iha h1 hg
  .rename_i ho;rw[aLU ho] at hg;split at h2
   .rw[<-aLS h2];exact hg
   .exact ihb h2 hg
 |list v=>
  intro x y o l h hg;rw[hl] at h;split at h
  .cases h;exact hg
  .cases h
 |_=>
  intro x y o l h hg;cases o with
  |zero=>
   unfold rC at hg;split at hg
   .rename_i e;cases e
   .cases hg
  |succ o=>simp [rC] at hg
theorem aFm {g:Gh}{w:pR}{ws:List rH}{t:Ty}{x y:t.den}{cs:pN}(r:Rd g w t x cs) (h:C3 ws t x=some y):Rd (vD g ws) w t y cs:=by
 refine SD (g:=g) (g':=vD g ws) rfl (C3 ws) (fun a b x=>rfl) (fun t x=>rfl) (fun _=>rfl) (fun _ _=>rfl) (fun _=>rfl) (fun _=>rfl) (fun _=>rfl) (fun _ _ x y cs h r=> ?_) (fun x y cs h r=> ?_) (fun x y cs h r=> ?_) (fun x y cs h r=> ?_) (fun _=>rfl) r h
 .cases x with
  |none=>cases h;exact r
  |some q=>
   obtain⟨k,n⟩:=q;simp only[C3,a5S] at h;cases hc:w5 k ws 0 with
   |none=>rw[hc] at h;cases h
   |some c=>
    rw[hc] at h;cases h;obtain⟨d,rfl,h2⟩:=KS hc;obtain⟨v,hv,hs⟩:=r;refine⟨v,?_,hs⟩;show AM g ws[0+d]? n=_;rw[aMs,h2];exact hv
 .cases x with
  |none=>cases h;exact r
  |some q=>
   obtain⟨i,o⟩:=q;simp only[C3,QJ] at h;cases hc:ET i o ws 0 with
   |none=>rw[hc] at h;cases h
   |some q=>
    obtain⟨c,q⟩:=q;rw[hc] at h;cases h;obtain⟨d,u,x,toks,oc,rfl,h2,rfl⟩:=SC hc;obtain⟨p,hp,hv⟩:=r;refine⟨⟨p.1,p.2+oc,p.3⟩,?_,by have:=hv.1;rwa [<-aMy] at this,hv.2.imp id fun hv=>by rw[hv];simp [aMy]⟩;show vY g ws[0+d]? =_;rw[aMs,h2];simp [vY,hp]
 .cases x with
  |none=>cases h;exact r
  |some q=>
   obtain⟨i,o⟩:=q;simp only[C3,QJ] at h;cases hc:ET i o ws 0 with
   |none=>rw[hc] at h;cases h
   |some q=>
    obtain⟨c,q⟩:=q;rw[hc] at h;cases h;obtain⟨d,u,x,toks,oc,rfl,h2,rfl⟩:=SC hc;obtain⟨p,hp,hv⟩:=r;refine⟨⟨p.1,p.2+oc,p.3⟩,?_,by rw[hv];simp [aMy]⟩;show vY g ws[0+d]? =_;rw[aMs,h2];simp [vY,hp]
 .cases x with
  |none=>cases h;exact r
  |some i=>
   simp only[C3,a5R] at h;cases hc:w5 i ws 0 with
   |none=>rw[hc] at h;cases h
   |some c=>
    rw[hc] at h;cases h;obtain⟨d,rfl,h2⟩:=KS hc;obtain⟨p,hp,hv⟩:=r;refine⟨p,?_,hv⟩;show vY g ws[0+d]? =_;rw[aMs,h2];exact hp
theorem aFn {g:Gh}{w:pR}{ws:List rH}{t:Ty}{x y:t.den}{cs:pN}(h:X2 ws t x y) (r:Rd g w t x cs):Rd (vD g ws) w t y cs:=by
 rcases h with⟨hp,rfl⟩ |h
 .exact vT (g:=g) (g':=vD g ws) rfl hp r
 .exact aFm r h
theorem aFo {ws:List rH}{t u:Ty}{x y:t.den}{o:Nat}{l:List u.den}(h:X2 ws t x y) (hg:rC (.list u) t x o=some l):rC (.list u) t y o=some l:=by
 rcases h with⟨_,rfl⟩ |h
 .exact hg
 .exact X4 (C3 ws) (fun _ _ _=>rfl) (fun _ _=>rfl) h hg
structure NQ (H:s0) (ws:List rH) (L:List q9):Prop where
 len:ws.length=L.length
 ok: ∀(c:Nat) wh b,ws[c]? =some wh->L[c]? =some b->SB H ws wh b
 nodup:(sF ws).Nodup
theorem X5: ∀(ws:List rH) (c:Nat),(sF ws)[c]? =(ws[c]?).map rH.id
 |[],c=>by simp [sF]
 |w::ws,0=>rfl
 |w::ws,c+1=>by simpa[sF] using X5 ws c
theorem GQ: ∀ws ws':List rH,sF (ws++ws')=sF ws++sF ws'
 |[],_=>rfl
 |w::ws,ws'=>by simp [sF,GQ ws ws']
theorem GR: ∀{i:Nat}{l:pQ},BA i l=true↔i∈l
 |i,[]=>by simp [BA]
 |i,j::r=>by
  simp only[BA,aL3];by_cases h:i=j
  .simp [h]
  .rw[aLU h,GR];simp [h]
theorem SE {ws:List rH}(h:(sF ws).Nodup) {c c':Nat}{x y:rH}(hx:ws[c]? =some x) (hy:ws[c']? =some y) (he:x.id=y.id):c=c':=by
 have h1:(sF ws)[c]? =some x.id:=by rw[X5,hx];rfl
 have h2:(sF ws)[c']? =some x.id:=by rw[X5,hy,he];rfl
 obtain⟨l1,e1⟩:=aL1.1 h1;obtain⟨l2,e2⟩:=aL1.1 h2;have hp:=aM3.1 h;rcases Nat.lt_trichotomy c c' with h3|h3|h3
 .exact absurd (e1.trans e2.symm) (hp c c' l1 l2 h3)
 .exact h3
 .exact absurd (e2.trans e1.symm) (hp c' c l2 l1 h3)
theorem a7j: ∀{toks:pL}{q k:Nat},wS toks q=some k->(q,k)∈toks
 |[],_,_,h=>by simp [wS] at h
 |(q',k')::r,q,k,h=>by
  simp only[wS] at h;split at h
  .rename_i e;subst e;simp only[aLO] at h;subst h;simp
  .exact aL5 _ (a7j h)
theorem aFp {v t:Ty}: ∀{u:Ty}{x:u.den}{o q:Nat}{y:t.den}{l:(Ty.list v).den},rC t u x o=some y->rC (.list v) u x (o+q)=some l->q<t.cells->rC (.list v) t y q=some l:=by
 intro u
 induction u with
 |pair a b iha ihb=>
  intro x o q y l h g hq;by_cases hu:o=0/\t= .pair a b
  .obtain⟨rfl,rfl⟩:=hu;unfold rC at h;rw[aNP rfl] at h;simp only[uF,aLO] at h;subst h;simpa using g
  .have keyh:(if o<a.cells then rC t a x.1 o else rC t b x.2 (o-a.cells))=some y:=by
    cases o with
    |zero=>
     unfold rC at h;rw[aNr (fun e=>hu ⟨rfl,e.symm⟩)] at h;simpa using h
    |succ o=>simpa[rC] using h
   have keyg: ∀z,rC (.list v) (.pair a b) x z=(if z<a.cells then rC (.list v) a x.1 z else rC (.list v) b x.2 (z-a.cells)):=by
    intro z;cases z with
    |zero=>
     conv=>lhs;unfold rC
     rw[aNr (by intro e;cases e),Nat.zero_sub]
    |succ z=>simp [rC]
   rw[keyg] at g;by_cases ho:o<a.cells
   .rw[aLQ ho] at keyh;have hfit:o+t.cells<=a.cells:=by
     have: ∀{u:Ty}{x:u.den}{o:Nat}{y:t.den},rC t u x o=some y->o+t.cells<=u.cells:=by
      intro u
      induction u with
      |pair a b iha ihb=>
       intro x o y h;have key: ∀o,(if o<a.cells then rC t a x.1 o else rC t b x.2 (o-a.cells))=some y->o+t.cells<=a.cells+b.cells:=by
        intro o h;by_cases ho:o<a.cells
        .rw[aLQ ho] at h;have:=iha h;omega
        .rw[aLU ho] at h;have:=ihb h;omega
       cases o with
       |zero=>
        unfold rC at h;split at h
        .rename_i e;subst e;simp
        .exact key 0 (by simpa using h)
       |succ o=>exact key (o+1) (by simpa[rC] using h)
      |_=>
       intro x o y h;cases o with
       |zero=>
        unfold rC at h;split at h
        .rename_i e;subst e;simp
        .simp at h
       |succ o=>simp [rC] at h
     exact this keyh
    rw[aLQ pG] at g;exact iha keyh g hq
   .rw[aLU ho] at keyh;rw[aLU pG,show o+q-a.cells=o-a.cells+q from by omega] at g;exact ihb keyh g hq
 |_=>
  intro x o q y l h g hq;cases o with
  |zero=>
   unfold rC at h;split at h
   .rename_i e;subst e;simp only[uF,aLO] at h
    try subst h
    simpa using g
   .simp at h
  |succ o=>simp [rC] at h
theorem aFq {g:Gh}{w:pR}{H:s0}{ws:List rH}{L:List q9}(hH:sG g w H) (hm:NQ H ws L):sG (vD g ws) w (qM 0 L):=by
 have wsL: ∀c b,qD (qM 0 L) c=some b->∃wh,ws[c]? =some wh/\SB H ws wh b:=by
  intro c b h;rw[wW] at h;have hlt:c<ws.length:=hm.len▸(aL1.1 h).1;exact⟨ws[c],aLZ hlt,hm.ok c _ b (aLZ hlt) h⟩
 have own: ∀c b wh,ws[c]? =some wh->SB H ws wh b->∀bb oo,sA (vD g ws) c b bb oo->∃blk,qD H wh.id=some blk/\sA g wh.id blk bb oo:=by
  intro c b wh hwh hw bb oo ho;cases wh with
  |box i u x toks off=>
   cases b with
   |cells t y ts=>
    obtain⟨h1,⟨y0,h2,h3⟩,h4⟩:=hw;obtain⟨p,hp,e1,e2,e3⟩:=ho;have hp':vY g ws[c]? =some p:=hp;rw[hwh] at hp';obtain⟨p0,hp0,rfl⟩:=aLW.1 hp';obtain⟨p1,cs,hp1,hR,_⟩:=hH.blk i _ h1;obtain⟨c1,c2,c3,hcs,hl,hR2⟩:=CW hR h2;have l1:=sV hR;have l2:=sV hR2;rw[hcs] at l1;simp only[aLT] at l1;exact⟨_,h1,p0,hp0,e1,by simp at e2;omega,by simp at e3;omega⟩
   |_=>exact hw.elim
  |tok k=>
   cases b with
   |grow e cc m=>
    obtain⟨v,hv,hb⟩:=ho;have hv':AM g ws[c]? m=some v:=hv;rw[hwh] at hv';exact⟨_,hw,v,hv',hb⟩
   |map s t l=>
    obtain⟨p,hp,hb⟩:=ho;have hp':vY g ws[c]? =some p:=hp;rw[hwh] at hp';exact⟨_,hw.1,p,hp',hb⟩
   |row e t l m=>
    obtain⟨v,hv,hb⟩:=ho;have hv':AM g ws[c]? m=some v:=hv;rw[hwh] at hv';exact⟨_,hw.1,v,hv',hb⟩
   |_=>exact hw.elim
 refine⟨fun c b h=> ?_,fun c c' b b' bb oo hne h1 h2 o1 o2=> ?_,hH.sl,hH.tab.1,fun c b bb oo h ho=> ?_⟩
 rotate_right
 .obtain⟨wh,hwh,hw⟩:=wsL c b h;obtain⟨k1,g1,p1⟩:=own c b wh hwh hw bb oo ho;exact hH.tab.2 _ _ bb oo g1 p1
 .obtain⟨wh,hwh,hw⟩:=wsL c b h;cases wh with
  |box i u x toks off=>
   cases b with
   |cells t y ts=>
    obtain⟨h1,⟨y0,h2,h3⟩,h4⟩:=hw;obtain⟨p,cs,hp,hR,hra,hth,hns,htk⟩:=hH.blk i _ h1;obtain⟨c1,c2,c3,rfl,rfl,hR2⟩:=CW hR h2;have l1:=sV hR;have l2:=sV hR2;simp only[aLT] at l1;refine⟨⟨p.1,p.2+c1.length,p.3⟩,c2,?_,aFn h3 hR2,fun j v hv=> ?_,⟨fun j hj=> ?_,fun h0 s hs=>hth.2 pG s hs⟩,fun j hj hs=> ?_,fun q n hm'=> ?_⟩
    .show vY g ws[c]? =_;rw[hwh];simp [vY,hp]
    .have:=hra (c1.length+j) v (by
      have hj':=(aL1.1 hv).1;rw[aLV,aL0 pG,aMC,aL4 hj'];exact hv)
     rw[aMy];exact this
    .have:=hth.1 (c1.length+j) pG;rw[aMy];exact this
    .exact hns (c1.length+j) pG (by rw[<-aMy];exact hs)
    .obtain⟨k,k1,k2,k3⟩:=h4 q n hm';have hmem:(c1.length+q,k)∈toks:=a7j k2;obtain⟨u',l,v,g1,g2,g3⟩:=htk _ _ hmem;refine⟨u',l,v,aFo h3 (aFp h2 g1 k3),?_,?_⟩
     .rw[aLV,aL0 pG,aMC,aL4 pG] at g2;exact g2
     .show AM g ws[n]? _=_;rw[k1];exact g3
   |_=>exact hw.elim
  |tok k=>
   cases b with
   |grow e cc m=>
    have e1:(vD g ws).cur c=g.cur k:=by
     funext n;show AM g ws[c]? n=_;rw[hwh];rfl
    obtain⟨v,xs,hv,hr,hn,hs⟩:=hH.blk k _ hw;exact⟨v,xs,by rw[e1];exact hv,hr,fun m hm'=>by rw[e1];exact hn m hm',hs⟩
   |map s t l=>
    obtain⟨p,es,cl,hp,hp0,hh,hM,hS⟩:=hH.blk k _ hw.1;refine⟨p,es,cl,?_,hp0,hh,ND (g:=g) (g':=vD g ws) rfl hw.2.1 hw.2.2 hM,hS⟩;show vY g ws[c]? =_;rw[hwh];exact hp
   |row e t l m=>
    have e1:(vD g ws).cur c=g.cur k:=by
     funext n;show AM g ws[c]? n=_;rw[hwh];rfl
    obtain⟨hl,v,xs,hv,hr,hF,hn,hs⟩:=hH.blk k _ hw.1;exact⟨hl,v,xs,by rw[e1];exact hv,hr,C7 (fun _ _ h=>vT (g:=g) (g':=vD g ws) rfl hw.2 h) hF,fun m hm'=>by rw[e1];exact hn m hm',hs⟩
   |_=>exact hw.elim
 .obtain⟨wh,hwh,hw⟩:=wsL c b h1;obtain⟨wh',hwh',hw'⟩:=wsL c' b' h2;obtain⟨k1,g1,p1⟩:=own c b wh hwh hw bb oo o1;obtain⟨k2,g2,p2⟩:=own c' b' wh' hwh' hw' bb oo o2;exact hH.dis wh.id wh'.id k1 k2 bb oo (fun e=>hne (SE hm.nodup hwh hwh' e)) g1 g2 p1 p2
theorem a7k {H:s0}{ws more:List rH}: ∀{wh:rH}{b:q9},SA H ws wh b->SA H (ws++more) wh b
 | .box _ _ _ _ _,.cells _ _ _,⟨h1,h2,h4⟩=>⟨h1,h2,fun q n h=>let ⟨k,k1,k2⟩:=h4 q n h;⟨k,by rw[aL4 (aL1.1 k1).1];exact k1,k2⟩⟩
 | .box _ _ _ _ _,.grow _ _ _,h=>h.elim
 | .box _ _ _ _ _,.dead,h=>h.elim
 | .box _ _ _ _ _,.row _ _ _ _,h=>h.elim
 | .box _ _ _ _ _,.map _ _ _,h=>h.elim
 | .box _ _ _ _ _,.iter _ _,h=>h.elim
 | .tok _,.iter _ _,h=>h.elim
 | .tok _,.row _ _ _ _,h=>h
 | .tok _,.grow _ _ _,h=>h
 | .tok _,.map _ _ _,h=>h
 | .tok _,.cells _ _ _,h=>h.elim
 | .tok _,.dead,h=>h.elim
theorem KT (g:Gh) (w:pR) (ws more:List rH):Le (vD g ws) w (vD g (ws++more)) w:=by
 refine⟨fun _ _ h=>h,fun _ _ _=>rfl,fun c p h=> ?_,fun c n v h=> ?_⟩
 .have h':vY g ws[c]? =some p:=h;show vY g (ws++more)[c]? =some p;cases hc:ws[c]? with
  |none=>rw[hc] at h';cases h'
  |some wh=>rw[aL4 (aL1.1 hc).1];exact h'
 .have h':AM g ws[c]? n=some v:=h;show AM g (ws++more)[c]? n=some v;cases hc:ws[c]? with
  |none=>rw[hc] at h';cases h'
  |some wh=>rw[aL4 (aL1.1 hc).1];exact h'
theorem KU {g g':Gh}{w w':pR}(h:Le g w g' w'): ∀{ss:List qC}{vs:pN},uX g w ss vs->uX g' w' ss vs
 |[],_,r=>r
 |_::_,_,⟨v,vs',e,r1,r2⟩=>⟨v,vs',e,C6 h r1,KU h r2⟩
theorem F4 {g:Gh}{w:pR}: ∀{ss:List qC}{vs:pN}{s:qC}{v:pS},uX g w ss vs->rJ g w s v->uX g w (ss++[s]) (vs++[v])
 |[],_,_,_,h,k=>by rw[show _=[] from h];exact⟨_,_,rfl,k,rfl⟩
 |_::_,_,_,_,⟨v,vs',e,r1,r2⟩,k=>⟨v,vs'++_,by rw[e];rfl,r1,F4 r2 k⟩
theorem F3.tok {H:s0}{ws:List rH}{L:List q9}(h:F3 H ws L) {k:Nat}{b0:q9}(hk:SA H (ws++[.tok k]) (.tok k) b0) (hn:k∉sF ws):F3 H (ws++[.tok k]) (L++[b0]):=by
 refine⟨by simp [h.len],fun i wh b h1 h2=> ?_,?_⟩
 .by_cases hi:i<ws.length
  .rw[aL4 hi] at h1;rw[aL4 (h.len▸hi)] at h2;exact a7k (h.ok i wh b h1 h2)
  .rw[aL0 pG] at h1;rw[aL0 (by rw[<-h.len];omega),<-h.len] at h2;obtain⟨d,hd⟩: ∃d,i-ws.length=d:=⟨_,rfl⟩;rw[hd] at h1 h2;cases d with
   |zero=>
    simp only[aMm,aLO] at h1 h2;subst h1;subst h2;exact hk
   |succ d=>simp at h1
 .rw[GQ];exact List.nodup_append.2 ⟨h.nodup,by simp [sF],fun a ha b hb=>by
   simp only[sF,rH.id,aL6] at hb;subst hb;intro e;exact hn (e▸ha)⟩
theorem a7l: ∀{os:pQ}{n q m:Nat},(q,m)∈HZ os n->∃j:Nat,os[j]? =some q/\m=n+j
 |[],_,_,_,h=>by simp [HZ] at h
 |q'::os,n,q,m,h=>by
  simp only[HZ,aL3,aMl] at h;rcases h with⟨rfl,rfl⟩ |h
  .exact⟨0,rfl,rfl⟩
  .obtain⟨j,h1,h2⟩:=a7l h;exact⟨j+1,by simpa using h1,pG⟩
theorem a7m {n:Nat}: ∀{os:pQ}{j q:Nat},K4 n os=true->os[j]? =some q->q<n
 |[],_,_,_,h=>by simp at h
 |q'::os,0,q,h,h2=>by
  simp only[K4,aMb,aMj] at h;simp only[aMm,aLO] at h2;exact h2▸h.1
 |q'::os,j+1,q,h,h2=>by
  simp only[K4,aMb] at h;exact a7m h.2 (by simpa using h2)
theorem SF {H:s0}{toks:pL}{o:Nat}: ∀{os:pQ}{a a':t7},xZ H toks o os (some a)=some a'->
  ∃(ks:pQ) (bs:List q9),ks.length=os.length/\bs.length=os.length/\a'.args=a.args/\a'.H.reverse=a.H.reverse++bs/\a'.ws.reverse=a.ws.reverse++ks.map rH.tok/\a'.n=a.n+os.length/\
   (∀(j:Nat) q k,os[j]? =some q->ks[j]? =some k->wS toks (o+q)=some k)/\(∀(j:Nat) k b,ks[j]? =some k->bs[j]? =some b->qD H k=some b/\∃e c m,b= .grow e c m)/\(∀k∈ks,k∉sF a.ws.reverse)/\ks.Nodup
 |[],a,a',h=>by
  simp only[xZ,aLO] at h;subst h;exact⟨[],[],rfl,rfl,rfl,by simp,by simp,rfl,by simp,by simp,by simp,by simp⟩
 |q::os,a,a',h=>by
  simp only[xZ] at h;have none_no: ∀os,xZ H toks o os none=none:=by
   intro os
   induction os with
   |nil=>rfl
   |cons q os ih=>
    have:yR H (wS toks (o+q)) none=none:=by
     cases wS toks (o+q) with
     |none=>rfl
     |some k=>simp only[yR];cases qD H k with
      |none=>rfl
      |some b=>cases b<;>rfl
    simp only[xZ,this,ih]
  cases hk:wS toks (o+q) with
  |none=>rw[hk] at h;simp only[yR,none_no] at h;cases h
  |some k=>
   rw[hk] at h;simp only[yR] at h;cases hb:qD H k with
   |none=>rw[hb] at h;simp only[BB,none_no] at h;cases h
   |some b=>
    rw[hb] at h;cases b with
    |grow e c m=>
     simp only[BB] at h;by_cases hm:BA k (sF a.ws)=true
     .rw[aLQ hm,none_no] at h;cases h
     .rw[aLU hm] at h;obtain⟨ks,bs,h1,h2,h3,h4,h5,h6,h7,h8,h9,h10⟩:=SF h;simp only[aMA] at h4 h5 h9;have hrev: ∀ws:List rH,∀i,i∈sF ws.reverse↔i∈sF ws:=by
       intro ws i
       induction ws with
       |nil=>simp
       |cons x r ih=>rw[aMA,GQ];simp [sF,ih,or_comm]
      refine⟨k::ks,.grow e c m::bs,by simp [h1],by simp [h2],h3,by rw[h4];simp,by rw[h5];simp,by rw[h6];simp;omega,fun j q' k'=> ?_,fun j k' b'=> ?_,fun k' hk'=> ?_,?_⟩
      .cases j with
       |zero=>intro e1 e2;simp only[aMm,aLO] at e1 e2;subst e1;subst e2;exact hk
       |succ j=>intro e1 e2;exact h7 j q' k' (by simpa using e1) (by simpa using e2)
      .cases j with
       |zero=>intro e1 e2;simp only[aMm,aLO] at e1 e2;subst e1;subst e2;exact⟨hb,_,_,_,rfl⟩
       |succ j=>intro e1 e2;exact h8 j k' b' (by simpa using e1) (by simpa using e2)
      .rcases aL3.1 hk' with rfl|hk'
       .rw[hrev];exact fun hmem=>hm (GR.2 hmem)
       .intro hmem;exact h9 k' hk' (by rw[GQ];exact List.mem_append_left _ hmem)
      .refine List.nodup_cons.2 ⟨fun hmem=>h9 k hmem (by rw[GQ];simp [sF,rH.id]),h10⟩
    |cells t y ts=>simp only[BB,none_no] at h;cases h
    |row=>simp only[BB,none_no] at h;cases h
    |map=>simp only[BB,none_no] at h;cases h
    |iter=>simp only[BB,none_no] at h;cases h
    |dead=>simp only[BB,none_no] at h;cases h
theorem a7n: ∀ks:pQ,sF (ks.map rH.tok)=ks
 |[]=>rfl
 |k::ks=>by simp [sF,rH.id,a7n ks]
theorem F3.box {H:s0}{ws:List rH}{L:List q9}(h:F3 H ws L) {t u:Ty}{x:u.den}{y:t.den}{toks:pL}{i o:Nat}{os ks:pQ}{bs:List q9}(hi:qD H i=some (.cells u x toks)) (hy:rC t u x o=some y) (hlt:K4 t.cells os=true) (hn:i∉sF ws)
  (h1:ks.length=os.length) (h2:bs.length=os.length) (h7: ∀(j:Nat) q k,os[j]? =some q->ks[j]? =some k->wS toks (o+q)=some k) (h8: ∀(j:Nat) k b,ks[j]? =some k->bs[j]? =some b->qD H k=some b/\∃e c m,b= .grow e c m) (h9: ∀k∈ks,k∉sF (ws++[.box i u x toks o])) (h10:ks.Nodup):
  F3 H ((ws++[.box i u x toks o])++ks.map rH.tok) ((L++[.cells t y (HZ os (ws.length+1))])++bs):=by
 have hlen1:(ws++[rH.box i u x toks o]).length=ws.length+1:=by simp
 have hlen2:(L++[q9.cells t y (HZ os (ws.length+1))]).length=ws.length+1:=by simp [h.len]
 refine⟨by simp [h.len,h1,h2],fun c wh b e1 e2=> ?_,?_⟩
 .by_cases hc:c<ws.length
  .rw[aL4 pG,aL4 hc] at e1;rw[aL4 pG,aL4 (h.len▸hc)] at e2;rw[aLV];exact a7k (h.ok c wh b e1 e2)
  .by_cases hc2:c=ws.length
   .subst hc2;rw[aL4 pG,aL0 (aMc _),aNE] at e1;rw[aL4 pG,aL0 (by rw[h.len];exact aMc _),h.len,aNE] at e2;simp only[aMm,aLO] at e1 e2;subst e1;subst e2;refine⟨hi,hy,fun q n hm=> ?_⟩;rw[<-h.len] at hm;obtain⟨j,hj,rfl⟩:=a7l hm;have hjl:j<ks.length:=by rw[h1];exact(aL1.1 hj).1
    refine⟨ks[j],?_,h7 j q _ hj (aLZ hjl),a7m hlt hj⟩;rw[aL0 pG,hlen1,show ws.length+1+j- (ws.length+1)=j from by omega];simp [hjl]
   .rw[aL0 pG,hlen1] at e1;rw[aL0 pG,hlen2] at e2;rw[List.getElem?_map] at e1;obtain⟨k,hk,rfl⟩:=aLW.1 e1;obtain⟨hg,e,cc,m,rfl⟩:=h8 _ k b hk e2;exact hg
 .rw[GQ,a7n];refine List.nodup_append.2 ⟨?_,h10,fun a ha b hb e=>h9 b hb (e▸ha)⟩;rw[GQ];exact List.nodup_append.2 ⟨h.nodup,by simp [sF],fun a ha b hb=>by
   simp only[sF,rH.id,aL6] at hb;subst hb;intro e;exact hn (e▸ha)⟩
theorem SG (ws:List rH) (i:Nat):i∈sF ws.reverse↔i∈sF ws:=by
 induction ws with
 |nil=>simp
 |cons x r ih=>rw[aMA,GQ];simp [sF,ih,or_comm]
structure AN (g:Gh) (w:pR) (H:s0) (vals:pN) (a:t7):Prop where
 n:a.n=a.ws.reverse.length
 m:F3 H a.ws.reverse a.H.reverse
 args:uX (vD g a.ws.reverse) w a.args.reverse vals
theorem aFr {g:Gh}{w:pR}{ws:List rH}{t:Ty}(hp:t.pure=true) {x:t.den}{v:pS}{k:pP}(h:rJ g w (.val t x,k) v):rJ (vD g ws) w (.val t x,none) v:=
 ⟨h.1.imp (fun⟨a,cs,e,q⟩=>⟨a,cs,e,vT (g:=g) (g':=vD g ws) rfl hp q⟩) (fun⟨a,q⟩=>⟨a,vT (g:=g) (g':=vD g ws) rfl hp q⟩),trivial⟩
theorem aFs {H:s0}{k:pP}{a b:t7}{l m:List qC}(h:yR H k (some ⟨l,a.H,a.ws,a.n⟩)=some b):b.args=l/\yR H k (some ⟨m,a.H,a.ws,a.n⟩)=some ⟨m,b.H,b.ws,b.n⟩:=by
 cases k with
 |none=>cases h
 |some k=>
  simp only[yR] at h|-;cases hb:qD H k with
  |none=>rw[hb] at h;simp [BB] at h
  |some bl=>
   rw[hb] at h;cases bl with
   |grow e c n=>
    simp only[BB] at h|-;split at h
    .cases h
    .rename_i hc;rw[aLU hc];cases h;exact⟨rfl,rfl⟩
   |_=>simp [BB] at h
theorem a7o {H:s0}{toks:pL}{o:Nat}{m:List qC}: ∀{os:pQ}{a b:t7},xZ H toks o os (some a)=some b->b.args=a.args/\xZ H toks o os (some ⟨m,a.H,a.ws,a.n⟩)=some ⟨m,b.H,b.ws,b.n⟩
 |[],a,b,h=>by simp only[xZ,aLO] at h;subst h;exact⟨rfl,rfl⟩
 |q::os,a,b,h=>by
  simp only[xZ] at h|-;have none_no: ∀os,xZ H toks o os none=none:=by
   intro os
   induction os with
   |nil=>rfl
   |cons q os ih=>
    have:yR H (wS toks (o+q)) none=none:=by
     cases wS toks (o+q) with
     |none=>rfl
     |some k=>simp only[yR];cases qD H k with
      |none=>rfl
      |some b=>cases b<;>rfl
    simp only[xZ,this,ih]
  cases hm:yR H (wS toks (o+q)) (some a) with
  |none=>rw[hm,none_no] at h;cases h
  |some c=>
   rw[hm] at h;obtain⟨h1,h2⟩:=aFs (a:=a) (l:=a.args) (m:=m) hm;obtain⟨h3,h4⟩:=a7o (m:=m) h;rw[h2];exact⟨h3.trans h1,h4⟩
theorem aFt {H:s0}{t:Ty}{os:pQ}{i o:Nat}{a b:t7}{m:List qC}(h:vR H t os i o a (qD H i)=some b):vR H t os i o ⟨m,a.H,a.ws,a.n⟩ (qD H i)=some ⟨(.val .ref (some (a.n,0)),none)::m,b.H,b.ws,b.n⟩:=by
 cases hb:qD H i with
 |none=>rw[hb] at h;simp [vR] at h
 |some bl=>
  rw[hb] at h;cases bl with
  |cells u x toks=>
   simp only[vR] at h|-;cases hy:rC t u x o with
   |none=>rw[hy] at h;simp [DR] at h
   |some y=>
    rw[hy] at h;simp only[DR] at h|-;split at h
    .rename_i hc;rw[aLQ hc];exact(a7o (m:=(.val .ref (some (a.n,0)),none)::m) h).2
    .cases h
  |_=>simp [vR] at h
theorem a7p {g:Gh}{i o:Nat}{p:Pl}{v:pS}: ∀{l:pL}{vs:pN},xO g l vs->g.J i=some p->v= .pointer (some ⟨p.1,p.2+o,none⟩)->xO g (l++[(i,o)]) (vs++[v])
 |[],vs,h,hp,hv=>by rw[show vs=[] from h];exact⟨p,[],hp,by rw[hv];rfl,rfl⟩
 |(_,_)::l,vs,⟨q,vs',h1,h2,h3⟩,hp,hv=>⟨q,vs'++[v],h1,by rw[h2];rfl,a7p h3 hp hv⟩
theorem a7q {α:Type}: ∀(l acc:List α),yQ l acc=l.reverse++acc
 |[],_=>rfl
 |x::l,acc=>by simp [yQ,a7q l]
theorem a7r {g:Gh}{w:pR}{H:s0}(hH:sG g w H) {t:Ty}{os:pQ}{i o:Nat}{vals:pN}{a a':t7}(ha:AN g w H vals a) {p:Pl}(hp:g.J i=some p) (h:vR H t os i o a (qD H i)=some a'):
  AN g w H vals ⟨a.args,a'.H,a'.ws,a'.n⟩/\∃more,a'.ws.reverse=a.ws.reverse++more/\a'.args=(.val .ref (some (a.n,0)),none)::a.args/\(vD g a'.ws.reverse).J a.n=some ⟨p.1,p.2+o,p.3⟩:=by
 cases hb:qD H i with
 |none=>rw[hb] at h;simp [vR] at h
 |some b=>
  rw[hb] at h;cases b with
  |cells u x toks=>
   simp only[vR] at h;cases hy:rC t u x o with
   |none=>rw[hy] at h;simp [DR] at h
   |some y=>
    rw[hy] at h;simp only[DR] at h;split at h
    .rename_i hc;simp only[aMb,aMq] at hc;obtain⟨ks,bs,h1,h2,h3,h4,h5,h6,h7,h8,h9,h10⟩:=SF h;simp only[aMA] at h3 h4 h5 h6 h9;have hnm:i∉sF a.ws.reverse:=fun hmem=>by
      have:=GR.2 ((SG _ _).1 hmem);rw[hc.2] at this;cases this
     have e5:a'.ws.reverse=a.ws.reverse++([rH.box i u x toks o]++ks.map rH.tok):=by rw[h5];simp only[aLV]
     refine⟨⟨by rw[h6];simp only;rw[h5,ha.n];simp [h1];omega,?_,?_⟩,_,e5,h3,?_⟩
     .simp only;rw[h4,h5,ha.n];exact ha.m.box hb hy hc.1 hnm h1 h2 h7 h8 h9 h10
     .simp only;rw[e5];exact KU (KT g w _ _) ha.args
     .show vY g a'.ws.reverse[a.n]? =_;rw[e5,ha.n,aL0 (aMc _),aNE];show (g.J i).map _=_;rw[hp];rfl
    .cases h
  |grow=>simp [vR] at h
  |row=>simp [vR] at h
  |map=>simp [vR] at h
  |iter=>simp [vR] at h
  |dead=>simp [vR] at h
theorem a7s {H:s0}{f:FuncId}{args0:List qC}: ∀{ks:List (Ty×pQ)}{cs ids:pL}{a a':t7},x9 H f args0 ks cs ids (some a)=some a'->∃s more,a'.args=s::args0/\a'.ws.reverse=a.ws.reverse++more
 |[],[],ids,a,a',h=>by
  simp only[x9,aLO] at h;subst h;exact⟨_,[],rfl,by simp⟩
 |[],_::_,_,_,_,h=>by simp [x9] at h
 |_::_,[],_,_,_,h=>by simp [x9] at h
 |(t,os)::ks,(i,o)::cs,ids,a,a',h=>by
  simp only[x9] at h;cases hb:vR H t os i o a (qD H i) with
  |none=>rw[hb] at h;cases ks<;>cases cs<;>simp [x9] at h
  |some b=>
   rw[hb] at h;obtain⟨s,more,h1,h2⟩:=a7s h;obtain⟨more0,h3⟩: ∃more0,b.ws.reverse=a.ws.reverse++more0:=by
    unfold vR at hb;split at hb
    .unfold DR at hb;split at hb
     .split at hb
      .obtain⟨ks,bs,_,_,_,_,h5,_⟩:=SF hb;exact⟨_,by rw[h5];simp only[aMA];exact aLV ..⟩
      .cases hb
     .cases hb
    .cases hb
   exact⟨s,more0++more,h1,by rw[h2,h3,aLV]⟩
theorem a7t {g:Gh}{w:pR}{H:s0}(hH:sG g w H) {f:FuncId}{args0:List qC}{vals:pN}: ∀{ks:List (Ty×pQ)}{cs:pL}{ids:pL}{vs us:pN}{a a':t7},AN g w H vals ⟨args0,a.H,a.ws,a.n⟩->
  xO g cs vs->xO (vD g a.ws.reverse) ids.reverse us->x9 H f args0 ks cs ids (some a)=some a'->
  AN g w H vals ⟨args0,a'.H,a'.ws,a'.n⟩/\∃ids',a'.args=(.val .clo (some (f,ids')),none)::args0/\(∃more,a'.ws.reverse=a.ws.reverse++more)/\xO (vD g a'.ws.reverse) ids' (us++vs)
 |[],[],ids,vs,us,a,a',ha,hv,hu,h=>by
  simp only[x9,a7q,List.append_nil,aLO] at h;subst h;rw[show vs=[] from hv,List.append_nil];exact⟨ha,_,rfl,⟨[],by simp⟩,hu⟩
 |[],_::_,_,_,_,_,_,_,_,_,h=>by simp [x9] at h
 |_::_,[],_,_,_,_,_,_,_,_,h=>by simp [x9] at h
 |(t,os)::ks,(i,o)::cs,ids,vs,us,a,a',ha,⟨p,vs',hp,hv1,hv2⟩,hu,h=>by
  simp only[x9] at h;cases hb:vR H t os i o a (qD H i) with
  |none=>rw[hb] at h;cases ks<;>cases cs<;>simp [x9] at h
  |some b=>
   rw[hb] at h;have hb':vR H t os i o ⟨args0,a.H,a.ws,a.n⟩ (qD H i)=some ⟨(.val .ref (some (a.n,0)),none)::args0,b.H,b.ws,b.n⟩:=aFt hb;obtain⟨q1,more,q2,q3,q4⟩:=a7r hH ha hp hb';simp only at q1 q2 q3 q4;have hmono:=KT g w a.ws.reverse more;rw[<-q2] at hmono;have hu2:xO (vD g b.ws.reverse) ((a.n,0)::ids).reverse (us++[.pointer (some ⟨p.1,p.2+o,none⟩)]):=by
    simp only[aMA];exact a7p (W8 hmono.J hu) q4 pI
   obtain⟨z1,ids',z2,⟨more',z3⟩,z4⟩:=a7t hH (a:=b) q1 hv2 hu2 h;refine⟨z1,ids',z2,⟨more++more',by rw[z3,q2,aLV]⟩,?_⟩;rw[hv1];rw[aLV] at z4;exact z4
theorem a7u {g:Gh}{w:pR}{H:s0}(hH:sG g w H) {p:PK}{s:qC}{v:pS}{vals:pN}{a a':t7}(ha:AN g w H vals a) (hs:rJ g w s v) (h:xM H a p s=some a'):AN g w H (vals++[v]) a':=by
 unfold xM at h;split at h
 .rename_i f k;simp only[QH,aLO] at h;subst h;refine⟨ha.n,ha.m,?_⟩;simp only[aMA];refine F4 ha.args ⟨?_,trivial⟩;rcases hs.1 with⟨h1,_⟩ |⟨h1,vs,h2,h3⟩
  .cases h1
  .rw[show vs=[] from h2] at h3;exact .inr ⟨rfl,[],rfl,h3⟩
 .rename_i t x k _;simp only[QG] at h;split at h
  .rename_i hp;simp only[aLO] at h;subst h;refine⟨ha.n,ha.m,?_⟩;simp only[aMA];exact F4 ha.args (aFr hp hs)
  .cases h
 .simp only[QI,aLO] at h;subst h;refine⟨ha.n,ha.m,?_⟩;simp only[aMA];exact F4 ha.args ⟨hs.1,trivial⟩
 .rename_i t x k;cases hb:qD H k with
  |none=>rw[hb] at h;simp [BC] at h
  |some b=>
   rw[hb] at h;cases b with
   |grow e c m=>
    simp only[BC] at h;split at h
    .rename_i hc;simp only[aMb,aMq] at hc;simp only[aLO] at h;subst h;have hnm:k∉sF a.ws.reverse:=fun hmem=>by
      have:=GR.2 ((SG _ _).1 hmem);rw[hc.2] at this;cases this
     refine⟨by simp [ha.n],by simpa using ha.m.tok (b0:= .grow e c m) hb hnm,?_⟩;simp only[aMA];refine F4 (KU (KT g w _ _) ha.args) (S9 (g:=g) (g':=vD g (a.ws.reverse++[.tok k])) (k':=some a.n) rfl hc.1 (fun _ _=>⟨_,rfl⟩) hs (fun c' e1=> ?_) (fun e1=>by cases e1));cases e1;refine⟨_,rfl,fun n u hu=> ?_⟩;show AM g (a.ws.reverse++[rH.tok k])[a.n]? n=some u;rw[ha.n,aL0 (aMc _),aNE];exact hu
    .cases h
   |cells=>simp [BC] at h
   |row=>simp [BC] at h
   |map=>simp [BC] at h
   |iter=>simp [BC] at h
   |dead=>simp [BC] at h
 .rename_i t os i o k;obtain⟨p,hp,hv⟩:=yX hs.1;obtain⟨h1,more,h2,h3,h4⟩:=a7r hH ha hp h;refine⟨h1.n,h1.m,?_⟩;rw[h3];simp only[aMA];exact F4 h1.args ⟨.inr ⟨rfl,_,h4,by rw[hv];rfl⟩,trivial⟩
 .rename_i i k;cases hb:qD H i with
  |none=>rw[hb] at h;simp [BD] at h
  |some b=>
   rw[hb] at h;cases b with
   |map s t l=>
    simp only[BD] at h;split at h
    .rename_i hc;simp only[aMb,aMq] at hc;simp only[aLO] at h;subst h;have hnm:i∉sF a.ws.reverse:=fun hmem=>by
      have:=GR.2 ((SG _ _).1 hmem);rw[hc.2] at this;cases this
     refine⟨by simp [ha.n],by simpa using ha.m.tok (b0:= .map s t l) ⟨hb,hc.1.1,hc.1.2⟩ hnm,?_⟩;simp only[aMA];obtain⟨p,hp,hv⟩: ∃p,g.J i=some p/\v= .map (some p.1):=by
      obtain⟨p,h1,e⟩:=A4 rfl hs.1;simp only[aMI,and_true] at e;exact⟨p,h1,e⟩
     refine F4 (KU (KT g w _ _) ha.args) ⟨.inr ⟨rfl,p,?_,by rw[hv]⟩,trivial⟩;show vY g (a.ws.reverse++[rH.tok i])[a.n]? =_;rw[ha.n,aL0 (aMc _),aNE];exact hp
    .cases h
   |cells=>simp [BD] at h
   |row=>simp [BD] at h
   |grow=>simp [BD] at h
   |iter=>simp [BD] at h
   |dead=>simp [BD] at h
 .rename_i k n k';cases hb:qD H k with
  |none=>rw[hb] at h;simp [BE] at h
  |some b=>
   rw[hb] at h;cases b with
   |row e t l m=>
    simp only[BE] at h;split at h
    .rename_i hc;simp only[aMb,aMq] at hc;simp only[aLO] at h;subst h;have hnm:k∉sF a.ws.reverse:=fun hmem=>by
      have:=GR.2 ((SG _ _).1 hmem);rw[hc.2] at this;cases this
     refine⟨by simp [ha.n],by simpa using ha.m.tok (b0:= .row e t l m) ⟨hb,hc.1⟩ hnm,?_⟩;simp only[aMA];obtain⟨h1,h2⟩:=hs.1;refine F4 (KU (KT g w _ _) ha.args) ⟨⟨?_,h2⟩,trivial⟩;show AM g (a.ws.reverse++[rH.tok k])[a.n]? n=_;rw[ha.n,aL0 (aMc _),aNE];exact h1
    .cases h
   |cells=>simp [BE] at h
   |grow=>simp [BE] at h
   |map=>simp [BE] at h
   |iter=>simp [BE] at h
   |dead=>simp [BE] at h
 .rename_i ks f cs k';obtain⟨vs,hv1,hv2⟩: ∃vs,xO g cs vs/\v= .func (.func f) #[] vs.toArray:=by
   rcases hs.1 with⟨h1,_⟩ |⟨_,vs,h2,h3⟩
   .cases h1
   .simp only[aMI,and_true] at h3;exact⟨vs,h2,h3⟩
  obtain⟨z1,ids',z2,_,z4⟩:=a7t hH (ids:=[]) (a:=a) (us:=[]) ha hv1 rfl h;refine⟨z1.n,z1.m,?_⟩;rw[z2];simp only[aMA];exact F4 z1.args ⟨.inr ⟨rfl,vs,by simpa using z4,by rw[hv2]⟩,trivial⟩
 .cases h
theorem a7v {g:Gh}{w:pR}{H:s0}(hH:sG g w H): ∀{ps:List PK}{ss:List qC}{vs vals:pN}{a a':t7},AN g w H vals a->uX g w ss vs->xA H ps ss (some a)=some a'->AN g w H (vals++vs) a'
 |[],[],vs,vals,a,a',ha,hs,h=>by
  simp only[xA,aLO] at h;subst h;rw[show vs=[] from hs,List.append_nil];exact ha
 |p::ps,s::ss,vs,vals,a,a',ha,⟨v,vs',e,h1,h2⟩,h=>by
  simp only[xA] at h;cases ho:xM H a p s with
  |none=>rw[ho] at h;cases ps<;>cases ss<;>simp [xA] at h
  |some a1=>
   rw[ho] at h;have:=a7v hH (a7u hH ha h1 ho) h2 h;rw[e];simpa using this
 |[],_::_,_,_,_,_,_,_,h=>by simp [xA] at h
 |_::_,[],_,_,_,_,_,_,h=>by simp [xA] at h
theorem AN.nil (g:Gh) (w:pR) (H:s0):AN g w H [] ⟨[],[],[],0⟩:=
 ⟨rfl,⟨rfl,fun c wh b h _=>by simp at h,by simp [sF]⟩,rfl⟩
theorem a7w: ∀(l:List q9) (n:Nat),GC l n=l[n]?
 |[],_=>by simp [GC]
 |_::_,0=>rfl
 |_::r,n+1=>by simpa[GC] using a7w r n
theorem aFu {g:Gh}{w:pR}: ∀{t:Ty}{x:t.den}{cs:pN}{o:Nat}{y:pO},Rd g w t x cs->ES t x o=some y->∃cs',DW g y cs':=by
 intro t
 induction t with
 |pair a b iha ihb=>
  intro x cs o y r h;obtain⟨c1,c2,_,r1,r2⟩:=r;simp only[ES] at h;split at h
  .exact iha r1 h
  .exact ihb r2 h
 |rl e u=>
  intro x cs o y r h;cases o with
  |zero=>simp only[ES,aLO] at h;subst h;exact⟨cs,r⟩
  |succ o=>simp [ES] at h
 |_=>intro x cs o y r h;cases o<;>simp [ES] at h
theorem aFv {g:Gh}{w:pR}{H:s0}(hH:sG g w H) {vals:pN}{a:t7}(ha:AN g w H vals a) (c q:Nat) (pk:PK): ∃v,rJ g w (I0 q pk (GC a.H c)) v:=by
 rw[a7w];have any: ∃v,rJ g w (.any,none) v:=⟨undef,trivial,trivial⟩;cases hb:a.H[c]? with
 |none=>cases pk<;>exact any
 |some b=>
  cases b with
  |cells t y ts=>
   have hlt:c<a.H.length:=(aL1.1 hb).1;have hb':a.H.reverse[a.H.length-1-c]? =some (.cells t y ts):=by
    rw[List.getElem?_reverse pG,show a.H.length-1- (a.H.length-1-c)=c by omega];exact hb
   obtain⟨wh,hwh⟩: ∃wh,a.ws.reverse[a.H.length-1-c]? =some wh:=by
    have hl:=ha.m.len;simp only[List.length_reverse] at hl;exact⟨_,aLZ (by rw[List.length_reverse];omega)⟩
   have hw:=ha.m.ok _ wh _ hwh hb';cases wh with
   |tok k=>exact hw.elim
   |box i u x toks off=>
    obtain⟨h1,h2,_⟩:=hw;obtain⟨p,cs,hp,hR,_⟩:=hH.blk i _ h1;obtain⟨c1,c2,c3,hcs,hl,hR2⟩:=CW hR h2;cases pk with
    |p t' os=>
     simp only[I0];cases hg:rC .ref t y q with
     |none=>exact any
     |some z=>
      cases z with
      |none=>exact any
      |some z=>
       obtain⟨d1,d2,d3,_,_,hR3⟩:=CW hR2 hg;obtain⟨p',hp',e⟩:=hR3;exact⟨_,.inr ⟨rfl,p',hp',rfl⟩,trivial⟩
    |m=>
     simp only[I0];cases hg:rC .mp t y q with
     |none=>exact any
     |some z=>
      cases z with
      |none=>exact any
      |some z=>
       obtain⟨d1,d2,d3,_,_,hR3⟩:=CW hR2 hg;obtain⟨p',hp',e⟩:=hR3;exact⟨_,.inr ⟨rfl,p',hp',rfl⟩,trivial⟩
    |v=>exact any
    |own=>exact any
    |f ks=>exact any
    |r=>
     simp only[I0];cases hg:ES t y q with
     |none=>exact any
     |some z=>
      cases z with
      |none=>exact any
      |some z=>
       obtain⟨cs',hR3⟩:=aFu hR2 hg;obtain⟨v,hv,_,hsh⟩:=hR3;exact⟨v,⟨hv,hsh⟩,trivial⟩
  |_=>cases pk<;>exact any
theorem a7x {g:Gh}{w:pR}{H:s0}(hH:sG g w H) {vals:pN}: ∀{gs:List (Nat×Nat×PK)}{a a':t7},AN g w H vals a->AJ H gs (some a)=some a'->AN g w H vals a'
 |[],a,a',ha,h=>by
  simp only[AJ,aLO] at h;subst h;exact ha
 |(c,q,pk)::gs,a,a',ha,h=>by
  simp only[AJ] at h;obtain⟨v,hv⟩:=aFv hH ha (a.n-1-c) q pk;cases hp:xM H a pk (I0 q pk (GC a.H (a.n-1-c))) with
  |none=>
   rw[hp] at h;simp only[K5] at h;cases gs<;>simp [AJ] at h
  |some b=>
   rw[hp] at h;simp only[K5] at h;have hb:=a7u hH ha hv hp;refine a7x hH (a:=⟨a.args,b.H,b.ws,b.n⟩) ⟨hb.n,hb.m,?_⟩ h;obtain⟨s,more,e1,e2⟩: ∃s more,b.args=s::a.args/\b.ws.reverse=a.ws.reverse++more:=by
    have hp':=hp;unfold xM at hp';split at hp'
    .simp only[QH,aLO] at hp';subst hp';exact⟨_,[],rfl,by simp⟩
    .simp only[QG] at hp';split at hp'
     .simp only[aLO] at hp';subst hp';exact⟨_,[],rfl,by simp⟩
     .cases hp'
    .simp only[QI,aLO] at hp';subst hp';exact⟨_,[],rfl,by simp⟩
    .unfold BC at hp';split at hp'
     .split at hp'
      .simp only[aLO] at hp';subst hp';exact⟨_,[_],rfl,aMA ..⟩
      .cases hp'
     .cases hp'
    .unfold vR at hp';split at hp'
     .unfold DR at hp';split at hp'
      .split at hp'
       .obtain⟨ks,bs,_,_,h3,_,h5,_⟩:=SF hp';exact⟨_,_,h3,by rw[h5];simp only[aMA];exact aLV ..⟩
       .cases hp'
      .cases hp'
     .cases hp'
    .unfold BD at hp';split at hp'
     .split at hp'
      .simp only[aLO] at hp';subst hp';exact⟨_,[_],rfl,aMA ..⟩
      .cases hp'
     .cases hp'
    .unfold BE at hp';split at hp'
     .split at hp'
      .simp only[aLO] at hp';subst hp';exact⟨_,[_],rfl,aMA ..⟩
      .cases hp'
     .cases hp'
    .exact a7s hp'
    .cases hp'
   rw[e2];exact KU (KT g w _ _) ha.args
theorem aFw {b:Option q9}{l:Option (List q9)}{r:List q9}(h:UZ b l=some r): ∃b' l',b=some b'/\l=some l'/\r=b'::l':=by
 cases b<;>cases l<;>simp [UZ] at h
 exact⟨_,_,rfl,rfl,h.symm⟩
theorem a7y {W:List rH}: ∀{L0 L:List q9},GD W L0=some L->L.length=L0.length/\∀(c:Nat) (b:q9),L[c]? =some b->∃b0,L0[c]? =some b0/\QK W b0=some b
 |[],L,h=>by
  simp only[GD,aLO] at h;subst h;exact⟨rfl,fun c b h=>by simp at h⟩
 |b0::L0,L,h=>by
  simp only[GD] at h;obtain⟨b',l',h1,h2,rfl⟩:=aFw h;obtain⟨k1,k2⟩:=a7y h2;refine⟨by simp [k1],fun c b hc=> ?_⟩;cases c with
  |zero=>simp only[aMm,aLO] at hc;subst hc;exact⟨b0,rfl,h1⟩
  |succ c=>obtain⟨b1,q1,q2⟩:=k2 c b (by simpa using hc);exact⟨b1,by simpa using q1,q2⟩
theorem F3.ren {H:s0}{ws:List rH}{L0 L:List q9}(h:F3 H ws L0) (hc:GD ws L0=some L):NQ H ws L:=by
 obtain⟨k1,k2⟩:=a7y hc;refine⟨h.len.trans k1.symm,fun c wh b hw hb=> ?_,h.nodup⟩;obtain⟨b0,q1,q2⟩:=k2 c b hb;have hok:=h.ok c wh b0 hw q1;cases b0 with
 |cells t y ts=>
  cases wh with
  |tok k=>exact hok.elim
  |box i u x toks o=>
   obtain⟨h1,h2,h3⟩:=hok;simp only[QK] at q2;split at q2
   .rename_i hp;obtain rfl:=aLS q2;exact⟨h1,⟨y,h2,.inl ⟨hp,rfl⟩⟩,h3⟩
   .cases hy:C3 ws t y with
    |none=>rw[hy] at q2;cases q2
    |some z=>
     rw[hy] at q2;obtain rfl:=aLS q2;exact⟨h1,⟨y,h2,.inr hy⟩,h3⟩
 |_=>
  simp only[QK,aLO] at q2;subst q2;cases wh<;>exact hok
theorem zK: ∀(W:List rH) (c:Nat),zZ W c=W[c]?
  |[],c=>by simp [zZ]
  |_::_,0=>rfl
  |_::W,c+1=>by simpa[zZ] using zK W c
theorem a7z: ∀L:List q9,r5 L=L.length
  |[]=>rfl
  |_::L=>by simp [r5,a7z L]
theorem a7A {α:Type}: ∀(l acc:List α),yQ l acc=l.reverse++acc
  |[],_=>rfl
  |x::l,acc=>by simp [yQ,a7A l]
theorem X6 {a:Option (Nat×q9)}{b:Option (List (Nat×q9))}{l:List (Nat×q9)}(h:MQ a b=some l): ∃q r,a=some q∧b=some r∧l=q::r:=by
  cases a<;>cases b<;>simp [MQ] at h
  exact⟨_,_,rfl,rfl,h.symm⟩
def GS (base n:Nat) (W ws:List rH) (R:List q9) (c0:Nat) (id:Nat) (b:q9):Prop:=
  (∃(c:Nat) (i:Nat) (u:Ty) (x:u.den) (toks:pL) (o:Nat) (b0:q9),ws[c]? =some (.box i u x toks o)∧id=i∧R[c]? =some b0∧xB base n i o W u x toks b0=some (i,b))∨
  (∃(c k:Nat) (b0:q9),ws[c]? =some (.tok k)∧id=k∧R[c]? =some b0∧zE k b0=some (k,b))∨
  (∃(c:Nat) (b0:q9),R[c]? =some b0∧id=base+(c0+c)∧ws[c]? =none∧CS base n (c0+c) W b0=some (id,b))
theorem GS.succ {base n:Nat}{W:List rH}{wh:rH}{ws:List rH}{b0:q9}{R:List q9}{c0 id:Nat}{b:q9}(h:GS base n W ws R (c0+1) id b):GS base n W (wh::ws) (b0::R) c0 id b:=by
  rcases h with⟨c,i,u,x,toks,o,b1,h1,h2,h3,h4⟩ |⟨c,k,b1,h1,h2,h3,h4⟩ |⟨c,b1,h1,h2,h3,h4⟩
  .exact .inl ⟨c+1,i,u,x,toks,o,b1,by simpa using h1,h2,by simpa using h3,h4⟩
  .exact .inr (.inl ⟨c+1,k,b1,by simpa using h1,h2,by simpa using h3,h4⟩)
  .exact .inr (.inr ⟨c+1,b1,by simpa using h1,by rw[h2];omega,by simpa using h3,by rw[show c0+(c+1)=c0+1+c from by omega];exact h4⟩)
theorem GS.succ0 {base n:Nat}{W:List rH}{b0:q9}{R:List q9}{c0 id:Nat}{b:q9}(h:GS base n W [] R (c0+1) id b):GS base n W [] (b0::R) c0 id b:=by
  rcases h with⟨c,i,u,x,toks,o,b1,h1,_⟩ |⟨c,k,b1,h1,_⟩ |⟨c,b1,h1,h2,h3,h4⟩
  .simp at h1
  .simp at h1
  .exact .inr (.inr ⟨c+1,b1,by simpa using h1,by rw[h2];omega,by simp,by rw[show c0+(c+1)=c0+1+c from by omega];exact h4⟩)
theorem a7B {i:Nat}{t:Ty}{ts:pL}{o:Option t.den}{q:Nat×q9}(h:a5W i t ts o=some q): ∃y,o=some y∧q=(i,.cells t y ts):=by
  cases o with
  |none=>cases h
  |some y=>exact⟨y,rfl,(aLS h).symm⟩
theorem aFx {base n c:Nat}{W:List rH}{b:q9}{q:Nat×q9}(h:CS base n c W b=some q):q.1=base+c:=by
  cases b<;>simp only[CS] at h
  · split at h
    .exact(aLS h)▸rfl
    .obtain⟨y,_,rfl⟩:=a7B h;rfl
  .exact(aLS h)▸rfl
  · split at h
    .exact(aLS h)▸rfl
    .cases h
  · split at h
    .exact(aLS h)▸rfl
    .cases h
  .cases h
  .exact(aLS h)▸rfl
def bY (base n:Nat) (W:List rH) (t:Ty) (x y:t.den):Prop:=(t.pure=true∧y=x)∨BF base n W t x=some y
theorem X7 {base n i o:Nat}{W:List rH}{u t:Ty}{x:u.den}{y:t.den}{toks ts:pL}{q:Nat×q9}(h:xB base n i o W u x toks (.cells t y ts)=some q):
    ∃y2 z,bY base n W t y y2∧sU t y2 u x o=some z∧q=(i,.cells u z (qP (CR base n W o ts) (vJ toks o t.cells))):=by
  simp only[xB] at h;split at h
  · rename_i hp
    cases hs:sU t y u x o with
    |none=>rw[hs] at h;simp [QM] at h
    |some z=>rw[hs] at h;exact⟨y,z,.inl ⟨hp,rfl⟩,hs,(aLS h).symm⟩
  · cases hy:BF base n W t y with
    |none=>rw[hy] at h;cases h
    | some y2=>
      rw[hy] at h;simp only[a5X] at h;cases hs:sU t y2 u x o with
      |none=>rw[hs] at h;simp [QM] at h
      |some z=>rw[hs] at h;exact⟨y2,z,.inr hy,hs,(aLS h).symm⟩
theorem aFy {k:Nat}{b:q9}{q:Nat×q9}(h:zE k b=some q):q.1=k:=by
  cases b<;>simp only[zE] at h
  .cases h
  .exact(aLS h)▸rfl
  · split at h
    .exact(aLS h)▸rfl
    .cases h
  · split at h
    .exact(aLS h)▸rfl
    .cases h
  .cases h
  .exact(aLS h)▸rfl
theorem aFz {base n i o:Nat}{W:List rH}{u:Ty}{x:u.den}{toks:pL}{b:q9}{q:Nat×q9}(h:xB base n i o W u x toks b=some q):q.1=i:=by
  cases b with
  |cells t y ts=>obtain⟨y2,z,_,_,rfl⟩:=X7 h;rfl
  |grow=>simp [xB] at h
  |row=>simp [xB] at h
  |map=>simp [xB] at h
  |iter=>simp [xB] at h
  |dead=>simp only[xB,aLO] at h;exact h▸rfl
theorem KV {base n:Nat}{W:List rH}: ∀{ws:List rH}{R:List q9}{c0:Nat}{upd:List (Nat×q9)},AK base n W c0 ws R=some upd→
    ws.length≤R.length∧(∀id b,qD upd id=some b→GS base n W ws R c0 id b)∧(∀id,id∈qG upd→∃b,qD upd id=some b)∧
    (∀(c:Nat) wh,ws[c]? =some wh→wh.id∈qG upd)∧(∀(c:Nat) b,R[c]? =some b→ws[c]? =none→base+(c0+c)∈qG upd)
  | [],[],_,upd,h=>by
    simp only[AK,aLO] at h;subst h;exact⟨aMc _,fun _ _ h=>by simp [qD] at h,fun _ h=>by simp [qG] at h,fun _ _ h=>by simp at h,fun _ _ h=>by simp at h⟩
  | [],b::R,c0,upd,h=>by
    simp only[AK] at h;obtain⟨q,r,h1,h2,rfl⟩:=X6 h;obtain⟨k1,k2,k3,k4,k5⟩:=KV h2;have hq:=aFx h1;obtain⟨q1,q2⟩:=q;simp only at hq;subst hq;refine⟨by simp,fun id b' hg=> ?_,fun id hi=> ?_,fun c wh hw=>by simp at hw,fun c b' hb hn=> ?_⟩
    · simp only[qD] at hg
      split at hg
      · rename_i e
        obtain rfl:=aLS hg;subst e;exact .inr (.inr ⟨0,b,rfl,rfl,by simp,h1⟩)
      .exact(k2 id b' hg).succ0
    · simp only[qD]
      by_cases e:base+c0=id
      .rw[aLQ e];exact⟨_,rfl⟩
      · rw[aLU e]
        simp only[qG,aL3] at hi;exact k3 id (hi.resolve_left (Ne.symm e))
    · cases c with
      |zero=>simp [qG]
      | succ c=>
        have:=k5 c b' (by simpa using hb) pI;simp only[qG,aL3];right;rw[show base+(c0+(c+1))=base+(c0+1+c) from by omega];exact this
  | .box i u x toks o::ws,[],c0,upd,h=>by simp [AK] at h
  | .tok k::ws,[],c0,upd,h=>by simp [AK] at h
  | .box i u x toks o::ws,b::R,c0,upd,h=>by
    simp only[AK] at h;obtain⟨q,r,h1,h2,rfl⟩:=X6 h;obtain⟨k1,k2,k3,k4,k5⟩:=KV h2;have hq:=aFz h1;obtain⟨q1,q2⟩:=q;simp only at hq;subst hq;refine⟨by simp;omega,fun id b' hg=> ?_,fun id hi=> ?_,fun c wh hw=> ?_,fun c b' hb hn=> ?_⟩
    · simp only[qD] at hg
      split at hg
      · rename_i e
        obtain rfl:=aLS hg;subst e;exact .inl ⟨0,q1,u,x,toks,o,b,rfl,rfl,rfl,h1⟩
      .exact(k2 id b' hg).succ
    · simp only[qD]
      by_cases e:q1=id
      .rw[aLQ e];exact⟨_,rfl⟩
      · rw[aLU e]
        simp only[qG,aL3] at hi;exact k3 id (hi.resolve_left (Ne.symm e))
    · cases c with
      |zero=>simp only[aMm,aLO] at hw;subst hw;simp [qG,rH.id]
      |succ c=>simp only[qG,aL3];exact .inr (k4 c wh (by simpa using hw))
    · cases c with
      |zero=>simp at hn
      | succ c=>
        have:=k5 c b' (by simpa using hb) (by simpa using hn);simp only[qG,aL3];right;rw[show base+(c0+(c+1))=base+(c0+1+c) from by omega];exact this
  | .tok k::ws,b::R,c0,upd,h=>by
    simp only[AK] at h;obtain⟨q,r,h1,h2,rfl⟩:=X6 h;obtain⟨k1,k2,k3,k4,k5⟩:=KV h2;have hq:=aFy h1;obtain⟨q1,q2⟩:=q;simp only at hq;subst hq;refine⟨by simp;omega,fun id b' hg=> ?_,fun id hi=> ?_,fun c wh hw=> ?_,fun c b' hb hn=> ?_⟩
    · simp only[qD] at hg
      split at hg
      · rename_i e
        obtain rfl:=aLS hg;subst e;exact .inr (.inl ⟨0,q1,b,rfl,rfl,rfl,h1⟩)
      .exact(k2 id b' hg).succ
    · simp only[qD]
      by_cases e:q1=id
      .rw[aLQ e];exact⟨_,rfl⟩
      · rw[aLU e]
        simp only[qG,aL3] at hi;exact k3 id (hi.resolve_left (Ne.symm e))
    · cases c with
      |zero=>simp only[aMm,aLO] at hw;subst hw;simp [qG,rH.id]
      |succ c=>simp only[qG,aL3];exact .inr (k4 c wh (by simpa using hw))
    · cases c with
      |zero=>simp at hn
      | succ c=>
        have:=k5 c b' (by simpa using hb) (by simpa using hn);simp only[qG,aL3];right;rw[show base+(c0+(c+1))=base+(c0+1+c) from by omega];exact this
def tY (g g':Gh) (base:Nat) (W:List rH) (ids:pQ):Gh:=
  ⟨g'.S,fun i=>if base≤i∧i∈ids then g'.J (i-base) else match w5 i W 0 with|some c=>g'.J c|none=>g.J i,
   fun i=>if base≤i∧i∈ids then g'.cur (i-base) else match w5 i W 0 with|some c=>g'.cur c|none=>g.cur i⟩
theorem SH {n c:Nat}{wh:Option rH}:K6 n c wh=true↔c<n∧wh=none:=by
  cases wh with
  |none=>simp [K6]
  |some wh=>simp [K6]
theorem aFA {base n c i:Nat}{wh:Option rH}(h:A0 base n c wh=some i):wh=some (.tok i)∨(wh=none∧c<n∧i=base+c):=by
  cases wh with
  | none=>
    simp only[A0] at h;split at h
    .rename_i hc;exact .inr ⟨rfl,hc,(aLS h).symm⟩
    .cases h
  | some wh=>
    cases wh with
    |box=>cases h
    |tok k=>simp only[A0,aLO] at h;subst h;exact .inl rfl
theorem SI {i:Nat}: ∀{ws:List rH}{c0:Nat},(∀c:Nat,ws[c]? ≠some (.tok i))→w5 i ws c0=none
  |[],_,_=>rfl
  | .tok j::r,c0,h=>by
    simp only[w5];split
    .rename_i e;subst e;exact absurd rfl (h 0)
    .exact SI (fun c=>by have:=h (c+1);simpa using this)
  | .box _ _ _ _ _::r,c0,h=>by
    simp only[w5];exact SI (fun c=>by have:=h (c+1);simpa using this)
theorem aFB {i c:Nat}{ws:List rH}(hnd:(sF ws).Nodup) (h:ws[c]? =some (.tok i)):w5 i ws 0=some c:=by
  cases hc:w5 i ws 0 with
  | none=>
    exfalso
    have: ∀{ws:List rH}{c0 c:Nat},ws[c]? =some (.tok i)→w5 i ws c0≠none:=by
      intro ws
      induction ws with
      |nil=>intro c0 c h;simp at h
      | cons wh r ih=>
        intro c0 c h;cases c with
        | zero=>
          simp only[aMm,aLO] at h;subst h;simp [w5]
        | succ c=>
          simp only[aMx] at h;cases wh with
          |box=>exact ih h
          | tok j=>
            simp only[w5];split
            .simp
            .exact ih h
    exact this h hc
  | some d=>
    obtain⟨d',e1,h2⟩:=KS hc;rw[aMs] at e1;subst e1;rw[SE hnd h h2 rfl]
theorem Fr.mono {A B:Nat→Nat→Prop}{w w':pR}{S S':Nat→Nat→Prop}(h:Fr A w w' S S') (hAB: ∀b o,A b o→B b o):Fr B w w' S S':=
  ⟨h.os,h.tape,h.output,h.size,fun b hb hn=>h.blk b hb (fun o ho=>hn o (hAB b o ho)),fun b o hb hn=>h.cell b o hb (fun ho=>hn (hAB b o ho)),fun b o hs=>(h.new b o hs).imp id (Or.imp id (hAB b o)),fun b s hs=>(h.shape b s hs).imp id fun h o=>hAB b o (h o)⟩
theorem SJ {base n:Nat}{W:List rH}{o:Nat}: ∀{ts:pL}{q k:Nat},(q,k)∈CR base n W o ts→∃q' c,(q',c)∈ts∧A0 base n c (zZ W c)=some k∧q=o+q'
  |[],_,_,h=>by simp [CR] at h
  | (q',c)::r,q,k,h=>by
    simp only[CR] at h;cases hn:A0 base n c (zZ W c) with
    | none=>
      rw[hn] at h;obtain⟨a,b,h1,h2⟩:=SJ h;exact⟨a,b,aL5 _ h1,h2⟩
    | some k'=>
      rw[hn] at h;rcases aL3.1 h with h|h
      · simp only[aMl] at h
        obtain⟨rfl,rfl⟩:=h;exact⟨q',c,by simp,hn,rfl⟩
      · obtain⟨a,b,h1,h2⟩:=SJ h
        exact⟨a,b,aL5 _ h1,h2⟩
theorem wN {α:Type}{x:α}: ∀{l m:List α},x∈qP l m↔x∈l∨x∈m
  |[],m=>by simp [qP]
  |y::l,m=>by simp [qP,wN (l:=l),or_assoc]
theorem X8: ∀{toks:pL}{off n q k:Nat},(q,k)∈vJ toks off n→(q,k)∈toks∧¬(off≤q∧q<off+n)
  |[],_,_,_,_,h=>by simp [vJ] at h
  | (q',k')::r,off,n,q,k,h=>by
    simp only[vJ] at h;split at h
    · obtain⟨h1,h2⟩:=X8 h
      exact⟨aL5 _ h1,h2⟩
    · rename_i hn
      rcases aL3.1 h with h|h
      · cases h
        exact⟨by simp,hn⟩
      · obtain⟨h1,h2⟩:=X8 h
        exact⟨aL5 _ h1,h2⟩
section
variable {g g':Gh}{w w':pR}{H:s0}{W:List rH}{L:List q9}{r:qI}{v:pS}{base:Nat}{upd:List (Nat×q9)}
variable (hH:sG g w H) (hm:NQ H W L) (hr:D1 (vD g W) w L r g' w' v) (hb:AK base r.H.length W 0 W r.H=some upd) (hf: ∀i,i∈qG upd→base≤i→g.J i=none∧∀n,g.cur i n=none)
include hH hm hr hb hf
theorem DZ {c:Nat}{wh:rH}(hw:W[c]? =some wh):wh.id∈qG upd∧wh.id<base∧∃b,L[c]? =some b∧SB H W wh b:=by
  have hin:=(KV hb).2.2.2.1 c wh hw;have hlt:c<L.length:=hm.len▸(aL1.1 hw).1;have hok:=hm.ok c wh _ hw (aLZ hlt);refine⟨hin,Nat.lt_of_not_le fun hle=> ?_,_,aLZ hlt,hok⟩;have hfr:=hf _ hin hle;cases wh with
  | box i u x toks o=>
    cases hL:L[c] with
    | cells t y ts=>
      rw[hL] at hok;obtain⟨p,cs,hp,_⟩:=hH.blk i _ hok.1;rw[show (rH.box i u x toks o).id=i from rfl] at hfr;rw[hfr.1] at hp;cases hp
    |_=>rw[hL] at hok;exact hok.elim
  | tok k=>
    cases hL:L[c] with
    | grow e cc m=>
      rw[hL] at hok;obtain⟨v,xs,hv,_⟩:=hH.blk k _ hok;rw[show (rH.tok k).id=k from rfl] at hfr;rw[hfr.2] at hv;cases hv
    | map s t l=>
      rw[hL] at hok;obtain⟨p,es,cl,hp,_⟩:=hH.blk k _ hok.1;rw[show (rH.tok k).id=k from rfl] at hfr;rw[hfr.1] at hp;cases hp
    | row e t l m=>
      rw[hL] at hok;obtain⟨_,v,xs,hv,_⟩:=hH.blk k _ hok.1;rw[show (rH.tok k).id=k from rfl] at hfr;rw[hfr.2] at hv;cases hv
    |_=>rw[hL] at hok;exact hok.elim
theorem aFC {c:Nat}(hc:c<r.H.length) (hn:W[c]? =none):base+c∈qG upd:=by
  have:=(KV hb).2.2.2.2 c _ (aLZ hc) hn;simpa using this
theorem KW {c:Nat}(hc:c<r.H.length) (hn:W[c]? =none):(tY g g' base W (qG upd)).J (base+c)=g'.J c∧(tY g g' base W (qG upd)).cur (base+c)=g'.cur c:=by
  have hin:=aFC hH hm hr hb hf hc hn;refine⟨?_,?_⟩
  · show (if base≤base+c∧base+c∈qG upd then _ else _)=_
    rw[aLQ ⟨pG,hin⟩,aMC]
  · show (if base≤base+c∧base+c∈qG upd then _ else _)=_
    rw[aLQ ⟨pG,hin⟩,aMC]
theorem a7C {i:Nat}(hi: ¬(base≤i∧i∈qG upd)) (hn:w5 i W 0=none):(tY g g' base W (qG upd)).J i=g.J i∧(tY g g' base W (qG upd)).cur i=g.cur i:=by
  refine⟨?_,?_⟩
  · show (if base≤i∧i∈qG upd then _ else _)=_
    rw[aLU hi,hn]
  · show (if base≤i∧i∈qG upd then _ else _)=_
    rw[aLU hi,hn]
theorem a7D {c k:Nat}(hw:W[c]? =some (.tok k)):(tY g g' base W (qG upd)).J k=g'.J c∧(tY g g' base W (qG upd)).cur k=g'.cur c:=by
  have hlt:=(DZ hH hm hr hb hf hw).2.1;simp only[rH.id] at hlt;have hc:=aFB hm.nodup hw;refine⟨?_,?_⟩
  · show (if base≤k∧k∈qG upd then _ else _)=_
    rw[aLU pG,hc]
  · show (if base≤k∧k∈qG upd then _ else _)=_
    rw[aLU pG,hc]
theorem NR {c i:Nat}{u:Ty}{x:u.den}{toks:pL}{o:Nat}(hw:W[c]? =some (.box i u x toks o)):(tY g g' base W (qG upd)).J i=g.J i∧(tY g g' base W (qG upd)).cur i=g.cur i:=by
  have hlt:=(DZ hH hm hr hb hf hw).2.1;simp only[rH.id] at hlt;refine a7C hH hm hr hb hf pG (SI fun d hd=> ?_);have:=SE hm.nodup hw hd rfl;subst this;rw[hw] at hd;cases hd
theorem IM {c i:Nat}(hi:A0 base r.H.length c W[c]? =some i):(tY g g' base W (qG upd)).J i=g'.J c∧(tY g g' base W (qG upd)).cur i=g'.cur c:=by
  rcases aFA hi with h|⟨h1,h2,rfl⟩
  .exact a7D hH hm hr hb hf h
  .exact KW hH hm hr hb hf h2 h1
theorem a7E:Le g w (tY g g' base W (qG upd)) w':=by
  have len: ∀{i c:Nat},w5 i W 0=some c→W[c]? =some (.tok i)∧c<L.length:=by
    intro i c h;obtain⟨d,e1,h2⟩:=KS h;rw[aMs] at e1;subst e1;exact⟨h2,hm.len▸(aL1.1 h2).1⟩
  refine⟨fun b o h=>(hr.shut b o h).1,fun b o h=>(hr.shut b o h).2,fun i p h=> ?_,fun i n u h=> ?_⟩
  · show (if base≤i∧i∈qG upd then _ else _)=_
    rw[aLU (fun⟨h1,h2⟩=>by rw[(hf i h2 h1).1] at h;cases h)];cases hc:w5 i W 0 with
    |none=>exact h
    | some c=>
      obtain⟨h1,h2⟩:=len hc;refine hr.Jt c p h2 ?_;show vY g W[c]? =_;rw[h1];exact h
  · show (if base≤i∧i∈qG upd then g'.cur (i-base) else match w5 i W 0 with|some c=>g'.cur c|none=>g.cur i) n=_
    rw[aLU (fun⟨h1,h2⟩=>by rw[(hf i h2 h1).2] at h;cases h)];cases hc:w5 i W 0 with
    |none=>exact h
    | some c=>
      obtain⟨h1,h2⟩:=len hc;refine hr.cur c n u h2 ?_;show AM g W[c]? n=_;rw[h1];exact h
theorem aFD {t:Ty}{x y:t.den}{cs:pN}(hx:Rd g' w' t x cs) (h:BF base r.H.length W t x=some y):Rd (tY g g' base W (qG upd)) w' t y cs:=by
  refine SD (g:=g') (g':=tY g g' base W (qG upd)) rfl (BF base r.H.length W) (fun a b x=>rfl) (fun t x=>rfl) (fun _=>rfl) (fun _ _=>rfl) (fun _=>rfl) (fun _=>rfl) (fun _=>rfl) (fun _ _ x y cs h hx=> ?_) (fun x y cs h hx=> ?_) (fun x y cs h hx=> ?_) (fun x y cs h hx=> ?_) (fun _=>rfl) hx h
  · cases x with
    |none=>cases h;exact hx
    | some q=>
      obtain⟨c,n⟩:=q;simp only[BF,a5V,zK] at h;obtain⟨i,hi,rfl⟩:=aLW.1 h;obtain⟨v,hv,hs⟩:=hx;exact⟨v,by rw[(IM hH hm hr hb hf hi).2];exact hv,hs⟩
  · cases x with
    |none=>cases h;exact hx
    | some q=>
      obtain⟨c,o⟩:=q;simp only[BF,I3] at h;obtain⟨p,hp,hv⟩:=hx;unfold I3.back2 at h;split at h
      · rename_i i uu x toks o' hwh
        cases h;rw[zK] at hwh;obtain⟨_,hlt,b,hL,hok⟩:=DZ hH hm hr hb hf hwh;cases b with
        | cells t y ts=>
          have hJ:=hr.J c t y ts hL;rw[hp] at hJ;have hJ':vY g W[c]? =some p:=hJ.symm;rw[hwh] at hJ';obtain⟨p0,hp0,rfl⟩:=aLW.1 hJ';exact⟨p0,by rw[(NR hH hm hr hb hf hwh).1];exact hp0,by have:=hv.1;rwa [aMy] at this,hv.2.imp id fun hv=>by rw[hv];simp [aMy]⟩
        |_=>exact hok.elim
      · split at h
        · rename_i hn
          cases h;obtain⟨h1,h2⟩:=SH.1 hn;rw[zK] at h2;exact⟨p,by rw[(KW hH hm hr hb hf h1 h2).1];exact hp,hv⟩
        .cases h
  · cases x with
    |none=>cases h;exact hx
    | some q=>
      obtain⟨c,o⟩:=q;simp only[BF,I3] at h;obtain⟨p,hp,hv⟩:=hx;unfold I3.back2 at h;split at h
      · rename_i i uu x toks o' hwh
        cases h;rw[zK] at hwh;obtain⟨_,hlt,b,hL,hok⟩:=DZ hH hm hr hb hf hwh;cases b with
        | cells t y ts=>
          have hJ:=hr.J c t y ts hL;rw[hp] at hJ;have hJ':vY g W[c]? =some p:=hJ.symm;rw[hwh] at hJ';obtain⟨p0,hp0,rfl⟩:=aLW.1 hJ';exact⟨p0,by rw[(NR hH hm hr hb hf hwh).1];exact hp0,by rw[hv];simp [aMy]⟩
        |_=>exact hok.elim
      · split at h
        · rename_i hn
          cases h;obtain⟨h1,h2⟩:=SH.1 hn;rw[zK] at h2;exact⟨p,by rw[(KW hH hm hr hb hf h1 h2).1];exact hp,hv⟩
        .cases h
  · cases x with
    |none=>cases h;exact hx
    | some c=>
      simp only[BF,a5U,zK] at h;obtain⟨i,hi,rfl⟩:=aLW.1 h;obtain⟨p,hp,hv⟩:=hx;exact⟨p,by rw[(IM hH hm hr hb hf hi).1];exact hp,hv⟩
theorem a7F {t:Ty}{x y:t.den}{cs:pN}(hx:Rd g' w' t x cs) (h:bY base r.H.length W t x y):Rd (tY g g' base W (qG upd)) w' t y cs:=by
  rcases h with⟨hp,rfl⟩ |h
  .exact vT (g:=g') (g':=tY g g' base W (qG upd)) rfl hp hx
  .exact aFD hH hm hr hb hf hx h
omit hH hm hr hb hf in
theorem a7G {n:Nat}{t u:Ty}{x y:t.den}{o:Nat}{l:List u.den}(h:bY base n W t x y) (hg:rC (.list u) t x o=some l):rC (.list u) t y o=some l:=by
  rcases h with⟨_,rfl⟩ |h
  .exact hg
  .exact X4 (BF base n W) (fun _ _ _=>rfl) (fun _ _=>rfl) h hg
theorem a7H: ∀(cs:pL) {l:pL}{vs:pN},xO g' cs vs→K7 base r.H.length W cs=some l→xO (tY g g' base W (qG upd)) l vs
  |[],l,vs,h,e=>by cases e;exact h
  | (c,o)::cs,l,vs,⟨p,vs',hp,hv,hr'⟩,e=>by
    unfold K7 at e;cases h1:V0 base r.H.length c o (zZ W c) with
    |none=>rw[h1] at e;cases e
    | some q=>
      cases h2:K7 base r.H.length W cs with
      |none=>rw[h1,h2] at e;cases e
      | some l'=>
        rw[h1,h2] at e;cases e;refine(?_ : ∃p vs',_);have ih:=a7H cs hr' h2;unfold V0 at h1;split at h1
        · rename_i i uu x toks o' hwh
          cases h1;rw[zK] at hwh;obtain⟨_,hlt,b,hL,hok⟩:=DZ hH hm hr hb hf hwh;cases b with
          | cells t y ts=>
            have hJ:=hr.J c t y ts hL;rw[hp] at hJ;have hJ':vY g W[c]? =some p:=hJ.symm;rw[hwh] at hJ';obtain⟨p0,hp0,rfl⟩:=aLW.1 hJ';exact⟨p0,vs',by rw[(NR hH hm hr hb hf hwh).1];exact hp0,by rw[hv];simp [aMy],ih⟩
          |_=>exact hok.elim
        · split at h1
          · rename_i hn
            cases h1;obtain⟨h3,h4⟩:=SH.1 hn;rw[zK] at h4;exact⟨p,vs',by rw[(KW hH hm hr hb hf h3 h4).1];exact hp,hv,ih⟩
          .cases h1
theorem aFE {s:qC}{u:pS}(h:rJ g' w' s u):rJ (tY g g' base W (qG upd)) w' (QL base r.H.length W s) u:=by
  obtain⟨d,k⟩:=s
  have tokk: ∀{t:Ty}(hp:t.pure=true) {x:t.den}{k:pP},(∀c,k=some c→∃u,t= .list u)→rJ g' w' (.val t x,k) u→rJ (tY g g' base W (qG upd)) w' (.val t x,I2 base r.H.length W k) u:=by
    intro t hp x k hl h;cases k with
    |none=>exact S9 (g:=g') (g':=tY g g' base W (qG upd)) (k:=none) (k':=none) rfl hp (fun c e=>by cases e) h (fun c e=>by cases e) (fun _=>rfl)
    | some c=>
      simp only[I2,zK];cases hn:A0 base r.H.length c W[c]? with
      | some i=>
        refine S9 (g:=g') (g':=tY g g' base W (qG upd)) (k:=some c) (k':=some i) rfl hp hl h (fun c' e=> ?_) (fun e=>by cases e);cases e;refine⟨_,rfl,fun n u hu=> ?_⟩;rw[(IM hH hm hr hb hf hn).2];exact hu
      | none=>
        exact S9 (g:=g') (g':=tY g g' base W (qG upd)) (k:=none) (k':=none) rfl hp (fun c e=>by cases e) ⟨h.1,trivial⟩ (fun c e=>by cases e) (fun _=>rfl)
  unfold QL;split
  · rename_i c m k' heq
    simp only[aMl] at heq;obtain⟨rfl,rfl⟩:=heq;simp only[I2,zK];cases hn:A0 base r.H.length c W[c]? with
    | some i=>
      obtain⟨h3,h4⟩:=h.1;exact⟨⟨by rw[(IM hH hm hr hb hf hn).2];exact h3,h4⟩,trivial⟩
    |none=>exact⟨trivial,trivial⟩
  · rename_i c o k' heq
    simp only[aMl] at heq;obtain⟨rfl,rfl⟩:=heq;obtain⟨p,hp,hv⟩:=yX h.1;unfold a5T;split
    · rename_i i uu x toks o' hwh
      rw[zK] at hwh;obtain⟨_,hlt,b,hL,hok⟩:=DZ hH hm hr hb hf hwh;cases b with
      | cells t y ts=>
        have hJ:=hr.J c t y ts hL;rw[hp] at hJ;have hJ':vY g W[c]? =some p:=hJ.symm;rw[hwh] at hJ';obtain⟨p0,hp0,rfl⟩:=aLW.1 hJ';refine⟨.inr ⟨rfl,p0,by rw[(NR hH hm hr hb hf hwh).1];exact hp0,?_⟩,trivial⟩;rw[hv];simp [aMy]
      |_=>exact hok.elim
    · split
      · rename_i hn
        obtain⟨h1,h2⟩:=SH.1 hn;rw[zK] at h2;exact⟨.inr ⟨rfl,p,by rw[(KW hH hm hr hb hf h1 h2).1];exact hp,by rw[hv]⟩,trivial⟩
      .exact⟨trivial,trivial⟩
  · rename_i k' heq
    simp only[aMl] at heq;obtain⟨rfl,rfl⟩:=heq;rcases h.1 with⟨h1,_⟩ |⟨h1,h2⟩
    .cases h1
    .exact⟨.inr ⟨h1,h2⟩,trivial⟩
  · rename_i c k' heq
    simp only[aMl] at heq;obtain⟨rfl,rfl⟩:=heq;simp only[I2,zK];cases hn:A0 base r.H.length c W[c]? with
    | some i=>
      obtain⟨p,hp,hv⟩:II g' (some c) [u]:=A4 rfl h.1;exact⟨.inr ⟨rfl,p,by rw[(IM hH hm hr hb hf hn).1];exact hp,hv⟩,trivial⟩
    |none=>exact⟨trivial,trivial⟩
  · rename_i k' heq
    simp only[aMl] at heq;obtain⟨rfl,rfl⟩:=heq;rcases h.1 with⟨h1,_⟩ |⟨h1,h2⟩
    .cases h1
    .exact⟨.inr ⟨h1,h2⟩,trivial⟩
  · rename_i f cs k' heq
    simp only[aMl] at heq;obtain⟨rfl,rfl⟩:=heq;cases hc:K7 base r.H.length W cs with
    |none=>exact⟨trivial,trivial⟩
    | some l=>
      rcases h.1 with⟨h1,_⟩ |⟨_,vs,h2,h3⟩
      .cases h1
      .exact⟨.inr ⟨rfl,vs,a7H hH hm hr hb hf cs h2 hc,h3⟩,trivial⟩
  · rename_i t x k' hno hno0 hno2 hno3 hno4 heq
    simp only[aMl] at heq;obtain⟨rfl,rfl⟩:=heq;split
    · rename_i hp
      exact tokk hp aFi (a7f h)
    .exact⟨trivial,trivial⟩
  .exact⟨trivial,trivial⟩
end
theorem a7I {g:Gh}{w:pR}{H:s0}{W:List rH}{L:List q9}(hH:sG g w H) (hm:NQ H W L) {bb oo:Nat}(h:xQ (vD g W) (qM 0 L) bb oo):
  ∃(c:Nat) (wh:rH) (b blk:q9),W[c]? =some wh/\L[c]? =some b/\sA (vD g W) c b bb oo/\qD H wh.id=some blk/\sA g wh.id blk bb oo:=by
 obtain⟨c,b,hc,ho⟩:=h;rw[wW] at hc;have hlt:c<W.length:=hm.len▸(aL1.1 hc).1;have hwh:W[c]? =some W[c]:=aLZ hlt;have hw:=hm.ok c _ b hwh hc;refine⟨c,W[c],b,?_⟩;generalize W[c]=wh at hwh hw;cases wh with
 |box i u x toks off=>
  cases b with
  |cells t y ts=>
   obtain⟨h1,⟨y0,h2,h3⟩,h4⟩:=hw;obtain⟨p,hp,e1,e2,e3⟩:=ho;have hp':vY g W[c]? =some p:=hp;rw[hwh] at hp';obtain⟨p0,hp0,rfl⟩:=aLW.1 hp';obtain⟨p1,cs,hp1,hR,_⟩:=hH.blk i _ h1;obtain⟨c1,c2,c3,hcs,hl,hR2⟩:=CW hR h2;have l1:=sV hR;have l2:=sV hR2;rw[hcs] at l1;simp only[aLT] at l1;exact⟨_,hwh,hc,⟨_,hp,e1,e2,e3⟩,h1,p0,hp0,e1,by simp at e2;omega,by simp at e3;omega⟩
  |_=>exact hw.elim
 |tok k=>
  cases b with
  |grow e cc m=>
   obtain⟨v,hv,hb⟩:=ho;have hv':AM g W[c]? m=some v:=hv;rw[hwh] at hv';exact⟨_,hwh,hc,⟨v,hv,hb⟩,hw,v,hv',hb⟩
  |map s t l=>
   obtain⟨p,hp,hb⟩:=ho;have hp':vY g W[c]? =some p:=hp;rw[hwh] at hp';exact⟨_,hwh,hc,⟨p,hp,hb⟩,hw.1,p,hp',hb⟩
  |row e t l m=>
   obtain⟨v,hv,hb⟩:=ho;have hv':AM g W[c]? m=some v:=hv;rw[hwh] at hv';exact⟨_,hwh,hc,⟨v,hv,hb⟩,hw.1,v,hv',hb⟩
  |_=>exact hw.elim
section
variable {g g':Gh}{w w':pR}{H:s0}{W:List rH}{L:List q9}{r:qI}{v:pS}{base:Nat}{upd:List (Nat×q9)}
variable (hH:sG g w H) (hm:NQ H W L) (hr:D1 (vD g W) w L r g' w' v) (hb:AK base r.H.length W 0 W r.H=some upd) (hf: ∀i,i∈qG upd->base<=i->g.J i=none/\∀n,g.cur i n=none)
include hH hm hr hb hf
theorem X9 {b o:Nat}(h:xQ (vD g W) (qM 0 L) b o):sW g H (qG upd) b o:=by
 obtain⟨c,wh,b0,blk,h1,h2,h3,h4,h5⟩:=a7I hH hm h;exact⟨wh.id,blk,(DZ hH hm hr hb hf h1).1,h4,h5⟩
theorem aFF:Fr (sW g H (qG upd)) w w' g.S (tY g g' base W (qG upd)).S:=hr.fr.mono fun _ _ h=>X9 hH hm hr hb hf h
theorem SK {id:Nat}{b:q9}(hi:id∈qG upd) (hg:qD (qP upd H) id=some b):GS base r.H.length W W r.H 0 id b:=by
 obtain⟨_,k2,k3,_⟩:=KV hb;obtain⟨b',hb'⟩:=k3 id hi;have:qD (qP upd H) id=some b':=by
  have: ∀{u:List (Nat×q9)},qD u id=some b'->qD (qP u H) id=some b':=by
   intro u
   induction u with
   |nil=>intro h;cases h
   |cons q u ih=>
    intro h;simp only[qP,qD] at h|-;split
    .rename_i e;rw[aLQ e] at h;exact h
    .rename_i e;rw[aLU e] at h;exact ih h
  exact this hb'
 rw[this] at hg;obtain rfl:=aLS hg;exact k2 id b' hb'
theorem XA {c i o:Nat}{u:Ty}{x:u.den}{toks:pL}{b0 b:q9}(hW:W[c]? =some (.box i u x toks o)) (hR:r.H[c]? =some b0) (hbb:xB base r.H.length i o W u x toks b0=some (i,b)):
  zI (tY g g' base W (qG upd)) w' i b/\(∀bb oo,sA (tY g g' base W (qG upd)) i b bb oo->sA g i (.cells u x toks) bb oo/\qD H i=some (.cells u x toks))/\
   ∀bb oo,sA (tY g g' base W (qG upd)) i b bb oo->sA g' c b0 bb oo\/(bb<w.heap.size/\¬xQ (vD g W) (qM 0 L) bb oo):=by
 obtain⟨hin,hlt,bL,hL,hok⟩:=DZ hH hm hr hb hf hW;have hJi:=(NR hH hm hr hb hf hW).1;have hle:=a7E hH hm hr hb hf;cases bL with
 |grow=>exact hok.elim
 |row=>exact hok.elim
 |map=>exact hok.elim
 |iter=>exact hok.elim
 |dead=>exact hok.elim
 |cells tL yL tsL=>
  obtain⟨h1,h2,h4⟩:=hok;obtain⟨p,cs,hp,hRd,hra,hth,hns,htk⟩:=hH.blk i _ h1;cases b0 with
  |grow=>simp [xB] at hbb
  |row=>simp [xB] at hbb
  |map=>simp [xB] at hbb
  |iter=>simp [xB] at hbb
  |dead=>
   simp only[xB,aLO,aMl,true_and] at hbb;subst hbb;exact⟨trivial,fun _ _ h=>h.elim,fun _ _ h=>h.elim⟩
  |cells t y ts=>
   have htt:=hr.ty c _ _ _ _ _ _ hL hR;subst htt;obtain⟨y2,z,hbY,hset,hq⟩:=X7 hbb
   .simp only[aMl,true_and] at hq;subst hq;have hblk:=hr.heap.blk c _ (by rw[wW];exact hR);obtain⟨p',cs',hp',hRd',hra',hth',hns',htk'⟩:=hblk;have hJc:=hr.J c _ _ _ hL;have hpc:g'.J c=some ⟨p.1,p.2+o,p.3⟩:=by
     rw[hJc];show vY g W[c]? =_;rw[hW];simp [vY,hp]
    rw[hpc] at hp';obtain rfl:=aLS hp';have hRdx:Rd (tY g g' base W (qG upd)) w' u x cs:=wU hle hRd;have hRdy:Rd (tY g g' base W (qG upd)) w' t y2 cs':=a7F hH hm hr hb hf hRd' hbY;obtain⟨c1,c2,c3,hcs,hl1,hl2,hz⟩:=RX hRdy hRdx hset;subst hcs;subst hl1;have l0:=sV hRd;have l1:=sV hRd';simp only[aLT] at l0;have hfar: ∀q,q<u.cells->¬(c1.length<=q/\q<c1.length+t.cells)->¬xQ (vD g W) (qM 0 L) p.1 (p.2+q):=by
     intro q hq hno hown;obtain⟨c',wh',b',blk',k1,k2,k3,k4,k5⟩:=a7I hH hm hown;by_cases hcc:c'=c
     .subst hcc;rw[hW] at k1;obtain rfl:=aLS k1;rw[hL] at k2;obtain rfl:=aLS k2;obtain⟨pp,hpp,e1,e2,e3⟩:=k3;have hpp':vY g W[c']? =some pp:=hpp;rw[hW] at hpp';simp only[vY,hp,Option.map_some,aLO] at hpp';subst hpp';simp only at e2 e3;exact hno ⟨pG,pG⟩
     .have hid:wh'.id≠i:=fun e=>hcc (SE hm.nodup k1 hW e);exact hH.dis wh'.id i blk' _ p.1 (p.2+q) hid k4 h1 k5 ⟨p,hp,rfl,pG,pG⟩
    have hlt': ∀q,q<u.cells->p.1<w.heap.size:=fun q hq=>KL (hH.blk i _ h1) (b:=p.1) (o:=p.2+q) ⟨p,hp,rfl,pG,pG⟩;have hkeep: ∀q,q<u.cells->¬(c1.length<=q/\q<c1.length+t.cells)->w'.cell? ⟨p.1,p.2+q,none⟩=w.cell? ⟨p.1,p.2+q,none⟩/\w'.frozen? ⟨p.1,p.2+q,none⟩=w.frozen? ⟨p.1,p.2+q,none⟩:=fun q hq hno=>hr.fr.cell _ _ (hlt' q hq) (hfar q hq hno);refine⟨⟨p,c1++cs'++c3,by rw[hJi];exact hp,hz,fun q vv hv=> ?_,⟨fun q hq=> ?_,fun h0 s hs=> ?_⟩,fun q hq hs=> ?_,?_⟩,fun bb oo ho=>⟨?_,h1⟩,fun bb oo ho=> ?_⟩
    .by_cases a1:q<c1.length
     .rw[(hkeep q pG pG).1];refine hra q vv ?_;rw[aLV,aL4 a1] at hv|-;exact hv
     .by_cases a2:q<c1.length+t.cells
      .rw[aLV,aL0 pG,aL4 pG] at hv;have:=hra' (q-c1.length) vv hv;rwa [show p.2+c1.length+(q-c1.length)=p.2+q from by omega] at this
      .rw[aLV,aL0 pG,aL0 pG] at hv;have hq:q<u.cells:=by
        have:=(aL1.1 hv).1;omega
       rw[(hkeep q hq pG).1];refine hra q vv ?_;rw[aLV,aL0 pG,aL0 pG,hl2];rw[l1] at hv;exact hv
    .by_cases a1:c1.length<=q/\q<c1.length+t.cells
     .have:=hth'.1 (q-c1.length) pG;rwa [show p.2+c1.length+(q-c1.length)=p.2+q from by omega] at this
     .rw[(hkeep q hq a1).1,(hkeep q hq a1).2];exact hth.1 q hq
    .by_cases ht0:0<t.cells
     .exact hth'.2 ht0 s hs
     .exact(hr.fr.shape p.1 s (hth.2 h0 s hs)).resolve_right fun h=>hfar 0 h0 pG (h (p.2+0))
    .by_cases a1:c1.length<=q/\q<c1.length+t.cells
     .exact hns' (q-c1.length) pG (by rw[show p.2+c1.length+(q-c1.length)=p.2+q from by omega];exact hs)
     .rcases hr.fr.new _ _ hs with k|k|k
      .exact hns q hq k
      .have:=hlt' q hq;omega
      .exact hfar q hq a1 k
    .intro q kk hmem;rcases wN.1 hmem with hmem|hmem
     .obtain⟨q',c',k1,k2,rfl⟩:=SJ hmem;rw[zK] at k2;obtain⟨u',l,vv,g1,g2,g3⟩:=htk' q' c' k1;have hq':=a68 g1;refine⟨u',l,vv,a67 hset (a7G hbY g1) hq',?_,?_⟩
      .rw[aLV,aL0 pG,aMC,aL4 pG];exact g2
      .rw[(IM hH hm hr hb hf k2).2];exact g3
     .obtain⟨k1,k2⟩:=X8 hmem;obtain⟨u',l,vv,g1,g2,g3⟩:=htk q kk k1;refine⟨u',l,vv,a6X hH hset g1 k2,?_,hle.cur _ _ _ g3⟩;rcases aMY q c1.length with a1|a1
      .rw[aLV,aL4 a1] at g2|-;exact g2
      .rw[aLV,aL0 pG,aL0 pG] at g2|-;rw[l1];rw[hl2] at g2;exact g2
    .obtain⟨pp,hpp,e1,e2,e3⟩:=ho;rw[hJi,hp] at hpp;obtain rfl:=aLS hpp;exact⟨p,hp,e1,e2,e3⟩
    .obtain⟨pp,hpp,e1,e2,e3⟩:=ho;rw[hJi,hp] at hpp;obtain rfl:=aLS hpp;subst e1;by_cases a1:c1.length<=oo-p.2/\oo-p.2<c1.length+t.cells
     .exact .inl ⟨_,hpc,rfl,by simp only;omega,by simp only;omega⟩
     .right;refine⟨hlt' (oo-p.2) pG,?_⟩;have:=hfar (oo-p.2) pG a1;rwa [show p.2+(oo-p.2)=oo from by omega] at this
theorem XB {c:Nat}{b0 b:q9}(hn:W[c]? =none) (hR:r.H[c]? =some b0) (hbn:CS base r.H.length c W b0=some (base+c,b)):
  zI (tY g g' base W (qG upd)) w' (base+c) b/\∀bb oo,sA (tY g g' base W (qG upd)) (base+c) b bb oo->sA g' c b0 bb oo:=by
 have hc:=(aL1.1 hR).1;obtain⟨hJ,hcur⟩:=KW hH hm hr hb hf hc hn;have hblk:=hr.heap.blk c _ (by rw[wW];exact hR);cases b0 with
 |dead=>
  simp only[CS,aLO,aMl,true_and] at hbn;subst hbn;exact⟨trivial,fun _ _ h=>h.elim⟩
 |grow e m k=>
  simp only[CS,aLO,aMl,true_and] at hbn;subst hbn;obtain⟨u,xs,hv,h1,h2,h3⟩:=hblk;exact⟨⟨u,xs,by rw[hcur];exact hv,h1,fun m hm'=>by rw[hcur];exact h2 m hm',h3⟩,fun bb oo ⟨v',hv',hb'⟩=>⟨v',by rw[hcur] at hv';exact hv',hb'⟩⟩
 |row e t l n=>
  simp only[CS] at hbn;split at hbn
  .rename_i hp;simp only[aLO,aMl,true_and] at hbn;subst hbn;obtain⟨h0,u,xs,hv,h1,h4,h2,h3⟩:=hblk;exact⟨⟨h0,u,xs,by rw[hcur];exact hv,h1,C7 (fun _ _ h=>vT (g:=g') (g':=tY g g' base W (qG upd)) rfl hp h) h4,fun m hm'=>by rw[hcur];exact h2 m hm',h3⟩,fun bb oo ⟨v',hv',hb'⟩=>⟨v',by rw[hcur] at hv';exact hv',hb'⟩⟩
  .cases hbn
 |iter s n=>simp [CS] at hbn
 |map k v l=>
  simp only[CS] at hbn;split at hbn
  .rename_i hp;rw[aMb] at hp;simp only[aLO,aMl,true_and] at hbn;subst hbn;obtain⟨p,es,cl,hp1,hp0,hh,hM,hS⟩:=hblk;exact⟨⟨p,es,cl,by rw[hJ];exact hp1,hp0,hh,ND (g:=g') (g':=tY g g' base W (qG upd)) rfl hp.1 hp.2 hM,hS⟩,fun bb oo ⟨pp,hpp,e⟩=>⟨pp,by rw[hJ] at hpp;exact hpp,e⟩⟩
  .cases hbn
 |cells t y ts=>
  have fin: ∀y2,bY base r.H.length W t y y2->zI (tY g g' base W (qG upd)) w' (base+c) (.cells t y2 (CR base r.H.length W 0 ts))/\∀bb oo,sA (tY g g' base W (qG upd)) (base+c) (.cells t y2 (CR base r.H.length W 0 ts)) bb oo->sA g' c (.cells t y ts) bb oo:=by
   intro y2 hbY;obtain⟨p,cs,hp1,hR1,h1,h2,h3,h4⟩:=hblk;refine⟨⟨p,cs,by rw[hJ];exact hp1,a7F hH hm hr hb hf hR1 hbY,h1,h2,h3,fun q kk hmem=> ?_⟩,fun bb oo ⟨pp,hpp,e⟩=>⟨pp,by rw[hJ] at hpp;exact hpp,e⟩⟩;obtain⟨q',c',k1,k2,rfl⟩:=SJ hmem;rw[zK] at k2;obtain⟨u',l,vv,g1,g2,g3⟩:=h4 q' c' k1;exact⟨u',l,vv,by rw[aMs];exact a7G hbY g1,by rw[aMs];exact g2,by rw[(IM hH hm hr hb hf k2).2];exact g3⟩
  simp only[CS] at hbn;split at hbn
  .rename_i hp;simp only[aLO,aMl,true_and] at hbn;subst hbn;exact fin y (.inl ⟨hp,rfl⟩)
  .obtain⟨y2,hy,hq⟩:=a7B hbn;simp only[aMl,true_and] at hq;subst hq;exact fin y2 (.inr hy)
theorem XC {c k:Nat}{b0 b:q9}(hW:W[c]? =some (.tok k)) (hR:r.H[c]? =some b0) (hbk:zE k b0=some (k,b)):
  zI (tY g g' base W (qG upd)) w' k b/\∀bb oo,sA (tY g g' base W (qG upd)) k b bb oo->sA g' c b0 bb oo:=by
 obtain⟨hJ,hcur⟩:=a7D hH hm hr hb hf hW;have hblk:=hr.heap.blk c _ (by rw[wW];exact hR);cases b0 with
 |dead=>
  simp only[zE,aLO,aMl,true_and] at hbk;subst hbk;exact⟨trivial,fun _ _ h=>h.elim⟩
 |grow e m n=>
  simp only[zE,aLO,aMl,true_and] at hbk;subst hbk;obtain⟨u,xs,hv,h1,h2,h3⟩:=hblk;exact⟨⟨u,xs,by rw[hcur];exact hv,h1,fun m hm'=>by rw[hcur];exact h2 m hm',h3⟩,fun bb oo ⟨v',hv',hb'⟩=>⟨v',by rw[hcur] at hv';exact hv',hb'⟩⟩
 |row e t l n=>
  simp only[zE] at hbk;split at hbk
  .rename_i hp;simp only[aLO,aMl,true_and] at hbk;subst hbk;obtain⟨h0,u,xs,hv,h1,h4,h2,h3⟩:=hblk;exact⟨⟨h0,u,xs,by rw[hcur];exact hv,h1,C7 (fun _ _ h=>vT (g:=g') (g':=tY g g' base W (qG upd)) rfl hp h) h4,fun m hm'=>by rw[hcur];exact h2 m hm',h3⟩,fun bb oo ⟨v',hv',hb'⟩=>⟨v',by rw[hcur] at hv';exact hv',hb'⟩⟩
  .cases hbk
 |iter s n=>simp [zE] at hbk
 |map s v l=>
  simp only[zE] at hbk;split at hbk
  .rename_i hp;rw[aMb] at hp;simp only[aLO,aMl,true_and] at hbk;subst hbk;obtain⟨p,es,cl,hp1,hp0,hh,hM,hS⟩:=hblk;exact⟨⟨p,es,cl,by rw[hJ];exact hp1,hp0,hh,ND (g:=g') (g':=tY g g' base W (qG upd)) rfl hp.1 hp.2 hM,hS⟩,fun bb oo ⟨pp,hpp,e⟩=>⟨pp,by rw[hJ] at hpp;exact hpp,e⟩⟩
  .cases hbk
 |cells t y ts=>simp [zE] at hbk
theorem aFG {side:List Prop}{s:qC}{rds:pQ}{vv:pS}(hs:rJ (tY g g' base W (qG upd)) w' s vv):sB g w H ⟨side,s,upd,rds⟩ (tY g g' base W (qG upd)) w' vv:=by
 have le:=a7E hH hm hr hb hf;have fr:=aFF hH hm hr hb hf;have gho: ∀i,i∉qG upd->(tY g g' base W (qG upd)).J i=g.J i/\(tY g g' base W (qG upd)).cur i=g.cur i:=fun i hi=>
  a7C hH hm hr hb hf (fun h=>hi h.2) (SI fun c hc=>hi ((DZ hH hm hr hb hf hc).1))
 have perm: ∀i blk b o,i∈qG upd->qD (qP upd H) i=some blk->sA (tY g g' base W (qG upd)) i blk b o->w.heap.size<=b\/sW g H (qG upd) b o:=by
  intro i blk b o hi hg ho;rcases SK hH hm hr hb hf hi hg with⟨c,i',u,x,toks,off,b0,h1,h2,h3,h4⟩ |⟨c,k,b0,h1,h2,h3,h4⟩ |⟨c,b0,h1,h2,h3,h4⟩
  .subst h2;obtain⟨_,k2,_⟩:=XA hH hm hr hb hf h1 h3 h4;exact .inr ⟨i,_,hi,(k2 b o ho).2,(k2 b o ho).1⟩
  .subst h2;obtain⟨_,k2⟩:=XC hH hm hr hb hf h1 h3 h4;exact(hr.perm c b0 b o h3 (k2 b o ho)).imp id fun h=>X9 hH hm hr hb hf h
  .rw[aMs] at h2 h4;subst h2;obtain⟨_,k2⟩:=XB hH hm hr hb hf h3 h1 h4;exact(hr.perm c b0 b o h1 (k2 b o ho)).imp id fun h=>X9 hH hm hr hb hf h
 refine⟨le,hs,hH.upd le fr perm gho (fun i blk hi hg=> ?_) (fun i j bi bj b o hi hj hij hgi hgj hoi hoj=> ?_) (fun b o h=>hr.heap.sl b o h),fr,perm,gho,fun i u' y us h=> ?_⟩
 .rcases SK hH hm hr hb hf hi hg with⟨c,i',u,x,toks,off,b0,h1,h2,h3,h4⟩ |⟨c,k,b0,h1,h2,h3,h4⟩ |⟨c,b0,h1,h2,h3,h4⟩
  .subst h2;exact(XA hH hm hr hb hf h1 h3 h4).1
  .subst h2;exact(XC hH hm hr hb hf h1 h3 h4).1
  .rw[aMs] at h2 h4;subst h2;exact(XB hH hm hr hb hf h3 h1 h4).1
 .have cls: ∀{i:Nat}{blk:q9},i∈qG upd->qD (qP upd H) i=some blk->sA (tY g g' base W (qG upd)) i blk b o->
    (∃c u x toks off b0,W[c]? =some (.box i u x toks off)/\r.H[c]? =some b0/\sA g i (.cells u x toks) b o/\qD H i=some (.cells u x toks)/\(sA g' c b0 b o\/(b<w.heap.size/\¬xQ (vD g W) (qM 0 L) b o)))\/
    (∃c b0,A0 base r.H.length c W[c]? =some i/\r.H[c]? =some b0/\sA g' c b0 b o):=by
   intro i blk hi hg ho;rcases SK hH hm hr hb hf hi hg with⟨c,i',u,x,toks,off,b0,h1,h2,h3,h4⟩ |⟨c,k,b0,h1,h2,h3,h4⟩ |⟨c,b0,h1,h2,h3,h4⟩
   .subst h2;obtain⟨_,k2,k3⟩:=XA hH hm hr hb hf h1 h3 h4;exact .inl ⟨c,u,x,toks,off,b0,h1,h3,(k2 b o ho).1,(k2 b o ho).2,k3 b o ho⟩
   .subst h2;obtain⟨_,k2⟩:=XC hH hm hr hb hf h1 h3 h4;exact .inr ⟨c,b0,by rw[h1];rfl,h3,k2 b o ho⟩
   .rw[aMs] at h2 h4;subst h2;obtain⟨_,k2⟩:=XB hH hm hr hb hf h3 h1 h4;exact .inr ⟨c,b0,by rw[h3];simp only[A0];rw[aLQ (aL1.1 h1).1],h1,k2 b o ho⟩
  have cross: ∀{c c':Nat}{b0 b1:q9},c≠c'->r.H[c]? =some b0->r.H[c']? =some b1->sA g' c b0 b o->sA g' c' b1 b o->False:=fun hne h1 h2 o1 o2=>
   hr.heap.dis _ _ _ _ b o hne (by rw[wW];exact h1) (by rw[wW];exact h2) o1 o2
  rcases cls hi hgi hoi with⟨c,u,x,toks,off,b0,h1,h2,h3,h4,h5⟩ |⟨c,b0,h1,h3,h4⟩<;>rcases cls hj hgj hoj with⟨c',u',x',toks',off',b0',k1,k2,k3,k4,k5⟩ |⟨c',b0',k1,k3,k4⟩
  .exact hH.dis i j _ _ b o hij h4 k4 h3 k3
  .rcases h5 with h5|⟨h5,h6⟩
   .exact cross (fun e=>by subst e;rw[h1] at k1;cases k1) h2 k3 h5 k4
   .rcases hr.perm c' b0' b o k3 k4 with h|h
    .omega
    .exact h6 h
  .rcases k5 with k5|⟨k5,k6⟩
   .exact cross (fun e=>by subst e;rw[k1] at h1;cases h1) h3 k2 h4 k5
   .rcases hr.perm c b0 b o h3 h4 with h|h
    .omega
    .exact k6 h
  .exact cross (fun e=>by subst e;rw[h1] at k1;exact hij (aLS k1)) h3 k3 h4 k4
 .by_cases hi:i∈qG upd
  .rcases SK hH hm hr hb hf hi h with⟨c,i',u,x,toks,off,b0,h1,h2,h3,h4⟩ |⟨c,k,b0,h1,h2,h3,h4⟩ |⟨c,b0,h1,h2,h3,h4⟩
   .subst h2;obtain⟨_,_,bL,hL,hok⟩:=DZ hH hm hr hb hf h1;cases b0 with
    |cells t y0 ts=>
     obtain⟨y2,z,_,hset,hq⟩:=X7 h4;simp only[aMl,q9.cells.injEq,true_and] at hq;obtain⟨rfl,_⟩:=hq;cases bL with
     |cells=>exact .inl ⟨x,toks,hok.1⟩
     |_=>exact hok.elim
    |grow=>simp [xB] at h4
    |row=>simp [xB] at h4
    |map=>simp [xB] at h4
    |iter=>simp [xB] at h4
    |dead=>simp [xB] at h4
   .cases b0 with
    |cells t y0 ts=>simp [zE] at h4
    |iter=>simp [zE] at h4
    |map=>simp only[zE] at h4;split at h4<;>simp at h4
    |row=>simp only[zE] at h4;split at h4<;>simp at h4
    |_=>simp [zE] at h4
   .rw[aMs] at h2;exact .inr (hf i hi pG)
  .exact .inl ⟨y,us,(BN hi).symm.trans h⟩
end
section
variable {P:Program}{g:Gh}{w:pR}
def aFH (P:Program) (g:Gh) (w:pR) (d:Nat) (ty:Ty) (x y:ty.den):WB->Prop
 | .ty t=> ∀vx vy,tJ g w ty x vx->tJ g w ty y vy->∃b,B9 ty x y=some b/\(Op.equalIn (d+1) t vx vy).run P w= .ok b w
 | .fs o l=> ∀px py cx cy,px.length=o->py.length=o->Rd g w ty x cx->Rd g w ty y cy->∃b,B9 ty x y=some b/\(Op.eqFields (d+1) (px++cx).toArray (py++cy).toArray l).run P w= .ok b w
 | .el e i m=> ∀px py cx cy,px.length=i*P.cellsOf e->py.length=i*P.cellsOf e->Rd g w ty x cx->Rd g w ty y cy->∃b,B9 ty x y=some b/\(Op.eqItems (d+1) e (P.cellsOf e) (px++cx).toArray (py++cy).toArray (List.range' i m)).run P w= .ok b w
theorem aFI {e:TypeId}{n:Nat}(h:(P.info? e).map (·.size)=some n):P.cellsOf e=n:=by
 obtain⟨i,h1,h2⟩:=aLW.1 h;simp [Program.cellsOf,h1,h2]
theorem y5.run {n:Nat}{ix:WB}{ty:Ty}(h:y5 P n ix ty): ∀(d:Nat),n<=d->∀x y:ty.den,aFH P g w d ty x y ix:=by
 induction h with
 |bool hu=>
  intro d _ x y vx vy hx hy;obtain rfl:=vL hx;obtain rfl:=vL hy;exact⟨_,rfl,run_equalIn_bool' w d _ _ _ hu⟩
 |int hu=>
  intro d _ x y vx vy hx hy;obtain rfl:=w7 hx;obtain rfl:=w7 hy;refine⟨_,rfl,(run_equalIn_int w d _ _ _ _ _ hu).trans ?_⟩;congr 1
 |str hu=>
  intro d _ x y vx vy hx hy;obtain rfl:=wG hx;obtain rfl:=wG hy;refine⟨_,rfl,(run_equalIn_string w d _ _ _ hu).trans ?_⟩;congr 1;rw[ByteArray.toList_eq,ByteArray.toList_eq];exact NI _ _
 | @struct h0 t0 fs0 ty0 hr hu hs _ ih=>
  intro d hd x y vx vy hx hy;obtain⟨cx,rfl,rx⟩:=IK hr hx;obtain⟨cy,rfl,ry⟩:=IK hr hy;obtain⟨d,rfl⟩: ∃d',d=d'+1:=⟨d-1,pG⟩;obtain⟨b,h1,h2⟩:=ih d pG x y [] [] cx cy rfl rfl rx ry;refine⟨b,h1,?_⟩;have hf:P.fieldsOf t0=fs0:=by unfold Program.fieldsOf;rw[hu]
  rw[run_equalIn_struct w _ _ _ _ (by rw[hf];exact hu) hs,hf];simpa using h2
 |arr hr hu hi _ ih=>
  intro d hd x y vx vy hx hy;obtain⟨cx,rfl,rx⟩:=IK hr hx;obtain⟨cy,rfl,ry⟩:=IK hr hy;obtain⟨d,rfl⟩: ∃d',d=d'+1:=⟨d-1,pG⟩;obtain⟨b,h1,h2⟩:=ih d pG x y [] [] cx cy pI pI rx ry;refine⟨b,h1,?_⟩;obtain⟨i,hi⟩:=aLR.1 hi;rw[run_equalIn_array w _ _ _ hu hi,List.range_eq_range'];simpa using h2
 |nil=>
  intro d _ x y px py cx cy _ _ _ _;exact⟨true,rfl,by simp [Op.eqFields]⟩
 |anil=>
  intro d _ x y px py cx cy _ _ _ _;exact⟨true,rfl,by simp [Op.eqItems]⟩
 | @cons h o f r a b hn ho hsz hrow _ _ iha ihb=>
  intro d hd x y px py cx cy hpx hpy ⟨x1,x2,ex,rx1,rx2⟩ ⟨y1,y2,ey,ry1,ry2⟩;subst ex;subst ey;obtain⟨vx,p1,v1⟩:=NJ (P:=P) (c1:=px) (c3:=x2) hsz hrow rx1;obtain⟨vy,p2,v2⟩:=NJ (P:=P) (c1:=py) (c3:=y2) hsz hrow ry1;obtain⟨b1,e1,r1⟩:=iha d hd x.1 y.1 vx vy v1 v2;obtain⟨b2,e2,r2⟩:=ihb d hd x.2 y.2 (px++x1) (py++y1) x2 y2 (by rw[aLT,hpx,sV rx1]) (by rw[aLT,hpy,sV ry1]) rx2 ry2;refine⟨b1&&b2,by simp only[B9,e1,e2,B9.eqAnd],?_⟩;rw[aLV] at p1 p2 r2;rw[aLV] at r2;rw[hpx,<-ho] at p1;rw[hpy,<-ho] at p2;simp only[Op.eqFields,aLQ hn,aL2,p1,p2,aLX,r1];cases b1
  .simp
  .simpa using r2
 | @acons h e i m a b hsz hrow _ _ iha ihb=>
  intro d hd x y px py cx cy hpx hpy ⟨x1,x2,ex,rx1,rx2⟩ ⟨y1,y2,ey,ry1,ry2⟩;subst ex;subst ey;have hc:=aFI hsz;obtain⟨vx,p1,v1⟩:=NJ (P:=P) (c1:=px) (c3:=x2) hsz hrow rx1;obtain⟨vy,p2,v2⟩:=NJ (P:=P) (c1:=py) (c3:=y2) hsz hrow ry1;obtain⟨b1,e1,r1⟩:=iha d hd x.1 y.1 vx vy v1 v2;obtain⟨b2,e2,r2⟩:=ihb d hd x.2 y.2 (px++x1) (py++y1) x2 y2 (by rw[aLT,hpx,sV rx1,hc,aMX]) (by rw[aLT,hpy,sV ry1,hc,aMX]) rx2 ry2;refine⟨b1&&b2,by simp only[B9,e1,e2,B9.eqAnd],?_⟩;rw[aLV] at p1 p2 r2;rw[aLV] at r2;rw[hpx] at p1;rw[hpy] at p2;simp only[List.range'_succ,Op.eqItems,aL2,p1,p2,aLX,r1];cases b1
  .simp
  .simpa using r2
variable {o:Oper}{a:Act}{H:s0}{T:sM}(hT:wV P T) (hH:sG g w H)
include hT hH
theorem aFJ {op:BinOp}{xt yt:TypeId}{x y:Operand}(ho:o.op= .binOp op xt x y yt) {sx sy:qC}(hx:rJ g w sx (a.eval x)) (hy:rJ g w sy (a.eval y)) {e:qH}
  (hr:zX (UU (rK T xt) op sx sy)=some e):rD P o a g w H e:=by
 obtain⟨q,hq,rfl⟩:=GP hr;have go: ∀{u v:pS},a.eval x=u->a.eval y=v->(∃z,(do eqGuard op xt x y u v;Go.binOp op xt u v:Sem pS).run P w= .ok z w/\zH g w q.2 z)->rD P o a g w H ⟨q.1,(q.2,none),[],[]⟩:=by
  rintro u v rfl rfl ⟨z,hz,hd⟩;refine rD.pure hH (v:=z) ?_ hd;unfold execOp;rw[ho];simp only[aL2,aMf] at hz|-;rw[hz];rfl
 replace hx:=hx.1;replace hy:=hy.1;generalize hti:rK T xt=oti at hq;unfold UU at hq;split at hq
 .rename_i u el by' ar ls_ t l k k';have hd:=(tD hT hti).2;simp only[xP] at hd;obtain⟨ax,cx,ex,hle,hll⟩:=CY hx;have hnil:ax=none->l=[]:=fun h=>by
   rcases hll with h1|⟨b,o,h1,_⟩
   .exact h1
   .rw[h] at h1;cases h1
  have ey:a.eval y= .slice none 0 0:=hy;refine go ex ey ?_;unfold QC at hq;split at hq
  .cases hq;have h1:(do eqGuard .eql xt x y (.slice ax (List.length l) cx) (.slice none 0 0);Go.binOp .eql xt (.slice ax (List.length l) cx) (.slice none 0 0):Sem pS).run P w= .ok (.bool ax.isNone) w:=by
    simp only[aL2];rw[show (eqGuard .eql xt x y (.slice ax (List.length l) cx) (.slice none 0 0)).run P w= .ok () w from by simp [eqGuard]];exact Lib.run_eql_slice_nil (P:=P) w xt _ ax (List.length l) cx 0 0 hd.1
   exact⟨_,h1,_,rfl,fun h=>hnil (by simpa using h),fun _=>trivial⟩
  .cases hq;have h1:(do eqGuard .neq xt x y (.slice ax (List.length l) cx) (.slice none 0 0);Go.binOp .neq xt (.slice ax (List.length l) cx) (.slice none 0 0):Sem pS).run P w= .ok (.bool (!ax.isNone)) w:=by
    simp only[aL2];rw[show (eqGuard .neq xt x y (.slice ax (List.length l) cx) (.slice none 0 0)).run P w= .ok () w from by simp [eqGuard]];exact run_neq_slice_nil_any (P:=P) w xt _ ax (List.length l) cx 0 0 hd.1
   exact⟨_,h1,_,rfl,fun _=>trivial,fun h=>hnil (by simpa using h)⟩
  .cases hq
 .rename_i u el by' ar ls_ k t l k';have hd:=(tD hT hti).2;simp only[xP] at hd;obtain⟨ay,cy,ey,hle,hll⟩:=CY hy;have hnil:ay=none->l=[]:=fun h=>by
   rcases hll with h1|⟨b,o,h1,_⟩
   .exact h1
   .rw[h] at h1;cases h1
  have ex:a.eval x= .slice none 0 0:=hx;refine go ex ey ?_;unfold QC at hq;split at hq
  .cases hq;have h1:(do eqGuard .eql xt x y (.slice none 0 0) (.slice ay (List.length l) cy);Go.binOp .eql xt (.slice none 0 0) (.slice ay (List.length l) cy):Sem pS).run P w= .ok (.bool ay.isNone) w:=by
    simp only[aL2];rw[show (eqGuard .eql xt x y (.slice none 0 0) (.slice ay (List.length l) cy)).run P w= .ok () w from by simp [eqGuard]];exact run_eql_nil_slice (P:=P) w xt _ ay (List.length l) cy 0 0 hd.1
   exact⟨_,h1,_,rfl,fun h=>hnil (by simpa using h),fun _=>trivial⟩
  .cases hq;have h1:(do eqGuard .neq xt x y (.slice none 0 0) (.slice ay (List.length l) cy);Go.binOp .neq xt (.slice none 0 0) (.slice ay (List.length l) cy):Sem pS).run P w= .ok (.bool (!ay.isNone)) w:=by
    simp only[aL2];rw[show (eqGuard .neq xt x y (.slice none 0 0) (.slice ay (List.length l) cy)).run P w= .ok () w from by simp [eqGuard]];exact run_neq_nil_slice (P:=P) w xt _ ay (List.length l) cy 0 0 hd.1
   exact⟨_,h1,_,rfl,fun _=>trivial,fun h=>hnil (by simpa using h)⟩
  .cases hq
 .rename_i u el b ar ls_ t x' k t' y' k';unfold a5O at hq;split at hq
  .rename_i htt;subst htt;split at hq
   .rename_i hc;obtain⟨rfl,hc⟩:=hc;simp only[uF] at hq;obtain⟨r,hr1,hr2⟩: ∃r,B9 t' x' y'=some r/\((op= .eql/\q=([],.val .bool r))\/(op= .neq/\q=([],.val .bool (!r)))):=by
     generalize hgen:B9 t' x' y'=od at hq;unfold a5M at hq;split at hq
     .rename_i r;cases hq;exact⟨r,rfl,.inl ⟨rfl,rfl⟩⟩
     .rename_i r;cases hq;exact⟨r,rfl,.inr ⟨rfl,rfl⟩⟩
     .cases hq
    have hti':=tD hT hti;rcases hc with rfl|⟨hrow,rfl⟩
    .have hd:=hti'.2;simp only[xP] at hd;obtain hbx:=vL hx;obtain hby:=vL hy;refine go hbx hby ?_;have hrr:r=(x'==y'):=(aLS hr1).symm;subst hrr;have hrun:=run_equalIn_bool' (P:=P) w 9999 xt x' y' hd;rcases hr2 with⟨rfl,rfl⟩ |⟨rfl,rfl⟩
     .refine⟨.bool (x'==y'),?_,w9 _ _ _⟩;simp only[aL2];rw[show (eqGuard .eql xt x y (.bool x') (.bool y')).run P w= .ok () w from by simp [eqGuard]];simp only[aLX,Go.binOp,Op.equal,Op.maxDepth,aL2,hrun,aMf]
     .refine⟨.bool (!(x'==y')),?_,w9 _ _ _⟩;simp only[aL2];rw[show (eqGuard .neq xt x y (.bool x') (.bool y')).run P w= .ok () w from by simp [eqGuard]];simp only[aLX,Go.binOp,Op.equal,Op.maxDepth,aL2,hrun,aMf]
    .have h2:=hti'.2;have heq:P.eqGuardType P.depth xt=false/\∃h,h<9000/\y5 P h (.ty xt) t':=by
      unfold xP at h2;cases t'<;>simp only[Ty.isRow,aNt] at hrow
      all_goals exact h2.2 rfl
     obtain⟨hg1,hh,hlt,hE⟩:=heq;obtain⟨cx,ex,rx⟩:=IK hrow hx;obtain⟨cy,ey,ry⟩:=IK hrow hy;obtain⟨b',hb1,hb2⟩:=hE.run (g:=g) (w:=w) 9999 pG x' y' _ _ hx hy;rw[hr1] at hb1;obtain rfl:=aLS hb1;rw[ex,ey] at hb2;refine go ex ey ?_;rcases hr2 with⟨rfl,rfl⟩ |⟨rfl,rfl⟩
     .refine⟨.bool r,?_,w9 _ _ _⟩;simp only[aL2];rw[run_eqGuard_agg w _ _ _ _ _ _ hg1];simp only[aLX];rw[run_eql_struct,hb2];rfl
     .refine⟨.bool (!r),?_,w9 _ _ _⟩;simp only[aL2];rw[run_eqGuard_agg w _ _ _ _ _ _ hg1];simp only[aLX];rw[run_neq_struct,hb2];rfl
   .cases hq
  .cases hq
 .cases hq
end
end Go.Proofs.YtkpflnijijccpaaGreatDoor.Vc
namespace Go.Proofs.YtkpflnijijccpaaGreatDoor.Vc
open Go.RowKit
theorem aFK (s:pD):Lib.strCells ⟨s.toArray⟩=s.map fun b=>Value.int .u8 b.toNat:=by
 simp [Lib.strCells]
theorem aFL {P:Program}(w:pR) (t u ty e:TypeId) (i:TypeInfo) (ht:P.underlying t=some (.slice e)) (hu:P.underlying u=some .string) (hi:P.info? e=some i) (hz:i.zero=some (.int .u8 0))
  (hsize:i.size=1) (hby:i.bytes=1) (v:pS) (n:Nat) (xs:pN) (hown:w.ownsRow 0 e 1 v n xs) (s:ByteArray) (hm:0<s.size)
  (h63:n+s.size<=maxLen) (hbytes:n+s.size<=140737488355328):
  ∃q cap w',(Builtin.append_ #[t,u] ty #[v,.string s]).run P w= .ok (.slice (some ⟨q,0,none⟩) (n+s.size) cap) w'/\w'.ownsRow 0 e 1 (.slice (some ⟨q,0,none⟩) (n+s.size) cap) (n+s.size) (xs++Lib.strCells s)/\
   (q=w.heap.size\/v.ownBlock=some q)/\w.grownBy w' v.ownBlock/\n+s.size<=cap/\
   ∀b o,b<w.heap.size->(v.ownBlock=some b->o<n*1)->w'.cell? ⟨b,o,none⟩=w.cell? ⟨b,o,none⟩:=by
 have hsmall:n+s.size<=9223372036854775807:=by simp only[maxLen] at h63;omega
 have hxl:xs.length=n:=by simpa using hown.1
 have hlen:(xs++Lib.strCells s).length=(n+s.size)*1:=by rw[aLT,hxl,Lib.strCells_length,aNC]
 have grown: ∀(old:Nat),old<n+s.size->∀(row:pP),
   (w.drew.alloc (.cells (xs.toArray++(Lib.strCells s).toArray++Builtin.zeroCells (Value.int .u8 0).cells (grownCap w (n+s.size) old e- (n+s.size))) e)).ownsRow 0 e 1
    (.slice (some ⟨w.heap.size,0,none⟩) (n+s.size) (grownCap w (n+s.size) old e)) (n+s.size) (xs++Lib.strCells s)/\
   w.grownBy (w.drew.alloc (.cells (xs.toArray++(Lib.strCells s).toArray++Builtin.zeroCells (Value.int .u8 0).cells (grownCap w (n+s.size) old e- (n+s.size))) e)) row/\n+s.size<=grownCap w (n+s.size) old e/\
   ∀b o,b<w.heap.size->(w.drew.alloc (.cells (xs.toArray++(Lib.strCells s).toArray++Builtin.zeroCells (Value.int .u8 0).cells (grownCap w (n+s.size) old e- (n+s.size))) e)).cell? ⟨b,o,none⟩=w.cell? ⟨b,o,none⟩:=by
  intro old ho row;have hge:=grownCap_ge w (n+s.size) old e;have hcm:grownCap w (n+s.size) old e<=maxLen:=grownCap_le_maxLen w (n+s.size) old e h63;refine⟨⟨hlen,.inr ⟨w.heap.size,_,_,rfl,aMR _,aNM w.drew _,hge,hcm,?_,?_⟩⟩,⟨rfl,rfl,rfl,by simp,fun k hk _=>aMp w.drew _ k hk⟩,hge,fun b o hb=>aMe (w:=w) (a:=⟨b,o,none⟩) (aMp w.drew _ b hb)⟩
  .have hz1:(Value.int IntKind.u8 0).cells.size=1:=rfl;simp only[aNL,aMF,size_zeroCells,hz1,hxl,Lib.strCells_length];omega
  .simp only[Array.toList_append,aLV];rw[<-aLV,<-hlen];exact aM2
 rcases hown.2 with⟨rfl,rfl⟩ |⟨g,cap,cur,rfl,hbg,hg,hnc,hcm,hcs,htake⟩
 .have hx:xs=[]:=aMo hxl;subst hx;have hr:=run_append_nil_string (P:=P) w t u ty e i (.int .u8 0) ht hu hi hz s pG pG (by rw[hby];omega);have hgr:=grown 0 pG (Value.ownBlock (.slice none 0 0));simp only[aMs,List.nil_append,Array.empty_append] at hgr|-;have e1:(s.data.map fun b=>Value.int .u8 b.toNat)=(Lib.strCells s).toArray:=by
   apply Array.ext';simp [Lib.strCells]
  rw[e1] at hr;exact⟨_,_,_,hr,hgr.1,.inl rfl,hgr.2.1,hgr.2.2.1,fun b o hb _=>hgr.2.2.2 b o hb⟩
 .by_cases hroom:n+s.size<=cap
  .have hcs':cur.size=cap:=by simpa using hcs
   have hr:=Lib.run_append_room_string (P:=P) w t u ty e i ht hu hi hsize g n cap cur hg s hroom pG;refine⟨_,_,_,hr,⟨hlen,.inr ⟨g,cap,_,rfl,hbg,aNB w g cur _ e _ hg,hroom,hcm,?_,?_⟩⟩,.inr rfl,⟨rfl,rfl,rfl,by simp,fun k _ hk=>aNh w g k _ (fun e=>hk (by simp [Value.ownBlock,e]))⟩,hroom,fun b o hb hso=> ?_⟩
   .simp only[aMF,aLT,aMd,aL8,aMt,Lib.strCells_length];omega
   .have ht':cur.toList.take n=xs:=by simpa using htake
    rw[ht',<-hlen];exact aM2
   .by_cases hbg':b=g
    .subst hbg';have ho:=hso rfl;rw[cell_setRow_same w b o cur _ e _ hg,cell_of_row w b o cur e (0,0) hg];have hlt:o<(cur.toList.take n).length:=by rw[aMd,aMt];omega
     have hlt2:o<cur.size:=by rw[aMd,aMt] at hlt;omega
     simp only[List.getElem?_toArray,aLV];rw[aL4 hlt,aNd,aLQ pG];simp
    .exact aMe (a:=⟨b,o,none⟩) (aNh w g b _ hbg')
  .have holds: ∀j u,xs[j]? =some u->w.cell? ((⟨g,0,none⟩:Addr).add j)=some u:=hown.cells (g:=g) rfl;have hr:=Lib.run_append_grow_string (P:=P) w t u ty e i (.int .u8 0) ht hu hi hz ⟨g,0,none⟩ n cap xs (by rw[hsize];simpa using hxl) holds s pG pG (by rw[hby];exact growslice_fits pG pG);have hgr:=grown cap pG (Value.ownBlock (.slice (some ⟨g,0,none⟩) n cap));exact⟨_,_,_,hr,hgr.1,.inl rfl,hgr.2.1,hgr.2.2.1,fun b o hb _=>hgr.2.2.2 b o hb⟩
theorem aFM {P:Program}(w:pR) (t u ty e:TypeId) (i:TypeInfo) (ht:P.underlying t=some (.slice e)) (hu:P.underlying u=some .string) (hi:P.info? e=some i) (hsize:i.size=1) (ad:Option Addr) (n c:Nat) (hle:n<=c):
  (Builtin.append_ #[t,u] ty #[.slice ad n c,.string ⟨#[]⟩]).run P w= .ok (.slice ad n c) w:=by
 have hf:=Lib.run_firstCells_string (P:=P) w 1 ⟨#[]⟩;have hm:(⟨#[]⟩:ByteArray).size=0:=rfl;rw[hm] at hf;cases ad<;>simp [Builtin.append_,aMa ht,aMa hu,sizeOf,typeInfo,hi,hsize,Builtin.lenOf,hm,hf,hle,Lib.strCells,storeCells]
theorem a7J (g:Gh) (w:pR): ∀s:pD,tV (Rd g w (.int .u8)) 1 (uW s) (s.map fun b=>Value.int .u8 b.toNat)
 |[]=>rfl
 |b::s=>⟨[.int .u8 b.toNat],_,rfl,rfl,rfl,a7J g w s⟩
section
variable {P:Program}{o:Oper}{a:Act}{g:Gh}{w:pR}{H:s0}{T:sM}(hT:wV P T) (hH:sG g w H)
include hT hH
theorem aFN {t t':TypeId}{x:Operand}(ho:o.op= .convert t t' x) {sx:qC}(hx:rJ g w sx (a.eval x)) {e:qH}
  (hr:zX (UX T (rK T t) (rK T t') sx)=some e):rD P o a g w H e:=by
 obtain⟨q,hq,rfl⟩:=GP hr;replace hx:=hx.1;generalize h1:rK T t=o1 at hq;generalize h2:rK T t'=o2 at hq;unfold UX at hq;split at hq
 .rename_i e b1 a1 l1 e2 b2 a2 l2 l k;generalize h3:rK T e=o3 at hq;unfold a5P at hq;split at hq
  .cases hq;have d1:=(tD hT h1).2;have d2:=(tD hT h2).2;have d3:=(tD hT h3).2;simp only[xP] at d1 d2 d3;obtain⟨ad,cap,hv,hle,hl⟩:=CY hx;refine rD.pure hH (v:= .string ⟨(x7 l).toArray⟩) ?_ (DY _ _ _);simp only[execOp,ho,hv,aL2];have run:(convert t t' (.slice ad (List.length l) cap)).run P w= .ok (.string ⟨(x7 l).toArray⟩) w:=by
    rcases hl with rfl|⟨b,off,rfl,hL⟩
    .rw[run_convert_bytes_string w t t' e ad _ cap d1.1 d3 d2];cases ad with
     |none=>simp [Conv.bytesToString,x7];rfl
     |some ad=>simp [Conv.bytesToString,loadCells,loadCellsFrom,x7];rfl
    .have:=run_convert_bytes_arg (P:=P) w t e d1.1 d3 b off (List.length l) cap l rfl (fun i hi=>by
      obtain⟨cs,_,c2,_,c4⟩:=S1 hL (aLZ hi);have c5:cs=[.int .u8 (l[i]:Int)]:=c4;subst c5;have:=c2 0 _ rfl;have hcell:Ty.cells (.int .u8)=1:=rfl;rw[hcell,aNC,aM7] at this;rw[this,aMr,aLZ hi];rfl) t' d2
     exact this
   rw[run];rfl
  .cases hq
 .cases hq
theorem aFO {args:Array Operand}{tys:Array TypeId}(ho:o.op= .call ⟨.builtin .append,args,tys⟩) {ρ:Operand->qC}(hρ: ∀x∈args.toList,rJ g w (ρ x) (a.eval x)) {e:qH}
  (hr:RH T H (vK ρ args.toList) tys.toList=some e) (hs: ∀p∈e.side,p):rD P o a g w H e:=by
 unfold RH at hr;split at hr
 .rename_i t u htu;have htys:tys= #[t,u]:=by apply aMV.1;rw[htu]
  split at hr
  .rename_i e1;subst e1;exact aE8 hT hH ho hρ htys hr hs
  .clear htu;subst htys;generalize hst:rK T t=ot at hr;generalize hsu:rK T u=ou at hr;generalize hss:vK ρ args.toList=ss at hr;unfold VV at hr;split at hr
   .rename_i el ar ls_ e2 b2 a2 ls2 l k s k2;generalize hk:qD H k=ob at hr;unfold RG at hr;split at hr
    .rename_i e' c n;split at hr
     .rename_i hec;obtain⟨rfl,rfl⟩:=hec;cases hr;rw[aLT];have hsl:List.length (uW s)=List.length s:=by simp [uW]
      rw[hsl];have hln:=hs _ (by simp:(List.length l=n)∈_);have hby:=hs _ (by simp:(List.length l+List.length s<=140737488355328)∈_);obtain⟨v,vr,hv,hs1,hs2⟩:=S4 hT hH hρ hss;obtain⟨h2,h3,_⟩:=(tD hT hst).2;have hu:=(tD hT hsu).2;simp only[xP] at hu;obtain⟨ei,hei,hz⟩:=aLW.1 h3;simp only[aMl] at hz;obtain⟨cs,hx⟩:=F2 (a:=a) hT hH ho;obtain⟨v0,xs,hv0,hown,hnone,hseal⟩:=hH.blk k _ hk;have hcur:g.cur k (List.length l)=some v:=hs1.2;rw[hln,hv0] at hcur;obtain rfl:=aLS hcur;obtain⟨adl,capl,hvl,hlel,hll⟩:=CY hs1.1;have hvr:=wG hs2.1;have hsz:(⟨List.toArray s⟩:ByteArray).size=List.length s:=by simp [ByteArray.size]
      by_cases hm:List.length s=0
      .obtain rfl:s=[]:=aMo hm;have hget: ∀i,qD (qP [(k,q9.grow e' 1 (List.length l+List.length ([]:pD)))] H) i=qD H i:=by
        intro i;simp only[qP,qD];by_cases hi:k=i
        .subst hi;rw[aLQ rfl,hk,hln];rfl
        .rw[aLU hi]
       have hkeep:sB g w H ⟨[List.length l=n,List.length l+List.length ([]:pD)<=140737488355328],(.val (.list (.int .u8)) (l++uW []),some k),[(k,.grow e' 1 (List.length l+List.length ([]:pD)))],[k]⟩ g w v0:=by
        refine⟨.refl _ _,?_,⟨fun i b h=>hH.blk i b ((hget i).symm.trans h),fun i j bi bj b o' hij h1 h2=>hH.dis i j bi bj b o' hij ((hget i).symm.trans h1) ((hget j).symm.trans h2),hH.sl,hH.tab.1,fun i blk b o' h ho'=>hH.tab.2 i blk b o' ((hget i).symm.trans h) ho'⟩,.refl _ _ _,fun i blk b o' hi hg ho'=> .inr ⟨i,blk,hi,(hget i).symm.trans hg,ho'⟩,fun _ _=>⟨rfl,rfl⟩,fun i u' y us h=> .inl ⟨y,us,(hget i).symm.trans h⟩⟩;rw[show l++uW []=l from by simp [uW]];exact hs1
       refine rD.value (v:=v0) (w':=w) ?_ hkeep;rw[hx,hv,hvr,hvl];have:=aFM (P:=P) w t u o.type e' ei h2 hu hei (by rw[hz.1];rfl) adl (List.length l) capl hlel;simp only[builtin,aL2];rw[this];simp only[aLX,aMf]
      .have hxs:tV (Rd g w (.int .u8)) 1 l xs:=by
        by_cases h0:List.length l=0
        .obtain rfl:l=[]:=aMo h0;have:xs=[]:=aMo (by rw[hown.1,<-hln];simp);exact this
        .rcases hll with rfl|⟨b0,off0,rfl,hL0⟩
         .exact absurd rfl h0
         .obtain⟨ls,hF0,hra0,_⟩:=KQ hL0;rcases hown.2 with⟨e1,e2⟩ |⟨q,cap,cur,e1,e2⟩
          .exact absurd (hln.trans e2) h0
          .rw[hvl] at e1;simp only[aNK,aLO,Addr.mk.injEq] at e1;obtain⟨⟨rfl,rfl,_⟩,_,rfl⟩:=e1;have hvn:v0= .slice (some ⟨b0,0,none⟩) n capl:=by rw[hvl,hln]
           have hrx:=WQ (hvn▸hown);have:ls=xs:=by
            have hl1:=GO hF0;have hl2:=hown.1;have hc1:Ty.cells (.int .u8)=1:=rfl;rw[hc1] at hl1;apply List.ext_getElem?;intro j;by_cases hj:j<ls.length
            .have h1:=hra0 j ls[j] (aLZ hj);have hj':j<xs.length:=by rw[hl2,<-hln,<-hl1];exact hj
             have h2:=hrx j xs[j] (aLZ hj');rw[h1] at h2;rw[aLZ hj,aLZ hj',aLS h2]
            .rw[aNc pG,aNc (by rw[hl2,<-hln,<-hl1];omega)]
           rw[<-this];exact hF0
       obtain⟨q,cap,w',hrun,hown',hq,hg,hcap,hcell⟩:=aFL (P:=P) w t u o.type e' ei h2 hu hei hz.2.2 hz.1 hz.2.1 v0 n xs hown ⟨List.toArray s⟩ (by rw[hsz];omega) (by rw[hsz];unfold maxLen;omega) (by rw[hsz];omega);rw[hsz] at hrun hown' hcap;rw[aFK] at hown';refine rD.value (v:= .slice (some ⟨q,0,none⟩) (n+List.length s) cap) (w':=w') ?_ (by
        have:=sB.append (side:=[List.length l=n,List.length l+List.length s<=140737488355328]) (rds:=[k]) (u:= .int .u8) (r:=uW s) hH hk (show (1:Nat)=Ty.cells (.int .u8) from rfl) hln hv0 hown hnone hseal hxs (a7J g w s) (by rw[hsl];omega) (by rw[hsl];exact hown') hq hg (by rw[hsl];exact hcap) hcell;rw[hsl] at this;rw[hln];rw[hln] at this;exact this)
       rw[hx,hv,hvr];simp only[builtin,aL2,hrun,aLX,aMf]
     .cases hr
    .cases hr
   .cases hr
 .cases hr
end
theorem aFP {g g':Gh}{w:pR}{f:qC→qC}(hf: ∀s u,rJ g w s u→rJ g' w (f s) u): ∀{l:List qC}{v:pS}{s:qC},NP g w l v→K8 (l.map f)=some s→rJ g' w s v:=by
  have un: ∀{l:List qC}{vs:pN}{q},uX g w l vs→EU (l.map f)=some q→KK g' w q vs:=by
    intro l
    induction l with
    | nil=>
      intro vs q h hq;simp only[List.map_nil,EU,aLO] at hq;subst hq;exact h
    | cons s l ih=>
      rintro vs q ⟨v,vs',rfl,h1,h2⟩ hq;have h1':=hf s v h1;simp only[aMQ] at hq;generalize f s=fs at hq h1';obtain⟨d,k⟩:=fs;cases d with
      | val t x=>
        simp only[EU] at hq;obtain⟨q',hq',rfl⟩:=aLW.1 hq;refine⟨v,vs',rfl,h1'.1,?_,ih h2 hq'⟩;cases k with
        |none=>trivial
        |some k=>exact h1'.2
      | own k' n=>
        simp only[EU] at hq;obtain⟨q',hq',rfl⟩:=aLW.1 hq;exact⟨v,vs',rfl,.inr ⟨rfl,v,h1'.1.1,rfl,h1'.1.2⟩,trivial,ih h2 hq'⟩
      |_=>simp [EU] at hq
  intro l v s h hs
  match l,h,hs with
  | [],⟨vs,e,h⟩,hs=>
    simp only[List.map_nil,K8,aLO] at hs;subst hs;rw[show vs=[] from h] at e;exact⟨⟨[],e,rfl⟩,trivial⟩
  | [x],h,hs=>
    simp only[aMQ,List.map_nil,K8,aLO] at hs;subst hs;exact hf x v h
  | x::y::l,⟨vs,e,h⟩,hs=>
    simp only[aMQ,K8,aLO] at hs;subst hs;cases hq:EU (f x::f y::l.map f) with
    |none=>exact⟨trivial,trivial⟩
    |some q=>exact⟨⟨vs,e,un (l:=x::y::l) h (by simpa using hq)⟩,trivial⟩
theorem a7K {base n:Nat}{W:List rH}: ∀l:List qC,MS base n W l=l.map (QL base n W)
  |[]=>rfl
  |s::l=>by simp [MS,a7K l]
theorem a7L {P:Program}{f:FuncId}{sg:r6}(hcon:xR P f sg.C) {g:Gh}{w:pR}{H:s0}(hH:sG g w H) {args:List qC}{vals:pN}(hargs:uX g w args vals) {base:Nat}{e:qH}
    (hr:EV H base args (some sg)=some e) (hs: ∀p∈e.side,p) (hfr:yG g base e):Calls P f vals.toArray w (fun en w'=> ∃v g',en= .returned v∧sB g w H e g' w' v):=by
  simp only[EV] at hr;cases hp0:xA H sg.ps args (some ⟨[],[],[],0⟩) with
  |none=>rw[hp0] at hr;cases hgs:sg.gs<;>(rw[hgs] at hr;simp [MT,AJ] at hr)
  |some q0=>
   rw[hp0] at hr;cases hp:AJ H sg.gs (some q0) with
   |none=>rw[hp] at hr;simp [MT] at hr
   |some q=>
    rw[hp] at hr;simp only[MT,a7A,List.append_nil] at hr;have hpo0:=a7v hH (AN.nil g w H) hargs hp0;rw[List.nil_append] at hpo0;have hpo:=a7x hH hpo0 hp;cases hcl:GD q.ws.reverse q.H.reverse with
    |none=>rw[hcl] at hr;simp [QO] at hr
    |some L=>
    rw[hcl] at hr;simp only[QO] at hr;have hm:=hpo.m.ren hcl;cases hc:sg.C q.args.reverse L with
    |none=>rw[hc] at hr;simp [QN] at hr
    | some r=>
      rw[hc] at hr;simp only[QN,a7z] at hr;cases hbh:AK base r.H.length q.ws.reverse 0 q.ws.reverse r.H with
      |none=>rw[hbh] at hr;simp [MR] at hr
      | some upd=>
        rw[hbh] at hr;cases hrs:K8 (MS base r.H.length q.ws.reverse r.ret) with
        |none=>rw[hrs] at hr;simp [MR] at hr
        | some s=>
          rw[hrs] at hr;simp only[MR,aLO] at hr;subst hr;refine(hcon.2 (vD g q.ws.reverse) w q.args.reverse _ L r (aFq hH hm) hpo.args hc hs).mono ?_;rintro en w' ⟨v,g',rfl,hret⟩;refine⟨v,_,rfl,aFG hH hm hret hbh hfr ?_⟩;rw[a7K] at hrs;exact aFP (fun s u h=>aFE hH hm hret hbh hfr h) hret.ret hrs
theorem NS {g g':Gh}{w w':pR}: ∀{t:Ty}{x:t.den}{cs:pN},GE t=true→Rd g w t x cs→Rd g' w' t x cs
  | .bool,_,_,_,r=>r
  | .int _,_,_,_,r=>r
  | .str,_,_,_,r=>r
  | .unit,_,_,_,r=>r
  | .fn,_,_,_,r=>r
  | .pair a b,_,_,h,⟨c1,c2,e,r1,r2⟩=>by
    simp only[GE,aMb] at h;exact⟨c1,c2,e,NS h.1 r1,NS h.2 r2⟩
  | .list _,_,_,h,_=>by cases h
  | .ref,_,_,h,_=>by cases h
  | .clo,_,_,h,_=>by cases h
  | .mp,_,_,h,_=>by cases h
  | .rl _ _,_,_,h,_=>by cases h
  | .mref,_,_,h,_=>by cases h
theorem a7M {g g':Gh}{w:pR}{k n:Nat}{t:Ty}{l:List t.den}(le:Le g w g' w) (hk: ∀u,g.cur k n=some u→((u= .slice none 0 0∧n=0)∨∃b cap,u= .slice (some ⟨b,0,none⟩) n cap∧n≤cap)→tJ g' w (.list t) l u):
    ∀{args:List qC}{vals:pN},uX g w args vals→(∀p∈I4 k n args,p)→uX g' w (MV k t l args) vals
  |[],_,h,_=>h
  | s::ss,_,⟨v,vs,rfl,h1,h2⟩,hp=>by
    refine⟨v,vs,rfl,?_,a7M le hk h2 (fun p hp'=>hp p ?_)⟩
    · obtain⟨d,x⟩:=s
      cases d with
      | own j m=>
        simp only[a5Y];split
        · rename_i e
          subst e;have hm:m=n:=hp (j=j→m=n) (by simp only[I4];exact aL7) rfl;subst hm;exact⟨hk _ h1.1.1 h1.1.2,trivial⟩
        .exact C6 le h1
      |_=>exact C6 le h1
    · obtain⟨d,x⟩:=s
      cases d with
      |own j m=>simp only[I4];exact aL5 _ hp'
      |_=>exact hp'
theorem aFQ {P:Program}{f:FuncId}{sg:r6}(hcon:xR P f sg.C) {g:Gh}{w:pR}{H:s0}(hH:sG g w H) {args:List qC}{vals:pN}(hargs:uX g w args vals) {base:Nat}{e:qH}{k:Nat}
    (hr:MW H base args sg k (qD H k)=some e) (hs: ∀p∈e.side,p) (hfr:yG g base e):Calls P f vals.toArray w (fun en w'=> ∃v g',en= .returned v∧sB g w H e g' w' v):=by
  cases hk:qD H k with
  |none=>rw[hk] at hr;cases hr
  | some b=>
    rw[hk] at hr;cases b with
    | row e0 t l m=>
      simp only[MW] at hr;cases hi:EV ((k,.dead)::H) base (MV k t l args) (some sg) with
      |none=>rw[hi] at hr;cases hr
      | some e1=>
        rw[hi] at hr;unfold V2 at hr;split at hr
        · rename_i side t' x kk U rds heq
          simp only[aLO] at heq;subst heq;split at hr
          · rename_i hnl
            simp only[aMb,aMq] at hnl;obtain⟨⟨hnl,hU⟩,hkU⟩:=hnl;have hkU':k∉qG U:=fun h=>by rw[GR.2 h] at hkU;cases hkU
            cases hr;obtain⟨hl,v,xs,hv,hown,hF,hnone,hseal⟩:=hH.blk k _ hk
            let g':Gh:={g with S:=fun b o=>g.S b o∨(v.ownBlock=some b∧o<m*t.cells)}
            have le:Le g w g' w:=⟨fun _ _ h=> .inl h,fun _ _ _=>rfl,fun _ _ h=>h,fun _ _ _ h=>h⟩;have hown2: ∀b,v.ownBlock=some b→∀o,sA g k (.row e0 t l m) b o:=fun b hb o=>⟨v,hv,hb⟩
            have hlist: ∀u,g.cur k m=some u→((u= .slice none 0 0∧m=0)∨∃b cap,u= .slice (some ⟨b,0,none⟩) m cap∧m≤cap)→tJ g' w (.list t) l u:=by
              intro u hu hshape;rw[hv] at hu;obtain rfl:=aLS hu;rcases hshape with⟨rfl,h0⟩ |⟨b,cap,rfl,hcap⟩
              · have:l=[]:=aMo (by rw[hl,h0])
                subst this;exact .inr ⟨rfl,none,0,rfl,aMc _,.inl rfl⟩
              · refine .inr ⟨rfl,some ⟨b,0,none⟩,cap,by rw[hl],by rw[hl];exact hcap,.inr ⟨b,0,rfl,KO (C7 (fun _ _ h=>wU le h) hF) (fun j u hu=> ?_) (fun j hj=> ?_)⟩⟩
                · have:=hown.cells (g:=b) rfl j u hu
                  rwa [aM6] at this
                · right
                  exact⟨rfl,by rw[hl] at hj;omega⟩
            have hget: ∀i b,qD ((k,q9.dead)::H) i=some b→(i=k∧b= .dead)∨(i≠k∧qD H i=some b):=by
              intro i b hb;simp only[qD] at hb;split at hb
              .rename_i e1;exact .inl ⟨e1.symm,(aLS hb).symm⟩
              .rename_i e1;exact .inr ⟨Ne.symm e1,hb⟩
            have hH':sG g' w ((k,q9.dead)::H):=by
              refine⟨fun i b hb=> ?_,fun i j bi bj b o hij h1 h2 o1 o2=> ?_,fun b o hS=> ?_,hH.tab.1,fun i b bb oo hb ho=> ?_⟩
              · rcases hget i b hb with⟨rfl,rfl⟩ |⟨hne,h1⟩
                .trivial
                .exact KM (hH.blk i b h1) le rfl rfl (fun _ _ _=>⟨rfl,rfl⟩) (fun _ _=>rfl) (fun bb o ho hS=>by
                    rcases hS with hS|hS
                    .exact hS
                    .exact absurd (hown2 bb hS.1 o) (fun h5=>hH.dis i k b _ bb o hne h1 hk ho h5)) (fun _ _ _ _ h=>h)
              · rcases hget i bi h1 with⟨_,rfl⟩ |⟨_,h1⟩
                .exact o1.elim
                · rcases hget j bj h2 with⟨_,rfl⟩ |⟨_,h2⟩
                  .exact o2.elim
                  .exact hH.dis i j bi bj b o hij h1 h2 ((yW (g':=g') (g:=g) rfl rfl).1 o1) ((yW (g':=g') (g:=g) rfl rfl).1 o2)
              · rcases hS with hS|hS
                .exact hH.sl b o hS
                .exact NF hown hS.1
              · rcases hget i b hb with⟨_,rfl⟩ |⟨_,h1⟩
                .exact ho.elim
                .exact hH.tab.2 i b bb oo h1 ((yW (g':=g') (g:=g) rfl rfl).1 ho)
            have hsp: ∀p,p∈I4 k m args∨p∈side→p:=fun p hp=>hs p (NO.2 hp)
            have hget2: ∀i,i≠k→qD ((k,q9.dead)::H) i=qD H i:=fun i hi=>by
              simp only[qD];rw[aLU (Ne.symm hi)]
            have hin: ∀{i},i∈qG U→i≠k:=fun h e=>hkU' (e▸h)
            have hup: ∀{i blk},i∈qG U→qD (qP U H) i=some blk→qD (qP U ((k,q9.dead)::H)) i=some blk:=by
              intro i blk hi h
              have: ∀{U:List (Nat×q9)},i∈qG U→qD (qP U ((k,q9.dead)::H)) i=qD (qP U H) i:=by
                intro U
                induction U with
                |nil=>intro h;cases h
                | cons q U ih=>
                  intro h;obtain⟨j,b⟩:=q;simp only[qP,qD];split
                  .rfl
                  · rename_i hne
                    simp only[qG,aL3] at h;exact ih (h.resolve_left (fun e=>hne e.symm))
              rw[this hi];exact h
            have hcells: ∀{i blk},i∈qG U→qD (qP U H) i=some blk→∃t y,blk= .cells t y []∧GE t=true:=by
              intro i blk hi h
              have: ∀{U:List (Nat×q9)},K9 U=true→i∈qG U→qD (qP U H) i=some blk→∃t y,blk= .cells t y []∧GE t=true:=by
                intro U
                induction U with
                |nil=>intro _ h;cases h
                | cons q U ih=>
                  intro hU hi h;obtain⟨j,b⟩:=q;cases b with
                  | cells t y ts=>
                    cases ts with
                    |cons _ _=>simp [K9] at hU
                    | nil=>
                      simp only[K9,aMb] at hU;simp only[qP,qD] at h;split at h
                      · obtain rfl:=aLS h
                        exact⟨t,y,rfl,hU.1⟩
                      · rename_i hne
                        simp only[qG,aL3] at hi;exact ih hU.2 (hi.resolve_left (fun e=>hne e.symm)) h
                  |_=>simp [K9] at hU
              exact this hU hi h
            have hownI: ∀b o,sW g' ((k,q9.dead)::H) (qG U) b o→sW g H (qG U) b o:=fun b o ⟨i,blk,hi,h1,h2⟩=>⟨i,blk,hi,(hget2 i (hin hi)).symm.trans h1,(yW (g':=g') (g:=g) rfl rfl).1 h2⟩;refine(a7L hcon hH' (a7M le hlist hargs (fun p hp=>hsp p (.inl hp))) hi (fun p hp=>hsp p (.inr hp)) (fun i hi' hb=>hfr i hi' hb)).mono ?_;rintro en w' ⟨v1,g1,rfl,hE⟩
            let g2:Gh:={g1 with S:=g.S}
            have hle:Le g w g2 w':=⟨fun _ _ h=>h,fun b o h=>hE.le.cell b o (.inl h),fun i p h=>hE.le.J i p h,fun i n u h=>hE.le.cur i n u h⟩
            have hfr2:Fr (sW g H (qG U)) w w' g.S g2.S:=
              ⟨hE.fr.os,hE.fr.tape,hE.fr.output,hE.fr.size,fun b hb hno=>hE.fr.blk b hb (fun o h=>hno o (hownI b o h)),fun b o hb hno=>hE.fr.cell b o hb (fun h=>hno (hownI b o h)),fun _ _ h=> .inl h,fun b s h=>(hE.fr.shape b s h).imp id fun h o=>hownI b o (h o)⟩
            have hgho: ∀i,i∉qG U→g2.J i=g.J i∧g2.cur i=g.cur i:=fun i hi=>hE.gho i hi
            have hperm: ∀i blk b o,i∈qG U→qD (qP U H) i=some blk→sA g2 i blk b o→w.heap.size≤b∨sW g H (qG U) b o:=fun i blk b o hi hg ho=>
              (hE.perm i blk b o hi (hup hi hg) ((yW (g':=g2) (g:=g1) rfl rfl).1 ho)).imp id (hownI b o)
            refine⟨v1,g2,rfl,hle,⟨?_,trivial⟩,hH.upd hle hfr2 hperm hgho (fun i blk hi hg=> ?_) (fun i j bi bj b o hi hj hij hgi hgj hoi hoj=> ?_) (fun b o h=>aMu (hH.sl b o h) hE.fr.size),hfr2,hperm,hgho,fun i u y us h=> ?_⟩
            .exact hE.slot.1.imp (fun⟨a,cs,e,q⟩=>⟨a,cs,e,NS hnl q⟩) (fun⟨a,q⟩=>⟨a,NS hnl q⟩)
            · obtain⟨t2,y2,rfl,hn2⟩:=hcells hi hg
              obtain⟨p,cs,q1,q2,q3,q4,q5,_⟩:=hE.heap.blk i _ (hup hi hg);exact⟨p,cs,q1,NS hn2 q2,q3,q4,fun j hj hS=>q5 j hj (hE.le.S _ _ (.inl hS)),fun _ _ hm=>by cases hm⟩
            .exact hE.heap.dis i j bi bj b o hij (hup hi hgi) (hup hj hgj) ((yW (g':=g2) (g:=g1) rfl rfl).1 hoi) ((yW (g':=g2) (g:=g1) rfl rfl).1 hoj)
            · by_cases hiU:i∈qG U
              · rcases hE.ty i u y us (hup hiU h) with⟨x',ts',q⟩ |q
                .exact .inl ⟨x',ts',(hget2 i (hin hiU)).symm.trans q⟩
                .exact .inr q
              .exact .inl ⟨y,us,(BN hiU).symm.trans h⟩
          .cases hr
        .cases hr
    |_=>cases hr
theorem aFR {P:Program}{f:FuncId}{F:(t:Ty)→List t.den→Option (List t.den)}(hF:S8 P f F) {g:Gh}{w:pR}{H:s0}(hH:sG g w H) {args:List qC}{vals:pN}(hargs:uX g w args vals) {e:qH}
    (hr:QP H F args=some e) (hs: ∀p∈e.side,p):Calls P f vals.toArray w (fun en w'=> ∃v g',en= .returned v∧sB g w H e g' w' v):=by
  unfold QP at hr;split at hr
  · rename_i k n x
    obtain⟨v,vs,rfl,ha,hv⟩:=hargs;rw[show vs=[] from hv];cases hk:qD H k with
    |none=>rw[hk] at hr;cases hr
    | some b=>
      rw[hk] at hr;cases b with
      | row e0 t l m=>
        simp only[V3] at hr;cases hf:F t l with
        |none=>rw[hf] at hr;cases hr
        | some l'=>
          rw[hf] at hr;cases hr;have hnm:n=m:=hs _ aL7;subst hnm;obtain⟨hl,v0,xs,hv0,hown,hFx,hnone,hseal⟩:=hH.blk k _ hk;have h1:=ha.1.1;rw[hv0] at h1;obtain rfl:=aLS h1;refine(hF g w e0 t l l' v0 n xs hH.tab.1 hown hFx hl (hs _ pI) hf).mono ?_;rintro en w' ⟨rfl,hl',xs',k1,k2,k3⟩;have hownk: ∀b,v0.ownBlock=some b→∀o,sW g H [k] b o:=fun b hb o=>⟨k,_,by simp,hk,v0,hv0,hb⟩;refine⟨_,_,rfl,sB.row (v:=v0) (xs:=xs') hH hl' k1 k2 hnone (fun u hu=>by rw[hv0] at hu;exact(aLS hu).symm) (.inr ⟨v0.ownBlock,k3,hownk⟩) (fun b o hS=> ?_) hseal (fun b hb=> .inr (hownk b hb)) ⟨⟨[],rfl,rfl⟩,trivial⟩⟩;have hne:v0.ownBlock≠some b:=fun e=>hseal b e o hS;exact aMe (a:=⟨b,o,none⟩) (k3.block b (hH.sl b o hS) (fun e=>hne e.symm))
      |_=>cases hr
  .cases hr
section
variable {P:Program}{o:Oper}{a:Act}{g:Gh}{w:pR}{H:s0}{T:sM}{Γ:tX}(hT:wV P T) (hΓ:D2 P Γ) (hH:sG g w H)
include hT hΓ hH
theorem a7N {f:FuncId}{args:List qC}{vals:pN}(hargs:uX g w args vals) {base:Nat}{e:qH}(hr:IA H base args (N1 Γ f)=some e) (hs: ∀p∈e.side,p) (hfr:yG g base e):
    (∀args w,(callFunc f args).run P w= .ok (.enter f args) w)∧Calls P f vals.toArray w (fun en w'=> ∃v g',en= .returned v∧sB g w H e g' w' v):=by
  cases hg:N1 Γ f with
  |none=>rw[hg] at hr;cases hr
  | some sg=>
    rw[hg] at hr
    obtain⟨hlt,hg⟩:f<1000000000∧Γ f=some sg:=by
      unfold N1 at hg;split at hg
      .rename_i h;exact⟨h,hg⟩
      .cases hg
    obtain⟨hcon,hrow⟩:=hΓ f sg hlt hg;refine⟨hcon.1,?_⟩;simp only[IA] at hr;cases hF:sg.row with
    | some F=>
      rw[hF] at hr;exact aFR (hrow F hF) hH hargs hr hs
    | none=>
      rw[hF] at hr;simp only[RE] at hr;cases hn:MU sg.ps args with
      | some k=>
        rw[hn] at hr;exact aFQ hcon hH hargs hr hs hfr
      | none=>
        rw[hn] at hr;exact a7L hcon hH hargs hr hs hfr
theorem aFS {fop:Operand}{args:Array Operand}{tys:Array TypeId}(ho:o.op= .call ⟨.value fop,args,tys⟩) {ρ:Operand→qC}(hf:rJ g w (ρ fop) (a.eval fop)) (hρ: ∀x∈args.toList,rJ g w (ρ x) (a.eval x)) {base:Nat}{e:qH}
    (hr:KB Γ H base (EX T ρ args.toList tys.toList) (ρ fop)=some e) (hs: ∀p∈e.side,p) (hfr:yG g base e) (hlen:args.size=tys.size):rD P o a g w H e:=by
  have hargs:=a7g (a:=a) (ρ:=ρ) hT hΓ hH (xs:=args.toList) (ts:=tys.toList) (by simpa using hlen) hρ;unfold KB at hr;split at hr
  · rename_i f caps k heq
    rw[heq] at hf
    obtain⟨vs,hcv,hfv⟩: ∃vs,xO g caps vs∧a.eval fop= .func (.func f) #[] vs.toArray:=by
      rcases hf.1 with⟨h1,_⟩ |⟨_,vs,h2,h3⟩
      .cases h1
      · simp only[aMI,and_true] at h3
        exact⟨vs,h2,h3⟩
    obtain⟨hen,hc⟩:=a7N hT hΓ hH (aFj hT hΓ hH hargs (a7h hT hΓ hH hcv)) hr hs hfr;intro K Q hK;refine a7i ho hfv hen (hc.mono ?_);rintro en w' ⟨v,g',rfl,hE⟩;exact⟨v,rfl,hK _ w' v hE.w⟩
  · rename_i f k heq
    rw[heq] at hf
    have hfv:a.eval fop= .func (.func f) #[] ([]:pN).toArray:=by
      rcases hf.1 with⟨h1,_⟩ |⟨_,h2⟩
      .cases h1
      .simpa[Rd,a6x] using h2
    obtain⟨hen,hc⟩:=a7N hT hΓ hH hargs hr hs hfr;intro K Q hK;refine a7i ho hfv hen ?_;rw[List.append_nil];refine hc.mono ?_;rintro en w' ⟨v,g',rfl,hE⟩;exact⟨v,rfl,hK _ w' v hE.w⟩
  .cases hr
theorem a7O: ∀{xs:List Operand}{ts:List TypeId},IB xs ts=true→xs.length=ts.length
  |[],[],_=>rfl
  |_::xs,_::ts,h=>by simp only[IB] at h;simp [a7O h]
  |[],_::_,h=>by cases h
  |_::_,[],h=>by cases h
theorem XD {op:Op}(ho:o.op=op) {ρ:Operand→qC}(hρ: ∀x∈sJ op,rJ g w (ρ x) (a.eval x)) {base:Nat}{e:qH}(hr:uH T Γ o.type ρ base H op=some e) (hs: ∀p∈e.side,p) (hf:yG g base e):rD P o a g w H e:=by
  unfold uH at hr;split at hr
  · rename_i x
    exact a6Y hT hH (.inl ho) (hρ x (by simp [sJ])) hr hf
  · rename_i x
    exact a6Y hT hH (.inr ho) (hρ x (by simp [sJ])) hr hf
  .exact aE1 hT hH ho hr hf
  · rename_i t x
    exact aE2 hT hH ho (hρ x (by simp [sJ])) (fun _=>X1 hT hΓ hH (hρ x (by simp [sJ]))) hr hf
  · rename_i t ps
    exact aEG hT hH ho (ρ:=ρ) (fun q hq=>hρ q.2 (by
      simp only[sJ];generalize ps.toList=l at hq
      induction l with
      |nil=>cases hq
      |cons p l ih=>rcases aL3.1 hq with rfl|h<;>simp_all [sJ.parts])) hr
  · rename_i t n ps
    exact aE7 hT hH ho (ρ:=ρ) (fun q hq=>hρ q.2 (by
      simp only[sJ];generalize ps.toList=l at hq
      induction l with
      |nil=>cases hq
      |cons p l ih=>rcases aL3.1 hq with rfl|h<;>simp_all [sJ.parts])) hr hf
  · rename_i t x
    exact aET hT hH ho (hρ x (by simp [sJ])) hr hs
  · rename_i t x y
    exact aE6 hT hH ho (hρ x (by simp [sJ])) (X1 hT hΓ hH (hρ y (by simp [sJ]))) hr hs hf
  · rename_i x
    exact aEA hT hH ho (hρ x (by simp [sJ])) hr
  · rename_i op t x y t'
    cases hw:QB op (rK T t) (ρ x) (ρ y) with
    | some r=>
      rw[hw] at hr;exact aEr hH ho (hρ x (by simp [sJ])) (hρ y (by simp [sJ])) (by rw[hw];exact hr)
    |none=>
    rw[hw] at hr;cases hb:QA op (ρ x) (ρ y) with
    | some r=>
      rw[hb] at hr;exact aEq hH ho (hρ x (by simp [sJ])) (hρ y (by simp [sJ])) (by rw[hb];exact hr) hs
    | none=>
      rw[hb] at hr;exact aFJ hT hH ho (hρ x (by simp [sJ])) (hρ y (by simp [sJ])) hr
  · rename_i op t x
    exact aEs hH ho (hρ x (by simp [sJ])) hr hs
  · rename_i t t' x
    cases hb:QD (rK T t) (rK T t') (ρ x) with
    | some r=>
      rw[hb] at hr;exact aEt hT hH ho (hρ x (by simp [sJ])) (by rw[hb];exact hr)
    | none=>
      rw[hb] at hr;exact aFN hT hH ho (hρ x (by simp [sJ])) hr
  · rename_i f first caps
    have hfi:first= #[]:=by
      cases hl:first.toList with
      |nil=>apply aMV.1;simpa using hl
      |cons x l=>rw[hl] at hr;cases hr
    subst hfi;exact aEK hT hH ho (ρ:=ρ) (fun x hx=>hρ x (by simpa[sJ] using hx)) hr
  · rename_i t x lo hi
    refine aEU hT hH ho (ρ:=ρ) (hρ x (by simp [sJ])) (fun y hy=>hρ y ?_) (fun y hy=>hρ y ?_) hr hs
    · cases lo with
      |none=>simp at hy
      |some l=>simp at hy;subst hy;simp [sJ,sJ.opt,qP]
    · cases hi with
      |none=>simp at hy
      |some l=>simp at hy;subst hy;cases lo<;>simp [sJ,sJ.opt,qP]
  · rename_i t x f
    exact aEy hT hH ho (hρ x (by simp [sJ])) hr
  · rename_i t x f
    exact aEx hT hH ho (hρ x (by simp [sJ])) hr
  · rename_i t x ix
    exact aEC hT hH ho (hρ x (by simp [sJ])) (hρ ix (by simp [sJ])) hr hs
  · rename_i t x ix
    exact aEB hT hH ho (hρ x (by simp [sJ])) (hρ ix (by simp [sJ])) hr hs
  · rename_i x i
    exact aEz hT hH ho (hρ x (by simp [sJ])) hr hs
  · rename_i t r
    exact aFa hT hH ho hr hf
  · rename_i t x
    exact aFg hT hH ho (hρ x (by simp [sJ])) hr hf
  · rename_i x b
    exact aFh hT hH ho (hρ x (by simp [sJ])) hr
  · rename_i t x i ok
    exact aFd hT hH ho (hρ x (by simp [sJ])) (hρ i (by simp [sJ])) hr
  · rename_i t m k x
    exact a7d hT hH (.inl ho) (hρ m (by simp [sJ])) (hρ k (by simp [sJ])) (a7c (hρ x (by simp [sJ]))) hr
  · rename_i t m k x
    exact a7d hT hH (.inr ho) (hρ m (by simp [sJ])) (hρ k (by simp [sJ])) (a7c (hρ x (by simp [sJ]))) hr
  · rename_i c
    obtain⟨cal,args,tys⟩:=c;simp only at hr;unfold IC at hr;split at hr
    .exact aEJ hT hH ho (ρ:=ρ) (fun x hx=>hρ x (by simpa[sJ] using hx)) hr
    .exact aFO hT hH ho (ρ:=ρ) (fun x hx=>hρ x (by simpa[sJ] using hx)) hr hs
    .exact a6O (mx:=true) hT hH ho (ρ:=ρ) (fun x hx=>hρ x (by simpa[sJ] using hx)) hr
    .exact a6O (mx:=false) hT hH ho (ρ:=ρ) (fun x hx=>hρ x (by simpa[sJ] using hx)) hr
    · rename_i f
      cases hsl:IB args.toList tys.toList with
      |false=>rw[hsl] at hr;cases hr
      | true=>
        rw[hsl] at hr;simp only[VW] at hr;exact aFS hT hΓ hH ho (hρ f (by simp [sJ])) (fun x hx=>hρ x (by simp [sJ];right;simpa using hx)) hr hs hf (by simpa using a7O hT hΓ hH hsl)
    .cases hr
  .cases hr
end
def A5 (g:Gh) (w:pR) (env:List (Nat×qC)) (tmps:Array pS):Prop:= ∀t,rJ g w (lk env t) (tmps.getD t undef)
def yY (B:Nat) (w:pR) (ds:List Deferred):Prop:=ds.Nodup/\∀d∈ds,∃D,d={target:= .collected D,args:= #[]}/\B<=D/\NG<=D/\w.heap[D]? =some (.deferred (some []))
theorem a7P (B:Nat) (w:pR):yY B w []:=⟨List.nodup_nil,fun d hd=>by cases hd⟩
theorem yY.same {B:Nat}{w w':pR}{ds:List Deferred}(h:yY B w ds) (hb: ∀D:Nat,w.heap[D]? =some (Obj.deferred (some []))->w'.heap[D]? =some (Obj.deferred (some []))):yY B w' ds:=
 ⟨h.1,fun d hd=>by obtain⟨D,h1,h2,h0,h3⟩:=h.2 d hd;exact⟨D,h1,h2,h0,hb D h3⟩⟩
def F5:Obj->Bool
 | .deferred _=>true
 | .loop _=>true
 |_=>false
theorem XE {w:pR}{b:Nat}{ob:Obj}(hd:w.heap[b]? =some ob) (hm:F5 ob=true) (o:Nat):w.cell? ⟨b,o,none⟩=none:=by
 unfold World.cell?;simp only[hd];cases ob<;>first|rfl|cases hm
theorem SL {g:Gh}{w:pR}{i:Nat}{blk:q9}(h:zI g w i blk) {b o:Nat}(ho:sA g i blk b o) {ob:Obj}(hd:w.heap[b]? =some ob) (hm:F5 ob=true):False:=by
 have hrow: ∀{e:TypeId}{c n:Nat}{v:pS}{xs:pN},w.ownsRow 0 e c v n xs->v.ownBlock=some b->False:=by
  intro e c n v xs hr hb;rcases hr.2 with⟨rfl,_⟩ |⟨g',cap,cur,rfl,_,h3,_⟩
  .cases hb
  .simp only[Value.ownBlock,aLO] at hb;subst hb;rw[hd] at h3;cases h3;cases hm
 cases blk with
 |cells t x toks=>
  obtain⟨p,cs,hp,_,_,ht,_⟩:=h;obtain⟨q,hq,rfl,h1,h2⟩:=ho;rw[hp] at hq;obtain rfl:=aLS hq;have:=(ht.1 (o-p.2) pG).1;rw[XE hd hm] at this;cases this
 |grow e c n=>
  obtain⟨v,xs,hv,hr,_⟩:=h;obtain⟨v',hv',hb⟩:=ho;rw[hv] at hv';obtain rfl:=aLS hv';exact hrow hr hb
 |row e t l n=>
  obtain⟨_,v,xs,hv,hr,_⟩:=h;obtain⟨v',hv',hb⟩:=ho;rw[hv] at hv';obtain rfl:=aLS hv';exact hrow hr hb
 |map k v l=>
  obtain⟨p,es,cl,hp,h0,h2,_⟩:=h;obtain⟨q,hq,h1⟩:=ho;rw[hp] at hq;obtain rfl:=aLS hq;rw[show b=p.1 from h1] at hd;rw[h2] at hd;cases hd;cases hm
 |iter s n=>
  obtain⟨p,hp,h0,h2,_⟩:=h;obtain⟨q,hq,h1⟩:=ho;rw[hp] at hq;obtain rfl:=aLS hq;rw[show b=p.1 from h1] at hd;rw[h2] at hd;cases hd;cases hm
 |dead=>exact ho.elim
theorem yY.eff {B:Nat}{g g':Gh}{w w':pR}{H:s0}{e:qH}{v:pS}{ds:List Deferred}(h:yY B w ds) (hH:sG g w H) (k:yV g w H e g' w' v):yY B w' ds:=
 h.same fun D hD=>by
  rw[k.fr.blk D (aMi.1 hD).1 (fun o ⟨i,blk,_,h1,h2⟩=>SL (hH.blk i blk h1) h2 hD rfl)];exact hD
structure vE (B:Nat) (g:Gh) (w:pR) (s:St) (a:Act):Prop where
 env:A5 g w s.env a.tmps
 heap:sG g w s.H
 size:a.tmps.size=s.N
 nb: ∀i,s.nb<=i->g.J i=none/\∀n,g.cur i n=none
 def_:yY B w a.defers
 np:s.np<=s.nb
theorem aFT (g:Gh) (w:pR) (v:pS):zH g w (UQ v) v:=by
 unfold UQ;split
 .exact w9 _ _ _
 .exact vX _ _ _ _
 .rename_i s;have:=DY g w s.data.toList;rw[aNe] at this;exact this
 .exact rfl
 .exact .inr ⟨rfl,rfl⟩
 .exact .inr ⟨rfl,rfl⟩
 .exact .inr ⟨rfl,rfl⟩
 .exact trivial
theorem zL {g:Gh}{w:pR}{env:List (Nat×qC)}{a:Act}(h:A5 g w env a.tmps) (x:Operand):rJ g w (u6 env x) (a.eval x):=by
 cases x with
 |tmp t=>exact h t
 |const v=>exact⟨aFT g w v,trivial⟩
 |func f=>exact⟨.inr ⟨rfl,[],rfl,rfl⟩,trivial⟩
 |global i=>exact⟨trivial,trivial⟩
theorem KX {g:Gh}{w:pR}{G:Bool}(hG:G=true): ∀{ss:List qC}{s:qC}{v:pS},s∈ss->(∀p∈yF G ss,p)->rJ g w s v->rJ g w (xC s) v
 |x::ss,s,v,hm,hn,hs=>by
  have hcase: ∀{s:qC},(∀p∈yF G [s],p)->rJ g w s v->rJ g w (xC s) v:=by
   intro s hn hs;obtain⟨d,k⟩:=s;cases d with
   |cond p d=>
    refine⟨hs.1.1 (hn (G=true->p=true) (by simp [yF]) hG),?_⟩;simp only[xC]
   |_=>exact hs
  have hsplit: ∀p,p∈yF G [x]->p∈yF G (x::ss):=by
   intro p hp;unfold yF at hp|-;split at hp
   .cases hp
   .rename_i heq;simp only[aMI] at heq;obtain⟨rfl,rfl⟩:=heq;rcases aL3.1 hp with h|h
    .exact h▸aL7
    .cases h
   .rename_i h0 heq;simp only[aMI] at heq;obtain⟨_,rfl⟩:=heq;cases hp
  have hsplit2: ∀p,p∈yF G ss->p∈yF G (x::ss):=by
   intro p hp;generalize hL:yF G ss=L at hp;unfold yF;split
   .rename_i h;cases h
   .rename_i heq;simp only[aMI] at heq;obtain⟨_,rfl⟩:=heq;rw[hL];exact aL5 _ hp
   .rename_i heq;simp only[aMI] at heq;obtain⟨_,rfl⟩:=heq;rw[hL];exact hp
  rcases aL3.1 hm with rfl|hm
  .exact hcase (fun p hp=>hn p (hsplit p hp)) hs
  .exact KX hG hm (fun p hp=>hn p (hsplit2 p hp)) hs
theorem SM {env:List (Nat×qC)}: ∀{xs:List Operand}{x:Operand},x∈xs->u6 env x∈BI env xs
 |y::xs,x,h=>by
  simp only[BI];rcases aL3.1 h with rfl|h
  .exact aL7
  .exact aL5 _ (SM h)
theorem NT: ∀(ops:List Oper) (j:Nat),zF ops j=(ops[j]?).bind (·.dst)
 |[],j=>by simp [zF]
 |o::_,0=>rfl
 |_::r,j+1=>by simpa[zF] using NT r j
section
variable {P:Program}{g:Gh}{w:pR}{T:sM}{Γ:tX}(hT:wV P T) (hΓ:D2 P Γ)
include hT hΓ
theorem aFU {ops:List Oper}{o:Oper}{a:Act}{env:List (Nat×qC)}(henv:A5 g w env a.tmps) {j:Nat}{b:Bool}(hg:o.guard=some (j,b)) {G:Bool}(h:EZ env b (zF ops j)=some G):Region.wanted o (yielded ops.toArray a.tmps)=G:=by
 rw[NT] at h;unfold Region.wanted;rw[hg];simp only;cases hd:(ops[j]?).bind (·.dst) with
 |none=>rw[hd] at h;cases h
 |some t=>
  rw[hd] at h;simp only[EZ] at h;have hy:yielded ops.toArray a.tmps j=match a.tmps[t]? with|some (.bool b)=>some b|_=>none:=by
   unfold yielded;have:(ops.toArray[j]?).bind (·.dst)=some t:=by simpa using hd
   rw[this];rfl
  have hv:=henv t;generalize hl:lk env t=s at h hv;unfold a6j at h;have hb: ∀c,a.tmps.getD t undef= .bool c->a.tmps[t]? =some (.bool c):=by
   intro c hc;rw[aMk] at hc;cases hq:a.tmps[t]? with
   |none=>rw[hq] at hc;simp [undef] at hc
   |some v=>rw[hq] at hc;simp at hc;rw[hc]
  split at h
  .rename_i c k;simp only[aLO] at h;have:=hb _ (vL hv.1);rw[hy,this,<-h];cases c<;>cases b<;>rfl
  .rename_i p c k;simp only[aLO] at h;subst h;cases p with
   |true=>
    have:=hb _ (vL (hv.1.1 rfl));rw[hy,this];cases c<;>cases b<;>rfl
   |false=>
    have hu:=hv.1.2 rfl;have: ∀c,a.tmps[t]? ≠some (.bool c):=by
     intro c hc;rw[aMk,hc] at hu;simp [undef] at hu
    rw[hy];cases hq:a.tmps[t]? with
    |none=>cases b<;>rfl
    |some v=>cases v<;>first|(exact absurd hq (this _)) |(cases b<;>rfl)
  .cases h
theorem aFV {ops:List Oper}{o:Oper}{a:Act}{env:List (Nat×qC)}(henv:A5 g w env a.tmps) {j:Nat}{b:Bool}(hg:o.guard=some (j,b)) (h:ID env b (zF ops j)=false):Region.wanted o (yielded ops.toArray a.tmps)=false:=by
 rw[NT] at h;unfold Region.wanted;rw[hg];simp only;cases hd:(ops[j]?).bind (·.dst) with
 |none=>rw[hd] at h;cases h
 |some t=>
  rw[hd] at h;simp only[ID] at h;have hy:yielded ops.toArray a.tmps j=match a.tmps[t]? with|some (.bool b)=>some b|_=>none:=by
   unfold yielded;have:(ops.toArray[j]?).bind (·.dst)=some t:=by simpa using hd
   rw[this];rfl
  have hv:=henv t;generalize hl:lk env t=s at h hv;have hb: ∀c,a.tmps.getD t undef= .bool c->a.tmps[t]? =some (.bool c):=by
   intro c hc;rw[aMk] at hc;cases hq:a.tmps[t]? with
   |none=>rw[hq] at hc;simp [undef] at hc
   |some v=>rw[hq] at hc;simp at hc;rw[hc]
  have hun:a.tmps.getD t undef=undef->(yielded ops.toArray a.tmps j==some b)=false:=by
   intro hu;have: ∀c,a.tmps[t]? ≠some (.bool c):=by
    intro c hc;rw[aMk,hc] at hu;simp [undef] at hu
   rw[hy];cases hq:a.tmps[t]? with
   |none=>cases b<;>rfl
   |some v=>cases v<;>first|(exact absurd hq (this _)) |(cases b<;>rfl)
  unfold a6k at h;split at h
  .rename_i c k;have:=hb _ (vL hv.1);rw[hy,this];cases c<;>cases b<;>first|rfl|cases h
  .rename_i p c k;cases p with
   |true=>
    have:=hb _ (vL (hv.1.1 rfl));rw[hy,this];cases c<;>cases b<;>first|rfl|cases h
   |false=>exact hun (hv.1.2 rfl)
  .rename_i p k;subst h;exact hun (hv.1.2 rfl)
  .cases h
theorem NU {G:Bool}{p:Prop}: ∀{l:List Prop},p∈l->(G=true->p)∈N3 G l
 |q::l,h=>by
  simp only[N3];rcases aL3.1 h with rfl|h
  .exact aL7
  .exact aL5 _ (NU h)
theorem XF {o:Oper}{a:Act}{H:s0}(hH:sG g w H) {c x y:Operand}(hop:o.op= .pick c x y) {sc sx sy:qC}(hc:rJ g w sc (a.eval c)) (hx:rJ g w sx (a.eval x)) (hy:rJ g w sy (a.eval y)) {e:qH}(hr:N2 sc sx sy=some e) (hs: ∀p∈e.side,p):rD P o a g w H e:=by
 intro K Q hK;unfold N2 at hr;split at hr
 .rename_i z k;have hz:=vL hc.1;have run:(execOp a.eval o).run P w= .ok (.value (if z then a.eval x else a.eval y)) w:=by
   unfold execOp;rw[hop];simp [hz,asBool]
  have fin: ∀{v:Bool}{side:List Prop},(if z then a.eval x else a.eval y)= .bool v->e=⟨side,(.val .bool v,none),[],[]⟩->o.wp P a w K Q:=by
   intro v side hv he;subst he;refine rD.value (v:= .bool v) (g':=g) (w':=w) (H:=H) (by rw[run,hv]) (.pure hH (s:=(.val .bool v,none)) ⟨(w9 g w v:zH g w (.val .bool v) (.bool v)),trivial⟩) K Q hK
  unfold a6l at hr;split at hr
  .rename_i m1 _ m2 _;simp only[aLO] at hr;refine fin (v:=cond z m1 m2) ?_ hr.symm;cases z
   .exact vL hy.1
   .exact vL hx.1
  .rename_i p m1 _ m2 _;simp only[aLO] at hr;refine fin (v:=cond z m1 m2) ?_ hr.symm;cases z
   .exact vL hy.1
   .exact vL (hx.1.1 (hs (true=true->p=true) (by rw[<-hr];simp) rfl))
  .rename_i m1 _ p m2 _;simp only[aLO] at hr;refine fin (v:=cond z m1 m2) ?_ hr.symm;cases z
   .exact vL (hy.1.1 (hs (false=false->p=true) (by rw[<-hr];simp) rfl))
   .exact vL hx.1
  .rename_i q m1 _ p m2 _;simp only[aLO] at hr;refine fin (v:=cond z m1 m2) ?_ hr.symm;cases z
   .exact vL (hy.1.1 (hs (false=false->p=true) (by rw[<-hr];simp) rfl))
   .exact vL (hx.1.1 (hs (true=true->q=true) (by rw[<-hr];simp) rfl))
  .rename_i m1 _ p _;simp only[aLO] at hr;have hz1:z=true:=hs _ (by rw[<-hr];simp);refine fin (v:=m1) ?_ hr.symm;rw[hz1];exact vL hx.1
  .rename_i q m1 _ p _;simp only[aLO] at hr;have hz1:z=true:=hs (z=true) (by rw[<-hr];simp);refine fin (v:=m1) ?_ hr.symm;rw[hz1];exact vL (hx.1.1 (hs (q=true) (by rw[<-hr];simp)))
  .rename_i p _ m2 _;simp only[aLO] at hr;have hz1:z=false:=hs _ (by rw[<-hr];simp);refine fin (v:=m2) ?_ hr.symm;rw[hz1];exact vL hy.1
  .rename_i p _ q m2 _;simp only[aLO] at hr;have hz1:z=false:=hs (z=false) (by rw[<-hr];simp);refine fin (v:=m2) ?_ hr.symm;rw[hz1];exact vL (hy.1.1 (hs (q=true) (by rw[<-hr];simp)))
  .cases hr
 .cases hr
omit hT hΓ in
theorem NV {np:Nat}{x:Option qH}{e:qH}(h:W5 np x=some e):x=some e/\(GB e.rds=true->GI np e.upd=true):=by
 cases x with
 |none=>cases h
 |some q=>
  simp only[W5] at h;cases hq:GB q.rds with
  |false=>
   rw[hq] at h;cases h;exact⟨rfl,fun h=>by rw[hq] at h;cases h⟩
  |true=>
   rw[hq] at h;simp only[a6o] at h;split at h
   .rename_i hc;cases h;exact⟨rfl,fun _=>hc⟩
   .cases h
omit hT hΓ in
theorem a7Q {np:Nat}{H:s0}: ∀{U:List (Nat×q9)},GI np U=true->∀{i:Nat}{u:Ty}{y:u.den}{us:pL},i<np->qD (qP U H) i=some (.cells u y us)->qD H i=some (.cells u y us)
 |[],_,i,u,y,us,_,h=>h
 |(j,b)::U,h,i,u,y,us,hi,hg=>by
  simp only[qP,qD] at hg;split at hg
  .rename_i e;subst e;simp only[aLO] at hg;subst hg;simp only[GI] at h;split at h
   .omega
   .cases h
  .refine a7Q ?_ hi hg;unfold GI at h;split at h
   .rename_i heq;cases heq
   .rename_i heq;cases heq;split at h
    .exact h
    .cases h
   .rename_i heq;cases heq;exact h
theorem a7R {ops:List Oper}{o:Oper}{a:Act}{s:St}{e:qH}(henv:A5 g w s.env a.tmps) (hH:sG g w s.H) (hr:y3 T Γ ops o s=some e) (hs: ∀p∈e.side,p) (hf:yG g s.nb e) {K:Act->pR->Prop}{Q:Exit->Act->pR->Prop}
  (hK: ∀g' w' v,yV g w s.H e g' w' v->K (a.put o.dst v) w'):
  if Region.wanted o (yielded ops.toArray a.tmps) then o.wp P a w K Q else K (a.put o.dst undef) w:=by
 replace hr:=(NV hr).1;unfold KH at hr;cases hgd:o.guard with
 |none=>
  rw[hgd] at hr;simp only at hr;have hw:Region.wanted o (yielded ops.toArray a.tmps)=true:=by unfold Region.wanted;rw[hgd]
  rw[aLQ hw];cases hop:o.op with
  |pick c x y=>
   rw[hop] at hr;simp only[KG] at hr;exact XF hT hΓ hH hop (zL henv c) (zL henv x) (zL henv y) hr hs K Q hK
  |_=>
   rw[hop] at hr;simp only[KG] at hr;rw[<-hop] at hr;generalize hpl:uH T Γ o.type (fun x=>xC (u6 s.env x)) s.nb s.H o.op=op at hr;cases op with
   |none=>cases hr
   |some e0=>
    simp only[KE,aLO] at hr;subst hr;refine XD hT hΓ hH rfl (ρ:=fun x=>xC (u6 s.env x)) (fun x hx=> ?_) hpl (fun p hp=>hs p (wN.2 (.inr hp))) hf K Q (fun g' w' v h=>hK g' w' v ⟨h.le,h.slot,h.heap,h.fr,h.perm,h.gho,h.ty⟩);exact KX rfl (SM hx) (fun p hp=>hs p (wN.2 (.inl hp))) (zL henv x)
 |some jb=>
  obtain⟨j,b⟩:=jb;rw[hgd] at hr;simp only at hr;cases hsk:Γ (RN j b) with
  |some sg=>
   rw[hsk] at hr;simp only[N4] at hr;cases hdf:a6m o.op with
   |true=>rw[hdf] at hr;cases hr
   |false=>
   rw[hdf] at hr;simp only[a6n,aLO] at hr;subst hr;have hup:ID s.env b (zF ops j)=false:=hs _ aL7;rw[aFV hT hΓ henv hgd hup,aLU pH];exact hK g w undef (yV.pure hH ⟨⟨fun hc=>(by cases hc),fun _=>rfl⟩,trivial⟩)
  |none=>
  rw[hsk] at hr;simp only[N4] at hr;generalize hG:EZ s.env b (zF ops j)=oG at hr;cases oG with
  |none=>cases hr
  |some G=>
   have hw:=aFU hT hΓ henv hgd hG;rw[hw];by_cases hpk: ∃c x y,o.op= .pick c x y
   .obtain⟨c,x,y,hop⟩:=hpk;rw[hop] at hr;simp only[KF] at hr;generalize hpl:N2 (xC (u6 s.env c)) (u6 s.env x) (u6 s.env y)=op at hr;cases op with
    |none=>cases hr
    |some e0=>
     unfold GH at hr;split at hr
     .rename_i side d k rds heq;simp only[aLO] at hr heq;subst hr;subst heq;by_cases hGt:G=true
      .rw[aLQ hGt];refine XF hT hΓ hH hop (KX hGt (ss:=[u6 s.env c]) pI (fun p hp=>hs p (wN.2 (.inl hp))) (zL henv c)) (zL henv x) (zL henv y) hpl (fun p hp=>hs (G=true->p) (wN.2 (.inr (NU hT hΓ hp))) hGt) K Q (fun g' w' v h=>hK g' w' v ⟨h.le,⟨⟨fun _=>h.slot.1,fun hc=>by rw[hGt] at hc;cases hc⟩,trivial⟩,h.heap,h.fr,h.perm,h.gho,h.ty⟩)
      .rw[aLU hGt];exact hK g w undef (yV.pure hH ⟨⟨fun hc=>absurd hc hGt,fun _=>rfl⟩,trivial⟩)
     .rename_i side sl u us rds heq;simp only[aLO] at hr heq;subst hr;subst heq;have hGt:G=true:=hs _ aL7;rw[aLQ hGt];exact XF hT hΓ hH hop (KX hGt (ss:=[u6 s.env c]) pI (fun p hp=>hs p (aL5 _ (wN.2 (.inl hp)))) (zL henv c)) (zL henv x) (zL henv y) hpl (fun p hp=>hs (G=true->p) (aL5 _ (wN.2 (.inr (NU hT hΓ hp)))) hGt) K Q (fun g' w' v h=>hK g' w' v ⟨h.le,h.slot,h.heap,h.fr,h.perm,h.gho,h.ty⟩)
     .cases hr
   .have e1:KF T Γ o s (some G) o.op=GH G (yF G (BI s.env (sJ o.op))) (uH T Γ o.type (fun x=>xC (u6 s.env x)) s.nb s.H o.op):=by
     cases ho:o.op<;>first|rfl|(exact absurd ⟨_,_,_,ho⟩ hpk)
    rw[e1] at hr;generalize hpl:uH T Γ o.type (fun x=>xC (u6 s.env x)) s.nb s.H o.op=op at hr;cases op with
    |none=>cases hr
    |some e0=>
     unfold GH at hr;split at hr
     .rename_i side d k rds heq;simp only[aLO] at hr heq;subst hr;subst heq;by_cases hGt:G=true
      .rw[aLQ hGt];refine XD hT hΓ hH rfl (ρ:=fun x=>xC (u6 s.env x)) (fun x hx=> ?_) hpl (fun p hp=>hs (G=true->p) (wN.2 (.inr (NU hT hΓ hp))) hGt) (fun i hi=>by cases hi) K Q (fun g' w' v h=>hK g' w' v ⟨h.le,⟨⟨fun _=>h.slot.1,fun hc=>by rw[hGt] at hc;cases hc⟩,trivial⟩,h.heap,h.fr,h.perm,h.gho,h.ty⟩);exact KX hGt (SM hx) (fun p hp=>hs p (wN.2 (.inl hp))) (zL henv x)
      .rw[aLU hGt];exact hK g w undef (yV.pure hH ⟨⟨fun hc=>absurd hc hGt,fun _=>rfl⟩,trivial⟩)
     .rename_i side sl u us rds heq;simp only[aLO] at hr heq;subst hr;subst heq;have hGt:G=true:=hs _ aL7;rw[aLQ hGt];refine XD hT hΓ hH rfl (ρ:=fun x=>xC (u6 s.env x)) (fun x hx=> ?_) hpl (fun p hp=>hs (G=true->p) (aL5 _ (wN.2 (.inr (NU hT hΓ hp)))) hGt) hf K Q (fun g' w' v h=>hK g' w' v ⟨h.le,h.slot,h.heap,h.fr,h.perm,h.gho,h.ty⟩);exact KX hGt (SM hx) (fun p hp=>hs p (aL5 _ (wN.2 (.inl hp)))) (zL henv x)
     .cases hr
end
structure tP (A:Nat->Nat->Prop) (L:List q9) (g0:Gh) (w0:pR) (g:Gh) (w:pR) (H:s0):Prop where
 shut: ∀b o,g0.S b o->g.S b o/\w.cell? ⟨b,o,none⟩=w0.cell? ⟨b,o,none⟩
 fr:Fr A w0 w g0.S g.S
 perm: ∀i blk b o,qD H i=some blk->sA g i blk b o->w0.heap.size<=b\/A b o
 J: ∀i p,i<L.length->g0.J i=some p->g.J i=some p
 live: ∀i,i<L.length->(∃p,g.J i=some p)\/(∃n v,g.cur i n=some v)
 ty: ∀i u y us,i<L.length->qD H i=some (.cells u y us)->∃x ts,L[i]? =some (.cells u x ts)
 cur: ∀i n v,i<L.length->g0.cur i n=some v->g.cur i n=some v
theorem tP.eff {A:Nat->Nat->Prop}{L:List q9}{g0 g g':Gh}{w0 w w':pR}{H:s0}{e:qH}{v:pS}(h:tP A L g0 w0 g w H) (k:yV g w H e g' w' v) (hc:GB e.rds=true->GI L.length e.upd=true):tP A L g0 w0 g' w' (qP e.upd H):=by
 have hown: ∀b o,sW g H (qG e.upd) b o->w0.heap.size<=b\/A b o:=fun b o ⟨i,blk,_,h2,h3⟩=>h.perm i blk b o h2 h3;refine⟨fun b o hs=> ?_,h.fr.trans k.fr hown,fun i blk b o hg ho=> ?_,fun i p hi hp=>k.le.J _ _ (h.J i p hi hp),fun i hi=> ?_,fun i u y us hi hg=> ?_,fun i n u hi hu=>k.le.cur _ _ _ (h.cur i n u hi hu)⟩
 .obtain⟨h1,h2⟩:=h.shut b o hs;exact⟨k.le.S b o h1,(k.le.cell b o h1).trans h2⟩
 .by_cases hi:i∈qG e.upd
  .rcases k.perm i blk b o hi hg ho with h1|h1
   .exact .inl (aMN h.fr.size h1)
   .exact hown b o h1
  .exact h.perm i blk b o ((BN hi).symm.trans hg) ((yW (k.gho i hi).1 (k.gho i hi).2).1 ho)
 .rcases h.live i hi with⟨p,hp⟩ |⟨n,u,hu⟩
  .exact .inl ⟨p,k.le.J _ _ hp⟩
  .exact .inr ⟨n,u,k.le.cur _ _ _ hu⟩
 .cases hre:GB e.rds with
  |true=>exact h.ty i u y us hi (a7Q (hc hre) hi hg)
  |false=>
   rcases k.ty hre i u y us hg with⟨x,ts,h1⟩ |⟨h1,h2⟩
   .exact h.ty i u x ts hi h1
   .rcases h.live i hi with⟨p,hp⟩ |⟨n,u,hu⟩
    .rw[h1] at hp;cases hp
    .rw[h2] at hu;cases hu
def yZ:pL->Nat->pP
 |[],_=>none
 |(n,o)::r,k=>if n=k then some o else yZ r k
def uJ (g:Gh) (np:Nat) (m:pL):Gh:=
 ⟨g.S,fun i=>if i<np then g.J i else(yZ m i).bind g.J,fun i n=>if i<np then g.cur i n else(yZ m i).bind fun o=>g.cur o n⟩
theorem SN {n o:Nat}: ∀{m:pL},KJ n o m=false->∀n' o',(n',o')∈m->n'≠n/\o'≠o
 |[],_,_,_,h=>by cases h
 |(a,b)::m,h,n',o',hm=>by
  simp only[KJ,aMz,aMH] at h;rcases aL3.1 hm with h1|h1
  .cases h1;exact h.1
  .exact SN h.2 n' o' h1
theorem XG {np:Nat}: ∀{m:pL},wM np m=true->∀{n o:Nat},(n,o)∈m->yZ m n=some o/\(n<np->o=n)
 |[],_,_,_,h=>by cases h
 |(a,b)::m,hk,n,o,h=>by
  simp only[wM,aMb,aMq,aMZ,aMj] at hk;obtain⟨⟨h1,h2⟩,h3⟩:=hk;simp only[yZ];rcases aL3.1 h with h4|h4
  .cases h4;rw[aLQ rfl];exact⟨rfl,fun h5=>by rcases h1 with h1|h1<;>omega⟩
  .have h5:=SN h2 n o h4;rw[aLU (Ne.symm h5.1)];exact XG h3 h4
theorem C8: ∀{m:pL}{k j:Nat},wL m k=some j->(j,k)∈m
 |[],_,_,h=>by cases h
 |(a,b)::m,k,j,h=>by
  simp only[wL] at h;split at h
  .rename_i e;subst e;simp only[aLO] at h;subst h;exact aL7
  .exact aL5 _ (C8 h)
theorem A6 {g:Gh}{np:Nat}{m:pL}(hk:wM np m=true) {n o:Nat}(h:(n,o)∈m):(uJ g np m).J n=g.J o/\(uJ g np m).cur n=g.cur o:=by
 obtain⟨h1,h2⟩:=XG hk h;refine⟨?_,?_⟩
 .show (if n<np then g.J n else(yZ m n).bind g.J)=_;by_cases hn:n<np
  .rw[aLQ hn,h2 hn]
  .rw[aLU hn,h1];rfl
 .funext q;show (if n<np then g.cur n q else(yZ m n).bind fun o=>g.cur o q)=_;by_cases hn:n<np
  .rw[aLQ hn,h2 hn]
  .rw[aLU hn,h1];rfl
theorem XH {g:Gh}{np:Nat}{m:pL}(hk:wM np m=true): ∀(l l':pL) (vs:pN),xO g l vs->BK m l=some l'->xO (uJ g np m) l' vs
 |[],l',vs,h,hr=>by simp only[BK,aLO] at hr;subst hr;exact h
 |(i,o)::l,l',vs,⟨p,vs',h1,h2,h3⟩,hr=>by
  simp only[BK] at hr;cases hi:wL m i with
  |none=>rw[hi] at hr;cases hr2:BK m l<;>rw[hr2] at hr<;>cases hr
  |some j=>
   rw[hi] at hr;cases hr2:BK m l with
   |none=>rw[hr2] at hr;cases hr
   |some l2=>
    rw[hr2] at hr;simp only[BK.renCons,aLO] at hr;subst hr;exact⟨p,vs',by rw[(A6 hk (C8 hi)).1];exact h1,h2,XH hk l l2 vs' h3 hr2⟩
theorem aFW {m:pL}{u t:Ty}{x y:t.den}{o:Nat}{l:List u.den}(h:yU m t x=some y) (hg:rC (.list u) t x o=some l):rC (.list u) t y o=some l:=
 X4 (yU m) (fun _ _ _=>rfl) (fun _ _=>rfl) h hg
theorem NW {g:Gh}{w:pR}{np:Nat}{m:pL}(hk:wM np m=true): ∀{t:Ty}{x y:t.den}{cs:pN},Rd g w t x cs->yU m t x=some y->Rd (uJ g np m) w t y cs
 | .bool,_,_,_,r,h=>by cases h;exact r
 | .int _,_,_,_,r,h=>by cases h;exact r
 | .str,_,_,_,r,h=>by cases h;exact r
 | .unit,_,_,_,r,h=>by cases h;exact r
 | .list t,x,y,_,r,h=>by
  simp only[yU] at h;split at h
  .rename_i hp;cases h;exact vT (g:=g) (g':=uJ g np m) rfl (t:= .list t) (by simpa[Ty.pure] using hp) r
  .cases h
 | .ref,none,y,_,r,h=>by cases h;exact r
 | .ref,some (i,o),y,_,⟨p,h1,h2⟩,h=>by
  simp only[yU,RS] at h;cases hi:wL m i with
  |none=>rw[hi] at h;cases h
  |some j=>
   rw[hi] at h;cases h;exact⟨p,by rw[(A6 hk (C8 hi)).1];exact h1,h2⟩
 | .clo,none,y,_,r,h=>by cases h;exact r
 | .clo,some (f,l),y,_,⟨vs,h1,h2⟩,h=>by
  simp only[yU,a6s] at h;cases hi:BK m l with
  |none=>rw[hi] at h;cases h
  |some l'=>
   rw[hi] at h;cases h;exact⟨vs,XH hk l l' vs h1 hi,h2⟩
 | .fn,_,_,_,r,h=>by cases h;exact r
 | .rl _ _,none,y,_,r,h=>by cases h;exact r
 | .rl _ _,some (k,n),y,_,⟨v,h1,h2⟩,h=>by
  simp only[yU,a6u] at h;cases hi:wL m k with
  |none=>rw[hi] at h;cases h
  |some j=>
   rw[hi] at h;cases h;exact⟨v,by rw[(A6 hk (C8 hi)).2];exact h1,h2⟩
 | .mref,none,y,_,r,h=>by cases h;exact r
 | .mref,some (i,o),y,_,⟨p,h1,h2⟩,h=>by
  simp only[yU,RS] at h;cases hi:wL m i with
  |none=>rw[hi] at h;cases h
  |some j=>
   rw[hi] at h;cases h;exact⟨p,by rw[(A6 hk (C8 hi)).1];exact h1,h2⟩
 | .mp,none,y,_,r,h=>by cases h;exact r
 | .mp,some i,y,_,⟨p,h1,h2⟩,h=>by
  simp only[yU,a6t] at h;cases hi:wL m i with
  |none=>rw[hi] at h;cases h
  |some j=>
   rw[hi] at h;cases h;exact⟨p,by rw[(A6 hk (C8 hi)).1];exact h1,h2⟩
 | .pair a b,x,y,_,⟨c1,c2,e,r1,r2⟩,h=>by
  simp only[yU] at h;obtain⟨h1,h2⟩:=X3 h;refine⟨c1,c2,e,?_,?_⟩
  .split at h1
   .rename_i hp;exact(aLS h1)▸vT (g:=g) (g':=uJ g np m) rfl hp r1
   .exact NW hk r1 h1
  .split at h2
   .rename_i hp;exact(aLS h2)▸vT (g:=g) (g':=uJ g np m) rfl hp r2
   .exact NW hk r2 h2
theorem SO {g:Gh}{w:pR}{np:Nat}{m:pL}(hk:wM np m=true) {s:qC}{v:pS}(h:rJ g w s v):rJ (uJ g np m) w (zG m s) v:=by
 have caps: ∀(l l':pL) (vs:pN),xO g l vs->BK m l=some l'->xO (uJ g np m) l' vs:=XH hk;unfold zG;split
 .rename_i k n k';cases hi:wL m k with
  |none=>exact⟨trivial,trivial⟩
  |some j=>
   obtain⟨h1,h2⟩:=h.1;exact⟨⟨by rw[(A6 hk (C8 hi)).2];exact h1,h2⟩,trivial⟩
 .obtain h1:=h.1;refine⟨?_,trivial⟩;rcases h1 with⟨h1,_⟩ |⟨_,h2⟩
  .cases h1
  .exact .inr ⟨rfl,h2⟩
 .rename_i p k;obtain⟨i,o⟩:=p;simp only[a6q];cases hi:wL m i with
  |none=>exact⟨trivial,trivial⟩
  |some j=>
   simp only[Option.map_some,zG.refSlot];obtain⟨q,hq,hv⟩:=yX h.1;exact⟨.inr ⟨rfl,q,by rw[(A6 hk (C8 hi)).1];exact hq,by rw[hv]⟩,trivial⟩
 .rename_i f l k;cases hl:BK m l with
  |none=>exact⟨trivial,trivial⟩
  |some l'=>
   simp only[zG.cloSlot];rcases h.1 with⟨h1,_⟩ |⟨_,vs,h2,h3⟩
   .cases h1
   .exact⟨.inr ⟨rfl,vs,caps l l' vs h2 hl,h3⟩,trivial⟩
 .rename_i i k;cases hi:wL m i with
  |none=>exact⟨trivial,trivial⟩
  |some j=>
   simp only[zG.mpSlot];rcases h.1 with⟨h1,_⟩ |⟨_,p,h2,h3⟩
   .cases h1
   .exact⟨.inr ⟨rfl,p,by rw[(A6 hk (C8 hi)).1];exact h2,h3⟩,trivial⟩
 .rename_i t x k _ _ _ _;split
  .rename_i hp;have hv:tJ (uJ g np m) w t x v:=h.1.imp (fun⟨a,cs,e,q⟩=>⟨a,cs,e,vT (g:=g) (g':=uJ g np m) rfl hp q⟩) (fun⟨a,q⟩=>⟨a,vT (g:=g) (g':=uJ g np m) rfl hp q⟩);refine⟨hv,?_⟩;replace h:=a7f h;generalize htk:DQ t k=k' at h|-;cases k' with
   |none=>trivial
   |some k=>
    simp only[a6r];cases hj:wL m k with
    |none=>trivial
    |some j=>
     have h2:=h.2;cases t with
     |list u=>
      show (uJ g np m).cur j _=_;rw[(A6 hk (C8 hj)).2];exact h2
     |pair a b=>cases htk
     |_=>exact h2.elim
  .cases hy:yU m t x with
   |none=>exact⟨trivial,trivial⟩
   |some y=>
    simp only[zG.valSlot];exact⟨h.1.imp (fun⟨a,cs,e,q⟩=>⟨a,cs,e,NW hk q hy⟩) (fun⟨a,q⟩=>⟨a,NW hk q hy⟩),trivial⟩
 .rename_i t x k;split
  .rename_i hp;obtain⟨b,o,cs,h1,h2,h3,h4⟩:=h.1;exact⟨⟨b,o,cs,h1,h2,h3,vT (g:=g) (g':=uJ g np m) rfl hp h4⟩,trivial⟩
  .exact⟨trivial,trivial⟩
 .exact⟨h.1,trivial⟩
 .exact⟨trivial,trivial⟩
theorem a7S {q j:Nat}{x:Nat×Nat}: ∀{r:pL},x∈RT q j r->x=(q,j)\/x∈r
 |[],h=> .inl (aL6.1 h)
 |(a,b)::r,h=>by
  simp only[RT] at h;split at h
  .exact aL3.1 h
  .rcases aL3.1 h with h|h
   .exact .inr (by rw[h];exact aL7)
   .exact(a7S h).imp id (aL5 _)
theorem SP {m:pL}: ∀{ts:pL}{q j:Nat},(q,j)∈IH m ts->∃k,(q,k)∈ts/\wL m k=some j
 |[],_,_,h=>by cases h
 |(a,b)::ts,q,j,h=>by
  simp only[IH] at h;cases hb:wL m b with
  |none=>
   rw[hb] at h;obtain⟨k,h1,h2⟩:=SP h;exact⟨k,aL5 _ h1,h2⟩
  |some j'=>
   rw[hb] at h;simp only[IH.renTok1] at h;rcases a7S h with h1|h1
   .cases h1;exact⟨b,aL7,hb⟩
   .obtain⟨k,h1,h2⟩:=SP h1;exact⟨k,aL5 _ h1,h2⟩
theorem IN {g:Gh}{w:pR}{np:Nat}{m:pL}(hk:wM np m=true) {n o:Nat}(hm:(n,o)∈m) {b:Option q9}(h: ∀c,b=some c->zI g w o c):
  zI (uJ g np m) w n (GM m b)/\∀bb oo,sA (uJ g np m) n (GM m b) bb oo->∃c,b=some c/\sA g o c bb oo:=by
 obtain⟨hJ,hcur⟩:=A6 (g:=g) hk hm;unfold GM;split
 .rename_i t x toks;split
  .rename_i hp;obtain⟨p,cs,h1,h2,h3,h4,h5,h6⟩:=h _ rfl;refine⟨⟨p,cs,by rw[hJ];exact h1,vT (g:=g) (g':=uJ g np m) rfl hp h2,h3,h4,h5,fun q j hmem=> ?_⟩,fun bb oo ⟨pp,e1,e2⟩=>⟨_,rfl,pp,by rw[hJ] at e1;exact e1,e2⟩⟩;obtain⟨k,k1,k2⟩:=SP hmem;obtain⟨u,l,v,g1,g2,g3⟩:=h6 q k k1;exact⟨u,l,v,g1,g2,by rw[(A6 hk (C8 k2)).2];exact g3⟩
  .cases hy:yU m t x with
   |none=>exact⟨trivial,fun _ _ h=>h.elim⟩
   |some y=>
    obtain⟨p,cs,h1,h2,h3,h4,h5,h6⟩:=h _ rfl;simp only[W6];refine⟨⟨p,cs,by rw[hJ];exact h1,NW hk h2 hy,h3,h4,h5,fun q j hmem=> ?_⟩,fun bb oo ⟨pp,e1,e2⟩=>⟨_,rfl,pp,by rw[hJ] at e1;exact e1,e2⟩⟩;obtain⟨k,k1,k2⟩:=SP hmem;obtain⟨u,l,v,g1,g2,g3⟩:=h6 q k k1;exact⟨u,l,v,aFW hy g1,g2,by rw[(A6 hk (C8 k2)).2];exact g3⟩
 .rename_i e c k;obtain⟨v,xs,h1,h2,h3,h4⟩:=h _ rfl;exact⟨⟨v,xs,by rw[hcur];exact h1,h2,fun q hq=>by rw[hcur];exact h3 q hq,h4⟩,fun bb oo ⟨v',e1,e2⟩=>⟨_,rfl,v',by rw[hcur] at e1;exact e1,e2⟩⟩
 .rename_i e t l n;split
  .rename_i hp;obtain⟨h0,v,xs,h1,h2,h5,h3,h4⟩:=h _ rfl;exact⟨⟨h0,v,xs,by rw[hcur];exact h1,h2,C7 (fun _ _ h=>vT (g:=g) (g':=uJ g np m) rfl hp h) h5,fun q hq=>by rw[hcur];exact h3 q hq,h4⟩,fun bb oo ⟨v',e1,e2⟩=>⟨_,rfl,v',by rw[hcur] at e1;exact e1,e2⟩⟩
  .exact⟨trivial,fun _ _ h=>h.elim⟩
 .rename_i k v l;split
  .rename_i hp;rw[aMb] at hp;obtain⟨p,es,cl,h1,h0,h2,h3,h4⟩:=h _ rfl;exact⟨⟨p,es,cl,by rw[hJ];exact h1,h0,h2,ND (g:=g) (g':=uJ g np m) rfl hp.1 hp.2 h3,h4⟩,fun bb oo ⟨pp,e1,e2⟩=>⟨_,rfl,pp,by rw[hJ] at e1;exact e1,e2⟩⟩
  .exact⟨trivial,fun _ _ h=>h.elim⟩
 .obtain⟨p,h1,h0,h2,h4⟩:=h _ rfl;exact⟨⟨p,by rw[hJ];exact h1,h0,h2,h4⟩,fun bb oo ⟨pp,e1,e2⟩=>⟨_,rfl,pp,by rw[hJ] at e1;exact e1,e2⟩⟩
 .exact⟨trivial,fun _ _ h=>h.elim⟩
theorem GT {m:pL}{H:s0}: ∀{l:pL}{n:Nat}{b:q9},qD (RU m H l) n=some b->∃o,(n,o)∈l/\b=GM m (qD H o)
 |[],_,_,h=>by cases h
 |(a,c)::l,n,b,h=>by
  simp only[RU,qD] at h;split at h
  .rename_i e;subst e;exact⟨c,aL7,(aLS h).symm⟩
  .obtain⟨o,h1,h2⟩:=GT h;exact⟨o,aL5 _ h1,h2⟩
theorem a7T {m:pL}{env:List (Nat×qC)}: ∀(l:pQ) (t:Nat),lk (N7 m env l) t=(.any,none)\/lk (N7 m env l) t=zG m (lk env t)
 |[],_=> .inl rfl
 |a::l,t=>by
  simp only[N7,lk];split
  .rename_i e;subst e;exact .inr rfl
  .exact a7T l t
theorem a7U: ∀{m:pL}{n o:Nat},(n,o)∈m->n<RV m
 |(a,b)::m,n,o,h=>by
  simp only[RV];rcases aL3.1 h with h1|h1
  .cases h1;omega
  .have:=a7U h1;omega
theorem XI: ∀{m:pL}{n o:Nat},yZ m n=some o->(n,o)∈m
 |[],_,_,h=>by cases h
 |(a,b)::m,n,o,h=>by
  simp only[yZ] at h;split at h
  .rename_i e;subst e;simp only[aLO] at h;subst h;exact aL7
  .exact aL5 _ (XI h)
theorem XJ {B:Nat}{A:Nat->Nat->Prop}{L:List q9}{g0 g:Gh}{w0 w:pR}{s:St}{a:Act}(h:vE B g w s a) (hg:tP A L g0 w0 g w s.H) (hnp:s.np=L.length) (k:vS) (hk:wM s.np k.ids=true):
  vE B (uJ g s.np k.ids) w (s.keep k) a/\tP A L g0 w0 (uJ g s.np k.ids) w (s.keep k).H/\(s.keep k).np=L.length/\(s.keep k).N=s.N:=by
 unfold St.keep;rw[hk];refine⟨⟨fun t=> ?_,⟨fun i b hb=> ?_,fun i j bi bj b o hij h1 h2 o1 o2=> ?_,h.heap.sl,h.heap.tab.1,fun i b bb oo hb ho=>by
   obtain⟨o,h1,rfl⟩:=GT hb;obtain⟨c1,e1,o1'⟩:=(IN hk h1 fun c hc=>h.heap.blk o c hc).2 bb oo ho;exact h.heap.tab.2 o c1 bb oo e1 o1'⟩,h.size,fun i hi=> ?_,h.def_,Nat.le_max_left _ _⟩,⟨hg.shut,hg.fr,fun i blk b o hb ho=> ?_,fun i p hi hp=> ?_,fun i hi=> ?_,fun i u y us hi hb=> ?_,fun i n u hi hu=>(by
   show (if i<s.np then g.cur i n else _)=_;rw[aLQ pG];exact hg.cur i n u hi hu)⟩,hnp,rfl⟩
 .rcases a7T (m:=k.ids) (env:=s.env) k.slots t with e|e
  .exact⟨by rw[show lk (N8 s k true).env t=_ from e];trivial,by rw[show lk (N8 s k true).env t=_ from e];trivial⟩
  .have:=SO hk (h.env t);rw[show lk (N8 s k true).env t=_ from e];exact this
 .obtain⟨o,h1,rfl⟩:=GT hb;exact(IN hk h1 fun c hc=>h.heap.blk o c hc).1
 .obtain⟨p,k1,rfl⟩:=GT h1;obtain⟨q,k2,rfl⟩:=GT h2;obtain⟨c1,e1,o1'⟩:=(IN hk k1 fun c hc=>h.heap.blk p c hc).2 b o o1;obtain⟨c2,e2,o2'⟩:=(IN hk k2 fun c hc=>h.heap.blk q c hc).2 b o o2;refine h.heap.dis p q c1 c2 b o (fun e=> ?_) e1 e2 o1' o2';subst e;have inj: ∀{m:pL},wM s.np m=true->∀{i j o:Nat},(i,o)∈m->(j,o)∈m->i=j:=by
   intro m
   induction m with
   |nil=>intro _ _ _ _ h;cases h
   |cons z m ih=>
    obtain⟨z1,z2⟩:=z;intro hk i j o h1 h2;simp only[wM,aMb,aMq] at hk;rcases aL3.1 h1 with h1|h1<;>rcases aL3.1 h2 with h2|h2
    .cases h1;cases h2;rfl
    .cases h1;exact absurd rfl (SN hk.1.2 _ _ h2).2
    .cases h2;exact absurd rfl (SN hk.1.2 _ _ h1).2
    .exact ih hk.2 h1 h2
  exact hij (inj hk k1 k2)
 .have hi': ¬i<s.np:=by have:=aMN (Nat.le_max_left _ _) hi;omega
  have hold:yZ k.ids i=none:=by
   cases ho:yZ k.ids i with
   |none=>rfl
   |some o=>
    have:=a7U (XI ho);have:=aMN (Nat.le_max_right _ _) hi;omega
  refine⟨?_,fun n=> ?_⟩
  .show (if i<s.np then g.J i else(yZ k.ids i).bind g.J)=none;rw[aLU hi',hold];rfl
  .show (if i<s.np then g.cur i n else(yZ k.ids i).bind fun o=>g.cur o n)=none;rw[aLU hi',hold];rfl
 .obtain⟨p,h1,rfl⟩:=GT hb;obtain⟨c,e1,e2⟩:=(IN hk h1 fun c hc=>h.heap.blk p c hc).2 b o ho;exact hg.perm p c b o e1 e2
 .show (if i<s.np then g.J i else _)=_;rw[aLQ pG];exact hg.J i p hi hp
 .rcases hg.live i hi with⟨p,hp⟩ |⟨n,v,hv⟩
  .left;refine⟨p,?_⟩;show (if i<s.np then g.J i else _)=_;rw[aLQ pG];exact hp
  .right;refine⟨n,v,?_⟩;show (if i<s.np then g.cur i n else _)=_;rw[aLQ pG];exact hv
 .obtain⟨o,h1,h2⟩:=GT hb;have ho:=(XG hk h1).2 pG;subst ho;unfold GM at h2;split at h2
  .rename_i t x toks heq;split at h2
   .simp only[q9.cells.injEq] at h2;obtain⟨rfl,_⟩:=h2;exact hg.ty o u x toks hi heq
   .cases hy:yU k.ids t x with
    |none=>rw[hy] at h2;cases h2
    |some y=>
     rw[hy] at h2;simp only[W6,q9.cells.injEq] at h2;obtain⟨rfl,_⟩:=h2;exact hg.ty o u x toks hi heq
  .cases h2
  .split at h2<;>cases h2
  .split at h2<;>cases h2
  .cases h2
  .cases h2
theorem F6 {B:Nat}{A:Nat->Nat->Prop}{L:List q9}{g0 g:Gh}{w0 w:pR}{s:St}{a:Act}(h:vE B g w s a) (hg:tP A L g0 w0 g w s.H) (hnp:s.np=L.length) (k:vS):
  ∃g',vE B g' w (s.keep k) a/\tP A L g0 w0 g' w (s.keep k).H/\(s.keep k).np=L.length/\(s.keep k).N=s.N:=by
 unfold St.keep;cases hk:wM s.np k.ids with
 |false=>
  refine⟨g,⟨fun t=>⟨trivial,trivial⟩,⟨(fun i b h=>by cases h),(fun i j bi bj b o _ h=>by cases h),h.heap.sl,h.heap.tab.1,(fun i b bb oo h=>by cases h)⟩,h.size,h.nb,h.def_,h.np⟩,⟨hg.shut,hg.fr,(fun i blk b o h=>by cases h),hg.J,hg.live,(fun i u y us _ h=>by cases h),hg.cur⟩,hnp,rfl⟩
 |true=>
  have:=XJ h hg hnp k hk;unfold St.keep at this;rw[hk] at this;exact⟨_,this⟩
theorem XK {g g':Gh}{w w':pR}{env:List (Nat×qC)}{a:Act}{o:Oper}{sl:qC}{v:pS}(h:A5 g w env a.tmps) (le:Le g w g' w') (hs:rJ g' w' sl v) {N:Nat}(hN:a.tmps.size=N) (hd:GJ N o.dst=true):A5 g' w' (u7 o.dst sl env) (a.put o.dst v).tmps:=by
  intro t;cases ho:o.dst with
  |none=>exact C6 le (h t)
  | some d=>
    rw[ho] at hd;simp only[GJ,aMj] at hd;simp only[u7,lk,Act.put];by_cases hdt:d=t
    · subst hdt
      rw[aLQ rfl];have hlt:d<a.tmps.size:=by rw[hN];exact hd
      have:(a.tmps.setIfInBounds d v).getD d undef=v:=by
        rw[aMk,Array.getElem?_setIfInBounds_self_of_lt hlt];rfl
      rw[this];exact hs
    · rw[aLU hdt]
      have:(a.tmps.setIfInBounds d v).getD t undef=a.tmps.getD t undef:=by
        rw[aMk,aNa hdt,←aMk]
      rw[this];exact C6 le (h t)
theorem NX {n:Nat}: ∀{u:List (Nat×q9)},GK n u=true→∀{i:Nat},i∈qG u→i<n
  | (k,b)::u,h,i,hi=>by
    simp only[GK,aMb,aMj] at h;simp only[qG,aL3] at hi;rcases hi with rfl|hi
    .exact h.1
    .exact NX h.2 hi
theorem a7V (a:Act) (d:Option Tmp) (v:pS):(a.put d v).tmps.size=a.tmps.size:=by
  cases d<;>simp [Act.put]
theorem a7W (a:Act) (d:Option Tmp) (v:pS):(a.put d v).defers=a.defers:=by
  cases d<;>simp [Act.put]
theorem vE.step {B:Nat}{g g':Gh}{w w':pR}{s:St}{a:Act}{o:Oper}{e:qH}{v:pS}(h:vE B g w s a) (k:yV g w s.H e g' w' v) (hd:GJ s.N o.dst=true) (hi:GK (s.nb+32) e.upd=true):
    vE B g' w' ⟨u7 o.dst e.slot s.env,qP e.upd s.H,s.nb+32,s.N,s.np⟩ (a.put o.dst v):=by
  refine⟨XK h.env k.le k.slot h.size hd,k.heap,(a7V _ _ _).trans h.size,fun i hn=> ?_,by rw[a7W];exact h.def_.eff h.heap k,aMN h.np (Nat.le_add_right _ _)⟩;have:i∉qG e.upd:=fun hm=>by have:=NX hi hm;simp only at hn;omega
  have hk:=k.gho i this;have hb:=h.nb i (by simp only at hn;omega);exact⟨hk.1.trans hb.1,fun n=>by rw[hk.2];exact hb.2 n⟩
theorem a7X {T:sM}{Γ:tX}{ops:List Oper}: ∀(l:List Oper),uI T Γ ops l none=none
  |[]=>rfl
  |_::_=>rfl
theorem XL {T:sM}{Γ:tX}{ops:List Oper}{o:Oper}{l:List Oper}{x y:vG}(h:uI T Γ ops (o::l) (some x)=some y):
    ∃ e,y3 T Γ ops o x.s=some e∧GJ x.s.N o.dst=true∧GK (x.s.nb+32) e.upd=true∧
      uI T Γ ops l (some ⟨⟨u7 o.dst e.slot x.s.env,qP e.upd x.s.H,x.s.nb+32,x.s.N,x.s.np⟩,qP x.side (qP (IE x.s.H e.upd e.rds e.upd) e.side),e::x.es⟩)=some y:=by
  simp only[uI] at h;cases he:y3 T Γ ops o x.s with
  |none=>rw[he] at h;simp only[RO] at h;rw[a7X] at h;cases h
  | some e=>
    rw[he] at h;simp only[RO] at h;by_cases hc:(GJ x.s.N o.dst&&GK (x.s.nb+32) e.upd)=true
    · rw[aLQ hc] at h
      simp only[aMb] at hc;exact⟨e,rfl,hc.1,hc.2,h⟩
    .rw[aLU hc,a7X] at h;cases h
theorem E2 {T:sM}{Γ:tX}{ops:List Oper}: ∀{l:List Oper}{x y:vG},uI T Γ ops l (some x)=some y→(∀p∈x.side,p∈y.side)∧y.s.N=x.s.N∧y.s.np=x.s.np
  | [],x,y,h=>by
    simp only[uI,aLO] at h;subst h;exact⟨fun _ h=>h,rfl,rfl⟩
  | o::l,x,y,h=>by
    obtain⟨e,_,_,_,h4⟩:=XL h;obtain⟨h5,h6,h7⟩:=E2 h4;exact⟨fun p hp=>h5 p (wN.2 (.inl hp)),h6,h7⟩
def E3 (ro:pP):Fence:={Fence.wide with round:=ro}
theorem a7Y {ro:pP}{n:Nat}{P:Program}{f:FuncId}{args:Array pS}{w:pR}{R:Ending→pR→Prop}(h:Calls P f args w R):CallsIn (E3 ro) n P f args w R:=callsIn_wide.2 h
section
variable {B:Nat}{P:Program}{T:sM}{Γ:tX}(hT:wV P T) (hΓ:D2 P Γ) {A:Nat→Nat→Prop}{L:List q9}{g0:Gh}{w0:pR}{Q:Exit→Act→pR→Prop}
include hT hΓ
theorem aFX {g:Gh}{w:pR}{s:St}{a:Act}(h:vE B g w s a) (e:qH):yG g s.nb e:=fun i _ hb=>h.nb i hb
omit hT hΓ in
theorem a7Z {ops:List Oper}{o:Oper}{s:St}{e:qH}(h:y3 T Γ ops o s=some e): ∀c,o.op≠.defer c:=by
  intro c hc;replace h:=(NV h).1;unfold KH at h;cases hg:o.guard with
  |none=>rw[hg,hc] at h;simp [KG,uH,KE] at h
  | some jb=>
    rw[hg,hc] at h;simp only at h;cases hk:Γ (RN jb.1 jb.2) with
    |some _=>rw[hk] at h;cases h
    | none=>
      rw[hk] at h;simp only[N4] at h;cases hG:EZ s.env jb.2 (zF ops jb.1)<;>rw[hG] at h<;>simp [KF,uH,GH] at h
omit hT hΓ in
theorem a71 {ro:pP}{o:Oper}{a:Act}{w:pR}{K:Act→pR→Prop}(hd: ∀c,o.op≠.defer c) (h:o.wp P a w K Q):o.wpIn (E3 ro) 0 P a w K Q:=by
  refine⟨fun _ _=>trivial,?_⟩;rw[Oper.semAt_eq _ _ _ hd];unfold Oper.wp at h;generalize (execOp a.eval o).run P w=r at h|-;unfold Oper.upon at h;unfold Oper.uponIn;split at h
  .exact h
  .exact h
  .exact h
  .exact⟨fun h0=>(by cases h0),a7Y h⟩
  .exact⟨fun h0=>(by cases h0),fun c cs _=>let ⟨v,w',r,s⟩:=h c cs;⟨v,w',r,stepsIn_wide.2 s⟩⟩
  .exact h
  .exact h.elim
theorem a73 {ro:pP}{ops:Array Oper}: ∀{l:List Oper}{x y:vG}{a:Act}{w:pR}{g:Gh},uI T Γ ops.toList l (some x)=some y→(∀p∈y.side,p)→vE B g w x.s a→tP A L g0 w0 g w x.s.H→L.length=x.s.np→
    (∀g' a' w',vE B g' w' y.s a'→tP A L g0 w0 g' w' y.s.H→Q .normal a' w')→wpListIn (E3 ro) 0 P ops Q l a w
  | [],x,y,a,w,g,h,hs,hr,hg,hn,hQ=>by
    simp only[uI,aLO] at h;subst h;exact hQ g a w hr hg
  | o::l,x,y,a,w,g,h,hs,hr,hg,hn,hQ=>by
    obtain⟨e,h1,h2,h3,h4⟩:=XL h;have hside: ∀p∈e.side,p:=fun p hp=>hs p ((E2 h4).1 p (wN.2 (.inr (wN.2 (.inr hp)))));have key:=a7R hT hΓ (ops:=ops.toList) (o:=o) (a:=a) (K:=wpListIn (E3 ro) 0 P ops Q l) (Q:=Q) hr.env hr.heap h1 hside (aFX hT hΓ hr e) (fun g' w' v k=>a73 h4 hs (hr.step k h2 h3) (hg.eff k (hn▸(NV h1).2)) hn hQ);simp only[aNe] at key;unfold wpListIn;split at key
    .rename_i hw;rw[aLQ hw];exact a71 (a7Z h1) key
    .rename_i hw;rw[aLU hw];exact⟨fun _ _=>trivial,key⟩
theorem aFY {ro:pP}{id:Nat}{ops:Array Oper}{s:St}{y:vG}{a:Act}{w:pR}{g:Gh}(h:uI T Γ ops.toList ops.toList (some ⟨s,[],[]⟩)=some y) (hs: ∀p∈y.side,p) (hr:vE B g w s a) (hg:tP A L g0 w0 g w s.H) (hn:L.length=s.np)
    (hQ: ∀g' a' w',vE B g' w' y.s a'→tP A L g0 w0 g' w' y.s.H→Q .normal a' w'):(Code.region id ops false).wpIn (E3 ro) 0 P Q a w:=
  wpIn_region_list (a73 hT hΓ h hs hr hg hn hQ)
end
theorem aFZ {H H':List (Nat×q9)}{t:Ty}{i off:Nat}{e:qH}(h:GG H t i off (qD H i)=some e) (hl: ∀id∈e.rds,qD H' id=qD H id):i∈e.rds∧GG H' t i off (qD H' i)=some e:=by
  have key: ∃k n v x ts,qD H i=some (.cells v x ts)∧AL v x=some (k,n)∧QW t i off k n v x (qD H k)=some e∧e.rds=[1000000000,i,k]:=by
    unfold GG at h;split at h
    case h_2=>cases h
    rename_i v x ts hb;cases hf:AL v x with
    |none=>rw[hf] at h;cases h
    | some q=>
      obtain⟨k,n⟩:=q;rw[hf] at h;refine⟨k,n,v,x,ts,hb,hf,h,?_⟩;simp only[QX] at h;unfold QW at h;split at h
      case h_2=>cases h
      generalize yS _ _ _ _=z at h;cases z with
      |none=>cases h
      | some z=>
        obtain⟨v',x'⟩:=z;simp only[VI] at h;unfold VH at h;split at h
        .simp only[aLO] at h;rw[←h]
        .cases h
  obtain⟨k,n,v,x,ts,h1,h2,h3,h4⟩:=key;refine⟨by rw[h4];simp,?_⟩;rw[hl i (by rw[h4];simp),h1];simp only[GG,h2,QX];rw[hl k (by rw[h4];simp)];exact h3
theorem XM {ρ ρ':Operand→qC}: ∀{xs:List Operand},(∀x∈xs,ρ' x=ρ x)→vK ρ' xs=vK ρ xs
  |[],_=>rfl
  |x::xs,h=>by simp only[vK,h x pI,XM (fun y hy=>h y (aL5 _ hy))]
theorem XN {ρ ρ':Operand→qC}: ∀{xs:List (Nat×Operand)},(∀x∈xs,ρ' x.2=ρ x.2)→uG ρ' xs=uG ρ xs
  |[],_=>rfl
  |(i,x)::xs,h=>by simp only[uG,h (i,x) pI,XN (fun y hy=>h y (aL5 _ hy))]
theorem a74 {T:sM}{ρ ρ':Operand→qC}: ∀{xs:List Operand}{ts:List TypeId},(∀x∈xs,ρ' x=ρ x)→EX T ρ' xs ts=EX T ρ xs ts
  |[],_,_=>by simp [EX]
  |_::_,[],_=>by simp [EX]
  |x::xs,t::ts,h=>by simp only[EX,h x pI,a74 (fun y hy=>h y (aL5 _ hy))]
theorem aF0 {T:sM}{Γ:tX}{ty:TypeId}{ρ ρ':Operand→qC}{base:Nat}{H:List (Nat×q9)}(op:Op) (h: ∀x∈op.operands,ρ' x=ρ x):uH T Γ ty ρ' base H op=uH T Γ ty ρ base H op:=by
  cases op
  case slice t x lo hi mx=>
    cases mx with
    |some m=>rfl
    | none=>
      have h1:=h x (by simp [Op.operands])
      have h2:yT ρ' lo=yT ρ lo:=by
        cases lo with
        |none=>rfl
        |some l=>simp only[yT,h l (by simp [Op.operands])]
      have h3:yT ρ' hi=yT ρ hi:=by
        cases hi with
        |none=>rfl
        |some l=>simp only[yT,h l (by simp [Op.operands])]
      simp only[uH,h1,h2,h3]
  case call c=>
    obtain⟨callee,args,tys⟩:=c
    have ha: ∀x∈args.toList,ρ' x=ρ x:=fun x hx=>h x (by
      have:x∈args:=by simpa using hx
      simp only[Op.operands,Call.operands];split<;>simp [this])
    cases callee with
    |builtin b=>cases b<;>simp only[uH,IC,XM ha]
    | value f=>
      have hf:=h f (by simp [Op.operands,Call.operands]);simp only[uH,IC,hf];cases IB args.toList tys.toList with
      |false=>rfl
      |true=>simp only[VW,a74 ha]
    |_=>rfl
  case build t ps=>simp only[uH,XN (fun x hx=>h x.2 (by simp only[Op.operands,aNz];exact List.mem_map_of_mem hx))]
  case buildSlice t n ps=>simp only[uH,XN (fun x hx=>h x.2 (by simp only[Op.operands,aNz];exact List.mem_map_of_mem hx))]
  case makeFunc f first caps=>
    cases f with
    | func f=>
      have hc: ∀x∈caps.toList,ρ' x=ρ x:=fun x hx=>h x (by
        have:x∈caps:=by simpa using hx
        simp [Op.operands,this])
      simp only[uH,XM hc]
    |_=>rfl
  all_goals first
    |rfl
    |(simp only[Op.operands,aNz,aL3,aNi,or_false,forall_eq,forall_eq_or_imp] at h;simp only[uH,h])
    |(simp [Op.operands] at h;simp only[uH,h])
theorem XO: ∀{l acc:List rH}{i:Nat},i∈sF (yQ l acc)↔i∈sF l∨i∈sF acc
  |[],_,_=>by simp [yQ,sF]
  | w::l,acc,i=>by
    simp only[yQ,XO,sF,aL3];constructor
    · rintro(h|h|h)
      .exact .inl (.inr h)
      .exact .inl (.inl h)
      .exact .inr h
    · rintro((h|h) |h)
      .exact .inr (.inl h)
      .exact .inl h
      .exact .inr (.inr h)
section
variable {H H':List (Nat×q9)}
theorem aF1 {k:pP}{a b:t7}(h:yR H k (some a)=some b):(∀i,i∈sF a.ws→i∈sF b.ws)∧((∀i,i∈sF b.ws→qD H' i=qD H i)→yR H' k (some a)=some b):=by
  cases k with
  | none=>
    have h:none=some b:=h;cases h
  | some k=>
    simp only[yR] at h|-
    have:(∃e c m,qD H k=some (.grow e c m)):=by
      cases hg:qD H k with
      |none=>rw[hg] at h;cases h
      | some bl=>cases bl with
        |grow e c m=>exact⟨_,_,_,rfl⟩
        |_=>rw[hg] at h;cases h
    obtain⟨e,c,m,hg⟩:=this;rw[hg] at h;simp only[BB] at h;split at h
    .cases h
    · rename_i hm
      simp only[aLO] at h;subst h;refine⟨fun i hi=>by simp only[sF,aL3];exact .inr hi,fun hl=> ?_⟩;rw[hl k (by simp [sF,rH.id]),hg];simp only[BB];rw[aLU hm]
theorem aF2 (H:List (Nat×q9)) (k:pP):yR H k none=none:=by
  cases k with
  |none=>rfl
  | some k=>
    simp only[yR];cases qD H k with
    |none=>rfl
    |some bl=>cases bl<;>rfl
theorem a75 (H:List (Nat×q9)) (toks:pL) (o:Nat): ∀(qs:pQ),xZ H toks o qs none=none
  |[]=>rfl
  |q::qs=>by simp only[xZ,aF2,a75 H toks o qs]
theorem a76 {H H':List (Nat×q9)}{toks:pL}{o:Nat}: ∀{qs:pQ}{a b:t7},xZ H toks o qs (some a)=some b→(∀i,i∈sF a.ws→i∈sF b.ws)∧((∀i,i∈sF b.ws→qD H' i=qD H i)→xZ H' toks o qs (some a)=some b)
  |[],a,b,h=>by simp only[xZ,aLO] at h;subst h;exact⟨fun _ h=>h,fun _=>rfl⟩
  | q::qs,a,b,h=>by
    simp only[xZ] at h|-;cases hm:yR H (wS toks (o+q)) (some a) with
    |none=>rw[hm,a75] at h;cases h
    | some m=>
      rw[hm] at h;obtain⟨h1,h2⟩:=aF1 (H':=H') hm;obtain⟨h3,h4⟩:=a76 (H':=H') h;exact⟨fun i hi=>h3 i (h1 i hi),fun hl=>by rw[h2 (fun i hi=>hl i (h3 i hi))];exact h4 hl⟩
theorem aF3 (H H':List (Nat×q9)) (a:t7) (s:qC):xM H' a .v s=xM H a .v s:=by
  obtain⟨d,k⟩:=s;cases d with
  | val t x=>
    cases t with
    | clo=>
      cases x with
      |none=>rfl
      |some q=>obtain⟨f,l⟩:=q;cases l<;>rfl
    |_=>rfl
  |_=>rfl
theorem a77 {H H':List (Nat×q9)}{t:Ty}{os:pQ}{i o:Nat}{a b:t7}(h:vR H t os i o a (qD H i)=some b):(∀i,i∈sF a.ws→i∈sF b.ws)∧((∀i,i∈sF b.ws→qD H' i=qD H i)→vR H' t os i o a (qD H' i)=some b):=by
  cases hg:qD H i with
  |none=>rw[hg] at h;simp [vR] at h
  | some bl=>
    rw[hg] at h;cases bl with
    | cells u x toks=>
      simp only[vR] at h;cases hy:rC t u x o with
      |none=>rw[hy] at h;simp [DR] at h
      | some y=>
        rw[hy] at h;simp only[DR] at h;split at h
        · rename_i hc
          obtain⟨h3,h4⟩:=a76 (H':=H') h;refine⟨fun j hj=>h3 j (by simp only[sF,aL3];exact .inr hj),fun hl=> ?_⟩;rw[hl i (h3 i (by simp [sF,rH.id])),hg];simp only[vR,hy,DR];rw[aLQ hc];exact h4 hl
        .cases h
    |_=>simp [vR] at h
theorem aF4 (H:List (Nat×q9)) (f:FuncId) (args:List qC) (ks:List (Ty×pQ)) (cs ids:pL):x9 H f args ks cs ids none=none:=by cases ks<;>cases cs<;>rfl
theorem a78 {H H':List (Nat×q9)}{f:FuncId}{args:List qC}: ∀{ks:List (Ty×pQ)}{cs ids:pL}{a b:t7},x9 H f args ks cs ids (some a)=some b→(∀i,i∈sF a.ws→i∈sF b.ws)∧((∀i,i∈sF b.ws→qD H' i=qD H i)→x9 H' f args ks cs ids (some a)=some b)
  | [],[],ids,a,b,h=>by
    simp only[x9,aLO] at h|-;subst h;exact⟨fun _ h=>h,fun _=>rfl⟩
  |[],_::_,_,_,_,h=>by simp [x9] at h
  |_::_,[],_,_,_,h=>by simp [x9] at h
  | (t,os)::ks,(i,o)::cs,ids,a,b,h=>by
    simp only[x9] at h|-;cases hb:vR H t os i o a (qD H i) with
    |none=>rw[hb,aF4] at h;cases h
    | some m=>
      rw[hb] at h;obtain⟨h1,h2⟩:=a77 (H':=H') hb;obtain⟨h3,h4⟩:=a78 (H':=H') h;exact⟨fun i hi=>h3 i (h1 i hi),fun hl=>by rw[h2 (fun i hi=>hl i (h3 i hi))];exact h4 hl⟩
theorem a79 {p:PK}{s:qC}{a b:t7}(h:xM H a p s=some b):(∀i,i∈sF a.ws→i∈sF b.ws)∧((∀i,i∈sF b.ws→qD H' i=qD H i)→xM H' a p s=some b):=by
  by_cases hpv:p= .v
  · subst hpv
    refine⟨?_,fun _=>by rw[aF3 H H'];exact h⟩;unfold xM at h;split at h
    .simp only[QH,aLO] at h;subst h;exact fun _ h=>h
    · simp only[QG] at h
      split at h
      .simp only[aLO] at h;subst h;exact fun _ h=>h
      .cases h
    .simp only[QI,aLO] at h;subst h;exact fun _ h=>h
    .rename_i h1;cases h1
    .rename_i h1;cases h1
    .rename_i h1;cases h1
    .rename_i h1;cases h1
    .rename_i h1;cases h1
    .cases h
  unfold xM at h;split at h
  .exact absurd rfl hpv
  .exact absurd rfl hpv
  .exact absurd rfl hpv
  · rename_i t x k
    simp only[xM];cases hg:qD H k with
    |none=>rw[hg] at h;simp [BC] at h
    | some bl=>
      rw[hg] at h;cases bl with
      | grow e c m=>
        simp only[BC] at h;split at h
        · rename_i hc
          simp only[aLO] at h;subst h;refine⟨fun i hi=>by simp only[sF,aL3];exact .inr hi,fun hl=> ?_⟩;rw[hl k (by simp [sF,rH.id]),hg];simp only[BC];rw[aLQ hc]
        .cases h
      |_=>simp [BC] at h
  · rename_i t os i o k
    simp only[xM];exact a77 h
  · rename_i i k
    simp only[xM];cases hg:qD H i with
    |none=>rw[hg] at h;simp [BD] at h
    | some bl=>
      rw[hg] at h;cases bl with
      | map s t l=>
        simp only[BD] at h;split at h
        · rename_i hc
          simp only[aLO] at h;subst h;refine⟨fun j hj=>by simp only[sF,aL3];exact .inr hj,fun hl=> ?_⟩;rw[hl i (by simp [sF,rH.id]),hg];simp only[BD];rw[aLQ hc]
        .cases h
      |_=>simp [BD] at h
  · rename_i k n k'
    simp only[xM];cases hg:qD H k with
    |none=>rw[hg] at h;simp [BE] at h
    | some bl=>
      rw[hg] at h;cases bl with
      | row e t l m=>
        simp only[BE] at h;split at h
        · rename_i hc
          simp only[aLO] at h;subst h;refine⟨fun j hj=>by simp only[sF,aL3];exact .inr hj,fun hl=> ?_⟩;rw[hl k (by simp [sF,rH.id]),hg];simp only[BE];rw[aLQ hc]
        .cases h
      |_=>simp [BE] at h
  · simp only[xM]
    exact a78 h
  .cases h
theorem a8a (H:List (Nat×q9)) (gs:List (Nat×Nat×PK)):AJ H gs none=none:=by cases gs<;>rfl
theorem a8b {H H':List (Nat×q9)}: ∀{gs:List (Nat×Nat×PK)}{a b:t7},AJ H gs (some a)=some b→(∀i,i∈sF a.ws→i∈sF b.ws)∧((∀i,i∈sF b.ws→qD H' i=qD H i)→AJ H' gs (some a)=some b)
  |[],a,b,h=>by simp only[AJ,aLO] at h;subst h;exact⟨fun _ h=>h,fun _=>rfl⟩
  | (c,q,pk)::gs,a,b,h=>by
    simp only[AJ] at h|-;cases hm:xM H a pk (I0 q pk (GC a.H (a.n-1-c))) with
    |none=>rw[hm] at h;simp only[K5,a8a] at h;cases h
    | some m=>
      rw[hm] at h;simp only[K5] at h;obtain⟨h1,h2⟩:=a79 (H':=H') hm;obtain⟨h3,h4⟩:=a8b (H':=H') h;exact⟨fun i hi=>h3 i (h1 i hi),fun hl=>by rw[h2 (fun i hi=>hl i (h3 i hi))];simp only[K5];exact h4 hl⟩
theorem aF5 (H:List (Nat×q9)): ∀(ps:List PK) (ss:List qC),xA H ps ss none=none
  |[],[]=>rfl
  |[],_::_=>rfl
  |_::_,[]=>rfl
  |_::_,_::_=>rfl
theorem a8c {H H':List (Nat×q9)}: ∀{ps:List PK}{ss:List qC}{a b:t7},xA H ps ss (some a)=some b→(∀i,i∈sF a.ws→i∈sF b.ws)∧((∀i,i∈sF b.ws→qD H' i=qD H i)→xA H' ps ss (some a)=some b)
  |[],[],a,b,h=>by simp only[xA,aLO] at h;subst h;exact⟨fun _ h=>h,fun _=>rfl⟩
  |[],_::_,a,b,h=>by simp [xA] at h
  |_::_,[],a,b,h=>by simp [xA] at h
  | p::ps,s::ss,a,b,h=>by
    simp only[xA] at h|-;cases hm:xM H a p s with
    |none=>rw[hm,aF5] at h;cases h
    | some m=>
      rw[hm] at h;obtain⟨h1,h2⟩:=a79 (H':=H') hm;obtain⟨h3,h4⟩:=a8c (H':=H') h;exact⟨fun i hi=>h3 i (h1 i hi),fun hl=>by rw[h2 (fun i hi=>hl i (h3 i hi))];exact h4 hl⟩
theorem a8d {H H':List (Nat×q9)}{base:Nat}{args:List qC}{s:r6}{e:qH}(h:EV H base args (some s)=some e) (hl: ∀i∈e.rds,qD H' i=qD H i):EV H' base args (some s)=some e:=by
  simp only[EV] at h|-;cases hp0:xA H s.ps args (some ⟨[],[],[],0⟩) with
  |none=>rw[hp0,a8a] at h;cases h
  |some a0=>
   rw[hp0] at h;cases hp:AJ H s.gs (some a0) with
   |none=>rw[hp] at h;cases h
   |some a=>
    rw[hp] at h
    have hrd: ∀i,i∈sF (yQ a.ws [])→i∈e.rds:=by
      simp only[MT] at h;cases hcl:GD (yQ a.ws []) (yQ a.H []) with
      |none=>rw[hcl] at h;cases h
      |some L=>
      rw[hcl] at h;simp only[QO] at h;cases hc:s.C (yQ a.args []) L with
      |none=>rw[hc] at h;cases h
      | some r=>
        rw[hc] at h;simp only[QN] at h;unfold MR at h;split at h
        · simp only[aLO] at h
          rw[←h];exact fun i hi=>wN.2 (.inl hi)
        .cases h
    obtain⟨g1,g2⟩:=a8b (H':=H') hp;rw[(a8c (H':=H') hp0).2 (fun i hi=>hl i (hrd i (XO.2 (.inl (g1 i hi))))),g2 (fun i hi=>hl i (hrd i (XO.2 (.inl hi))))];exact h
theorem a8e {H H':List (Nat×q9)}{base:Nat}{args:List qC}{s:Option r6}{e:qH}(h:IA H base args s=some e) (hl: ∀i∈e.rds,qD H' i=qD H i):IA H' base args s=some e:=by
  cases s with
  |none=>cases h
  | some s=>
    simp only[IA] at h|-;cases hr:s.row with
    | some F=>
      rw[hr] at h;simp only[RE] at h|-;unfold QP at h|-;split at h
      · rename_i k n x
        cases hg:qD H k with
        |none=>rw[hg] at h;cases h
        | some b=>
          have hk:k∈e.rds:=by
            rw[hg] at h;cases b with
            | row e0 t l m=>
              simp only[V3] at h;unfold a50 at h;split at h
              .simp only[aLO] at h;rw[←h];simp
              .cases h
            |_=>cases h
          rw[hl k hk];exact h
      .cases h
    | none=>
      rw[hr] at h;simp only[RE] at h|-;cases hn:MU s.ps args with
      |none=>rw[hn] at h;exact a8d h hl
      | some k=>
        rw[hn] at h;simp only[a5Z] at h|-;cases hg:qD H k with
        |none=>rw[hg] at h;cases h
        | some b=>
          rw[hg] at h;cases b with
          | row e0 t l m=>
            simp only[MW] at h;cases hi:EV ((k,.dead)::H) base (MV k t l args) (some s) with
            |none=>rw[hi] at h;cases h
            | some e1=>
              rw[hi] at h
              have hk:k∈e.rds∧∀i∈e1.rds,i∈e.rds:=by
                unfold V2 at h;split at h
                · rename_i heq
                  simp only[aLO] at heq;subst heq;split at h
                  · simp only[aLO] at h
                    rw[←h];exact⟨by simp,fun i hi=>aL5 _ hi⟩
                  .cases h
                .cases h
              rw[hl k hk.1,hg];simp only[MW]
              rw[a8d hi (fun i hi'=>by
                simp only[qD];split
                .rfl
                .exact hl i (hk.2 i hi'))]
              exact h
          |_=>cases h
theorem aF6 {Γ:tX}{base:Nat}{args:List qC}{f:qC}{e:qH}(h:KB Γ H base args f=some e) (hl: ∀i∈e.rds,qD H' i=qD H i):KB Γ H' base args f=some e:=by
  unfold KB at h|-;split at h
  .exact a8e h hl
  .exact a8e h hl
  .cases h
theorem aF7 {T:sM}{Γ:tX}{ty:TypeId}{ρ:Operand→qC}{base:Nat}{op:Op}{e:qH}(h:uH T Γ ty ρ base H op=some e) (hl: ∀i∈e.rds,qD H' i=qD H i):uH T Γ ty ρ base H' op=some e:=by
  cases op
  case load t x=>
    simp only[uH] at h|-;unfold QY at h|-;split at h
    · rename_i ti k n c i o' _ e1 e2
      unfold N0 at h;split at h
      · rename_i e' t' l m hg
        split at h
        · rename_i hc
          have:e.rds=[k]:=by
            unfold a58 at h;split at h
            .simp only[aLO] at h;rw[←h]
            .cases h
          rw[hl k (by rw[this];simp),hg];simp only[N0];rw[aLQ hc];exact h
        .cases h
      .cases h
    .exact h
    · rename_i ti i off k e1 e2
      rcases a6T h with h1|⟨h0,h1⟩
      · have hi:i∈e.rds:=by
          rcases a6S h1 with h|h
          · unfold MZ at h
            split at h
            · unfold a57 at h;split at h
              .simp only[aLO] at h;rw[←h];simp
              .cases h
            .cases h
          · unfold QV at h
            split at h
            · unfold VE at h;split at h
              .simp only[aLO] at h;rw[←h];simp
              .cases h
            .cases h
        rw[hl i hi,h1];rfl
      · obtain⟨hi,h2⟩:=aFZ h1 hl
        rw[hl i hi,h0];rw[hl i hi] at h2;exact h2
    .cases h
  case store t x y=>
    simp only[uH] at h|-;unfold R4 at h|-;split at h
    · rename_i ti i off k kk n k' e1 e2 e3
      have hi:i∈e.rds:=by
        unfold VM at h;split at h
        · rcases a69 h with h|h
          · unfold QZ at h;split at h
            .simp only[aLO] at h;rw[←h];simp
            .cases h
          · unfold VL at h;split at h
            .simp only[aLO] at h;rw[←h];simp
            .cases h
        .cases h
      rw[hl i hi];exact h
    · rename_i ti k n c i o' _ t y k' e1 e2 e3
      split at h
      · rename_i ht
        rw[aLQ ht];unfold R3 at h;split at h
        · rename_i e' t' l m hg
          split at h
          · rename_i hc
            have:e.rds=[k]:=by
              unfold a6b at h;split at h
              .simp only[aLO] at h;rw[←h]
              .cases h
            rw[hl k (by rw[this];simp),hg];simp only[R3];rw[aLQ hc];exact h
          .cases h
        .cases h
      .cases h
    · rename_i ti i off k t y k' e1 e2 e3
      split at h
      · rename_i ht
        have hi:e.rds=[i]:=by
          unfold R2 at h;split at h
          · unfold R1 at h
            split at h
            · unfold a6a at h;split at h
              .simp only[aLO] at h;rw[←h]
              .cases h
            .cases h
          · unfold R0 at h
            split at h
            · unfold QZ at h;split at h
              .simp only[aLO] at h;rw[←h]
              .cases h
            .cases h
        rw[hl i (by rw[hi];simp)];simp only[aLQ ht];exact h
      .cases h
    .cases h
  case call c=>
    obtain⟨callee,args,tys⟩:=c;cases callee with
    | builtin b=>
      cases b
      case append=>
        simp only[uH,IC] at h|-;unfold RH at h|-;split at h
        · split at h
          · rename_i hu
            rw[aLQ hu];unfold RC at h|-;split at h
            · split at h
              · rename_i hbu
                rw[aLQ hbu];unfold RB at h;split at h
                · rename_i hg
                  split at h
                  · rename_i hbt
                    split at h
                    · rename_i hc
                      simp only[aLO] at h;subst h;rw[hl _ (aL7),hg];simp only[RB];rw[aNP hbt,aLQ hc]
                    .cases h
                  .cases h
                .cases h
              .cases h
            · split at h
              · rename_i hba
                rw[aNP hba];unfold RA at h;split at h
                · rename_i hg
                  split at h
                  · rename_i hc
                    simp only[aLO] at h;subst h;rw[hl _ (aL7),hg];simp only[RA];rw[aLQ hc]
                  .cases h
                .cases h
              .cases h
            .cases h
          · rename_i hu
            rw[aLU hu];unfold VV at h|-;split at h
            · unfold RG at h
              split at h
              · rename_i hg
                split at h
                · rename_i hc
                  simp only[aLO] at h;subst h;rw[hl _ (aL7),hg];simp only[RG];rw[aLQ hc]
                .cases h
              .cases h
            .cases h
        .cases h
      case len=>
        simp only[uH,IC] at h|-;unfold RF at h|-;split at h
        · unfold VT at h|-
          split at h
          · unfold R9 at h
            split at h
            · rename_i hg
              simp only[aLO] at h;subst h;rw[hl _ (aL7),hg];simp only[R9]
            .cases h
          all_goals exact h
        .cases h
      all_goals exact h
    | value f=>
      simp only[uH,IC] at h|-;cases hsl:IB args.toList tys.toList with
      |false=>rw[hsl] at h;cases h
      |true=>rw[hsl] at h;exact aF6 h hl
    |_=>exact h
  case makeFunc f first caps=>
    cases f with
    |func f=>exact h
    |_=>exact h
  case slice t x lo hi mx=>
    cases mx with
    |none=>exact h
    |some m=>exact h
  case next x b=>
    simp only[uH] at h|-;unfold RM at h|-;split at h
    · rename_i i k e1
      unfold W4 at h;split at h
      · rename_i hg
        have:e.rds=[i]:=by
          simp only[aLO] at h;rw[←h]
        rw[hl i (by rw[this];simp),hg];exact h
      .cases h
    .cases h
  case lookup xt x ix ok=>
    simp only[uH] at h|-;unfold RJ at h|-;split at h
    · rename_i el fl ar ls_ i kk e1 e2
      unfold VY at h|-;split at h
      · rename_i kt vt k a _
        split at h
        · rename_i hk
          rw[aLQ hk];unfold RI at h;split at h
          · rename_i hg
            split at h
            · rename_i hkv
              split at h
              · rename_i hkey
                have:e.rds=[i]:=by
                  cases ok<;>(simp only[aLO] at h;rw[←h])
                rw[hl i (by rw[this];simp),hg];simp only[RI];rw[aNP hkv,aLQ hkey];exact h
              .cases h
            .cases h
          .cases h
        .cases h
      .cases h
    .exact h
    .cases h
  case mapUpdate mt m x y=>
    simp only[uH] at h|-;unfold KD at h|-;split at h
    · rename_i el fl ar ls_ i kk e1 e2
      unfold RK at h|-;split at h
      · rename_i kt k a _ u b _
        split at h
        · rename_i hk
          rw[aLQ hk];unfold KC at h;split at h
          · rename_i hg
            split at h
            · rename_i hkv
              split at h
              · rename_i hkey
                have:e.rds=[i]:=by
                  simp only[aLO] at h;rw[←h]
                rw[hl i (by rw[this];simp),hg];simp only[KC];rw[aNP hkv,aLQ hkey];exact h
              .cases h
            .cases h
          .cases h
        .cases h
      .cases h
    .cases h
  case insert mt m x y=>
    simp only[uH] at h|-;unfold KD at h|-;split at h
    · rename_i el fl ar ls_ i kk e1 e2
      unfold RK at h|-;split at h
      · rename_i kt k a _ u b _
        split at h
        · rename_i hk
          rw[aLQ hk];unfold KC at h;split at h
          · rename_i hg
            split at h
            · rename_i hkv
              split at h
              · rename_i hkey
                have:e.rds=[i]:=by
                  simp only[aLO] at h;rw[←h]
                rw[hl i (by rw[this];simp),hg];simp only[KC];rw[aNP hkv,aLQ hkey];exact h
              .cases h
            .cases h
          .cases h
        .cases h
      .cases h
    .cases h
  all_goals exact h
end
theorem aF8 {T:sM}{Γ:tX}{ops:Array Oper}{o:Oper}{s s':St}{e:qH}(h:KH T Γ ops.toList o s=some e) (ht: ∀t∈o.looksAt ops,lk s'.env t=lk s.env t) (hH: ∀i∈e.rds,qD s'.H i=qD s.H i) (hn:s'.nb=s.nb):KH T Γ ops.toList o s'=some e:=by
 have hop: ∀x∈o.op.operands,u6 s'.env x=u6 s.env x:=fun x hx=>by
  cases x with
  |tmp t=>exact ht t (by simp only[Oper.looksAt,aML,List.mem_filterMap];exact .inl ⟨.tmp t,by simpa using hx,rfl⟩)
  |_=>rfl
 have hops:BI s'.env (sJ o.op)=BI s.env (sJ o.op):=by
  have hsub: ∀x∈sJ o.op,x∈o.op.operands:=by
   have hp: ∀(l:List (Nat×Operand)) x,x∈sJ.parts l->x∈l.map (·.2):=by
    intro l
    induction l with
    |nil=>intro x h;exact h
    |cons q l ih=>
     intro x h;obtain⟨i,y⟩:=q;simp only[sJ.parts,aL3] at h;rcases h with rfl|h
     .simp
     .simp only[aMQ,aL3];exact .inr (ih x h)
   have ho: ∀(y:Option Operand) x,x∈sJ.opt y->y=some x:=by
    intro y x h;cases y with
    |none=>cases h
    |some y=>simp only[sJ.opt,aL6] at h;rw[h]
   intro x hx;cases hop:o.op
   case call c=>
    rw[hop] at hx;obtain⟨callee,args,tys⟩:=c;cases callee<;>simp_all [sJ,Op.operands,Call.operands]
   case slice t y lo hi mx=>
    rw[hop] at hx;simp only[sJ,aL3,wN] at hx;simp only[Op.operands,Array.mem_append];rcases hx with rfl|hx|hx
    .simp
    .have:=ho _ _ hx;subst this;simp
    .have:=ho _ _ hx;subst this;simp
   case build t ps=>rw[hop] at hx;simp only[Op.operands,aNz];exact hp _ _ hx
   case buildSlice t n ps=>rw[hop] at hx;simp only[Op.operands,aNz];exact hp _ _ hx
   all_goals (rw[hop] at hx;simp_all [sJ,Op.operands])
  have: ∀(l:List Operand),(∀x∈l,x∈o.op.operands)->BI s'.env l=BI s.env l:=by
   intro l
   induction l with
   |nil=>intro _;rfl
   |cons x l ih=>intro h;simp only[BI,hop x (h x pI),ih (fun y hy=>h y (aL5 _ hy))]
  exact this _ hsub
 have hpl: ∀{e0:qH},uH T Γ o.type (fun x=>xC (u6 s.env x)) s.nb s.H o.op=some e0->e0.rds=e.rds->uH T Γ o.type (fun x=>xC (u6 s'.env x)) s'.nb s'.H o.op=some e0:=by
  intro e0 h1 h2;rw[aF0 (ρ:=fun x=>xC (u6 s.env x)) (ρ':=fun x=>xC (u6 s'.env x)) o.op (fun x hx=>by simp only[hop x hx]),hn];exact aF7 h1 (by rw[h2];exact hH)
 unfold KH at h|-;cases hg:o.guard with
 |none=>
  rw[hg] at h;simp only at h|-;by_cases hpk: ∃c x y,o.op= .pick c x y
  .obtain⟨c,x,y,hp⟩:=hpk;rw[hp] at h|-;simp only[KG] at h|-;rw[hop c (by rw[hp];simp [Op.operands]),hop x (by rw[hp];simp [Op.operands]),hop y (by rw[hp];simp [Op.operands])];exact h
  .have e1: ∀s,KG T Γ o s o.op=KE (yF true (BI s.env (sJ o.op))) (uH T Γ o.type (fun x=>xC (u6 s.env x)) s.nb s.H o.op):=by
    intro s;cases ho:o.op<;>first|rfl|(exact absurd ⟨_,_,_,ho⟩ hpk)
   rw[e1] at h|-;rw[hops];cases hp0:uH T Γ o.type (fun x=>xC (u6 s.env x)) s.nb s.H o.op with
   |none=>rw[hp0] at h;cases h
   |some e0=>
    rw[hp0] at h;simp only[KE,aLO] at h;rw[hpl hp0 (by rw[<-h])];simp only[KE,h]
 |some jb=>
  obtain⟨j,b⟩:=jb;rw[hg] at h;simp only at h|-;have hgu:EZ s'.env b (zF ops.toList j)=EZ s.env b (zF ops.toList j):=by
   rw[NT];cases hd:(ops.toList[j]?).bind (·.dst) with
   |none=>rfl
   |some t=>
    simp only[EZ];rw[ht t (by
     simp only[Oper.looksAt,hg,aML];right;have:(ops[j]?).bind (·.dst)=some t:=by simpa using hd
     rw[this];simp)]
  have hup:ID s'.env b (zF ops.toList j)=ID s.env b (zF ops.toList j):=by
   rw[NT];cases hd:(ops.toList[j]?).bind (·.dst) with
   |none=>rfl
   |some t=>
    simp only[ID];rw[ht t (by
     simp only[Oper.looksAt,hg,aML];right;have:(ops[j]?).bind (·.dst)=some t:=by simpa using hd
     rw[this];simp)]
  rw[hgu,hup];cases hsk:Γ (RN j b) with
  |some sg=>rw[hsk] at h;exact h
  |none=>
  rw[hsk] at h;simp only[N4] at h|-;cases hG:EZ s.env b (zF ops.toList j) with
  |none=>rw[hG] at h;cases h
  |some G=>
   rw[hG] at h;by_cases hpk: ∃c x y,o.op= .pick c x y
   .obtain⟨c,x,y,hp⟩:=hpk;rw[hp] at h|-;simp only[KF] at h|-;rw[hop c (by rw[hp];simp [Op.operands]),hop x (by rw[hp];simp [Op.operands]),hop y (by rw[hp];simp [Op.operands])];exact h
   have e1: ∀s,KF T Γ o s (some G) o.op=GH G (yF G (BI s.env (sJ o.op))) (uH T Γ o.type (fun x=>xC (u6 s.env x)) s.nb s.H o.op):=by
    intro s;cases ho:o.op<;>first|rfl|(exact absurd ⟨_,_,_,ho⟩ hpk)
   rw[e1] at h|-;rw[hops];cases hp0:uH T Γ o.type (fun x=>xC (u6 s.env x)) s.nb s.H o.op with
   |none=>rw[hp0] at h;cases h
   |some e0=>
    rw[hp0] at h;have hrd:e0.rds=e.rds:=by
     unfold GH at h;split at h
     .rename_i heq;simp only[aLO] at h heq;subst heq;rw[<-h]
     .rename_i heq;simp only[aLO] at h heq;subst heq;rw[<-h]
     .cases h
    rw[hpl hp0 hrd];exact h
theorem XP {T:sM}{Γ:tX}{ops:Array Oper}{o:Oper}{s s':St}{e:qH}(h:y3 T Γ ops.toList o s=some e) (ht: ∀t∈o.looksAt ops,lk s'.env t=lk s.env t) (hH: ∀i∈e.rds,qD s'.H i=qD s.H i) (hn:s'.nb=s.nb) (hp:s'.np=s.np):y3 T Γ ops.toList o s'=some e:=by
 obtain⟨h1,h2⟩:=NV h;unfold y3 at h|-;rw[h1] at h;rw[aF8 h1 ht hH hn,hp];exact h
def uM {α:Type}(p:Nat->Bool) (wr:Nat->Option α) (b:α):Nat->α
 |0=>b
 |k+1=>if p k=true then(wr k).getD (uM p wr b k) else uM p wr b k
theorem IP {α:Type}{p q:Nat->Bool}{wr:Nat->Option α}{b:α}: ∀{n:Nat},(∀j,j<n->wr j≠none->p j=q j)->uM p wr b n=uM q wr b n
 |0,_=>rfl
 |n+1,h=>by
  simp only[uM];have ih:=IP (p:=p) (q:=q) (wr:=wr) (b:=b) (n:=n) (fun j hj=>h j pG);cases hw:wr n with
  |none=>simp [ih]
  |some v=>rw[h n pG (by rw[hw];simp),ih]
theorem XQ {α:Type}{wr:Nat->Option α}{b:α}{i:Nat}: ∀{n:Nat},i<=n->uM (fun j=>decide (j<i)) wr b n=uM (fun _=>true) wr b i
 |0,h=>by
  have:i=0:=by omega
  subst this;rfl
 |n+1,h=>by
  by_cases hi:i=n+1
  .subst hi;exact IP (fun j hj _=>by simp [hj])
  .have: ¬n<i:=by omega
   simp only[uM];rw[aLU (by simp [this])];exact XQ pG
theorem SQ {α:Type}{p q:Nat->Bool}{wr:Nat->Option α}{b:α}{i:Nat}(hi:p i=false) (hq: ∀j,q j=if j=i then true else p j): ∀{n:Nat},i<n->(∀j,i<j->j<n->p j=true->wr j=none\/wr i=none)->uM q wr b n=(wr i).getD (uM p wr b n)
 |0,h,_=>by omega
 |n+1,h,hd=>by
  simp only[uM];by_cases hn:n=i
  .subst hn;rw[aLQ (by rw[hq];simp),aLU (by simp [hi])];rw[IP (p:=q) (q:=p) (fun j hj _=>by rw[hq,aLU pG])]
  .have ih:=SQ (b:=b) hi hq (n:=n) pG (fun j h1 h2=>hd j h1 pG);rw[hq,aLU hn,ih];by_cases hp:p n=true
   .rw[aLQ hp,aLQ hp];rcases hd n pG pG hp with h1|h1
    .rw[h1];rfl
    .rw[h1];rfl
   .rw[aLU hp,aLU hp]
theorem XR {α:Type}{p:Nat->Bool}{wr:Nat->Option α}{b:α}: ∀(k:Nat),uM p wr b (k+1)=uM (fun j=>p (j+1)) (fun j=>wr (j+1)) (if p 0=true then(wr 0).getD b else b) k
 |0=>rfl
 |k+1=>by
  rw[uM,XR k];rfl
theorem XS {rds:pQ}{i:Nat}: ∀{u:List (Nat×q9)},i∈qG (GL rds u)↔i∈qG u/\BJ i rds=false
 |[]=>by simp [GL,qG]
 |(j,b)::u=>by
  simp only[GL];cases h:BJ j rds with
  |true=>
   rw[aLQ rfl,XS (u:=u)];simp only[qG,aL3];constructor
   .rintro⟨h1,h2⟩;exact⟨.inr h1,h2⟩
   .rintro⟨rfl|h1,h2⟩
    .rw[h] at h2;cases h2
    .exact⟨h1,h2⟩
  |false=>
   rw[aLU pI];simp only[qG,aL3,XS (u:=u)];constructor
   .rintro(rfl|⟨h1,h2⟩)
    .exact⟨.inl rfl,h⟩
    .exact⟨.inr h1,h2⟩
   .rintro⟨rfl|h1,h2⟩
    .exact .inl rfl
    .exact .inr ⟨h1,h2⟩
theorem KY {e:qH}{i:Nat}:i∈qG (wK e)↔i∈qG e.upd/\BJ i e.rds=false:=XS
theorem a8f {i:Nat}: ∀{l:pQ},BJ i l=true->i∈l
 |[],h=>by cases h
 |j::l,h=>by
  simp only[BJ] at h;split at h
  .rename_i e;subst e;exact aL7
  .exact aL5 _ (a8f h)
theorem a8g {H U:List (Nat×q9)}{rds:pQ}{i:Nat}(h:BJ i rds=true): ∀{u:List (Nat×q9)},i∈qG u->(qD U i=qD H i)∈IE H U rds u
 |[],hi=>by cases hi
 |(j,b)::u,hi=>by
  simp only[IE];simp only[qG,aL3] at hi;rcases hi with rfl|hi
  .rw[aLQ h];exact aL7
  .have:=a8g (H:=H) (U:=U) h hi;split
   .exact aL5 _ this
   .exact this
theorem aF9 {H:List (Nat×q9)}{e:qH}(hs: ∀p∈IE H e.upd e.rds e.upd,p) {i:Nat}(h1:i∈qG e.upd) (h2:i∉qG (wK e)):qD e.upd i=qD H i/\i∈e.rds:=by
 have h:BJ i e.rds=true:=by
  cases h3:BJ i e.rds with
  |true=>rfl
  |false=>exact absurd (KY.2 ⟨h1,h3⟩) h2
 exact⟨hs _ (a8g h h1),a8f h⟩
def A7 (os:List Oper) (es:List qH) (t j:Nat):Option qC:=
 match os[j]?,es[j]? with
 |some o,some e=>if o.dst=some t then some e.slot else none
 |_,_=>none
def xE (es:List qH) (id j:Nat):Option (Option q9):=
 match es[j]? with
 |some e=>if id∈qG (wK e) then some (qD e.upd id) else none
 |none=>none
theorem KZ {id:Nat}{H:s0}: ∀{u:List (Nat×q9)},qD (qP u H) id=if id∈qG u then qD u id else qD H id
 |[]=>by simp [qP,qG]
 |(k,b)::u=>by
  simp only[qP,qD,qG,aL3];by_cases h:k=id
  .subst h;simp
  .rw[aLU h,aLU h,KZ (u:=u)];have:(id=k\/id∈qG u)↔id∈qG u:=⟨fun h'=>h'.resolve_left (Ne.symm h),.inr⟩;simp only[this]
theorem a8h {d:Option Tmp}{s:qC}{env:List (Nat×qC)}{t:Nat}:lk (u7 d s env) t=if d=some t then s else lk env t:=by
 cases d with
 |none=>simp [u7]
 |some d=>simp only[u7,lk,aLO]
structure XT (T:sM) (Γ:tX) (ops:List Oper) (os:List Oper) (es:List qH) (s:St) (y:vG) (k:Nat) (o:Oper) (e:qH) (sk:St):Prop where
 ev:y3 T Γ ops o sk=some e
 nb:sk.nb=s.nb+32*k
 dst:GJ s.N o.dst=true
 ids:GK (s.nb+32*k+32) e.upd=true
 np:sk.np=s.np
 side: ∀p∈e.side,p∈y.side
 env: ∀t,lk sk.env t=uM (fun _=>true) (A7 os es t) (lk s.env t) k
 heap: ∀id,qD sk.H id=uM (fun _=>true) (xE es id) (qD s.H id) k
 same: ∀id,id∈qG e.upd->id∉qG (wK e)->qD e.upd id=qD sk.H id/\id∈e.rds
structure XU (T:sM) (Γ:tX) (ops:List Oper) (os:List Oper) (es:List qH) (s:St) (y:vG):Prop where
 len:es.length=os.length
 nb:y.s.nb=s.nb+32*os.length
 step: ∀k o e,os[k]? =some o->es[k]? =some e->∃sk,XT T Γ ops os es s y k o e sk
 env: ∀t,lk y.s.env t=uM (fun _=>true) (A7 os es t) (lk s.env t) os.length
 heap: ∀id,qD y.s.H id=uM (fun _=>true) (xE es id) (qD s.H id) os.length
theorem SR {T:sM}{Γ:tX}{ops:List Oper}: ∀{l:List Oper}{x y:vG},uI T Γ ops l (some x)=some y->(∀p∈y.side,p)->∃es:List qH,y.es=es.reverse++x.es/\XU T Γ ops l es x.s y
 |[],x,y,h,_=>by
  simp only[uI,aLO] at h;subst h;exact⟨[],rfl,rfl,rfl,fun k o e h=>by simp at h,fun _=>rfl,fun _=>rfl⟩
 |o::l,x,y,h,hsy=>by
  obtain⟨e,h1,h2,h3,h4⟩:=XL h;obtain⟨es,h5,h6⟩:=SR h4 hsy;have hsame: ∀{i:Nat},i∈qG e.upd->i∉qG (wK e)->qD e.upd i=qD x.s.H i/\i∈e.rds:=fun h1 h2=>aF9 (fun p hp=>hsy p ((E2 h4).1 p (wN.2 (.inr (wN.2 (.inl hp)))))) h1 h2;have envs: ∀t k,uM (fun _=>true) (A7 (o::l) (e::es) t) (lk x.s.env t) (k+1)=uM (fun _=>true) (A7 l es t) (lk (u7 o.dst e.slot x.s.env) t) k:=fun t k=>by
   rw[XR,aLQ rfl,a8h];have:(A7 (o::l) (e::es) t 0).getD (lk x.s.env t)=if o.dst=some t then e.slot else lk x.s.env t:=by
    simp only[A7,aMm];split<;>rfl
   rw[this];rfl
  have heaps: ∀id k,uM (fun _=>true) (xE (e::es) id) (qD x.s.H id) (k+1)=uM (fun _=>true) (xE es id) (qD (qP e.upd x.s.H) id) k:=fun id k=>by
   rw[XR,aLQ rfl,KZ];have:(xE (e::es) id 0).getD (qD x.s.H id)=if id∈qG e.upd then qD e.upd id else qD x.s.H id:=by
    simp only[xE,aMm];by_cases h7:id∈qG (wK e)
    .rw[aLQ h7,aLQ (KY.1 h7).1];rfl
    .rw[aLU h7];by_cases h8:id∈qG e.upd
     .rw[aLQ h8,(hsame h8 h7).1];rfl
     .rw[aLU h8];rfl
   rw[this];rfl
  refine⟨e::es,by rw[h5];simp,by simp [h6.len],?_,?_,fun t=> ?_,fun id=> ?_⟩
  .have:=h6.nb;simp only at this;rw[this];simp only[aLY];omega
  .intro k o' e' ho he;cases k with
   |zero=>
    simp only[aMm,aLO] at ho he;subst ho;subst he;exact⟨x.s,h1,rfl,h2,h3,rfl,fun p hp=>(E2 h4).1 p (wN.2 (.inr (wN.2 (.inr hp)))),fun _=>rfl,fun _=>rfl,fun id=>hsame⟩
   |succ k=>
    simp only[aMx] at ho he;obtain⟨sk,q⟩:=h6.step k o' e' ho he;refine⟨sk,q.ev,by rw[q.nb];simp only;omega,q.dst,?_,q.np,q.side,fun t=>by rw[q.env t,envs],fun id=>by rw[q.heap id,heaps],q.same⟩;have:=q.ids;simp only at this;rw[show x.s.nb+32*(k+1)+32=x.s.nb+32+32*k+32 by omega];exact this
  .rw[aLY,envs];exact h6.env t
  .rw[aLY,heaps];exact h6.heap id
theorem a8i {i0 j0:Nat}{ops:Array Oper}{bs:pQ}{nb i:Nat}{o:Oper}{e:qH}: ∀{ps:List Oper}{fs:List qH}{j:Nat},RP i0 j0 ops bs nb i o e ps fs j=true->∀k p f,ps[k]? =some p->fs[k]? =some f->
  (bs.getD (j+k) 0).testBit i=true\/(o.apart ops p=true/\(F0 e f=true\/(i=i0/\j+k=j0))/\IF (nb+32*i) f.upd=true)
 |p::ps,f::fs,j,h,k,p',f',hp,hf=>by
  simp only[RP,aMb,aMZ,aMj] at h;cases k with
  |zero=>
   simp only[aMm,aLO] at hp hf;subst hp;subst hf;exact h.1.imp id (fun h=>⟨h.1.1,h.1.2,h.2⟩)
  |succ k=>
   simp only[aMx] at hp hf;have:=a8i h.2 k p' f' hp hf;rw[show j+(k+1)=j+1+k by omega];exact this
 |[],_,_,_,_,_,_,hp,_=>by simp at hp
 |_::_,[],_,_,_,_,_,_,hf=>by simp at hf
theorem XV {i0 j0:Nat}{ops:Array Oper}{bs:pQ}{nb:Nat}: ∀{os:List Oper}{es:List qH}{m:Nat},RQ i0 j0 ops bs nb os es m=true->∀i j o e p f,i<j->os[i]? =some o->es[i]? =some e->os[j]? =some p->es[j]? =some f->
  (bs.getD (m+j) 0).testBit (m+i)=true\/(o.apart ops p=true/\(F0 e f=true\/(m+i=i0/\m+j=j0))/\IF (nb+32*(m+i)) f.upd=true)
 |o'::os,e'::es,m,h,i,j,o,e,p,f,hij,ho,he,hp,hf=>by
  simp only[RQ,aMb] at h;obtain⟨j,rfl⟩: ∃k,j=k+1:=⟨j-1,pG⟩;simp only[aMx] at hp hf;cases i with
  |zero=>
   simp only[aMm,aLO] at ho he;subst ho;subst he;have:=a8i h.1 j p f hp hf;rw[show m+(j+1)=m+1+j by omega];exact this
  |succ i=>
   simp only[aMx] at ho he;have:=XV h.2 i j o e p f pG ho he hp hf;rw[show m+(j+1)=m+1+j by omega,show m+(i+1)=m+1+i by omega];exact this
 |[],_,_,_,_,_,_,_,_,_,_,ho,_,_,_=>by simp at ho
 |_::_,[],_,_,_,_,_,_,_,_,_,_,he,_,_=>by simp at he
theorem a8j: ∀{os:List Oper}{m:Nat},RR os m=true->∀i o,os[i]? =some o->∀e∈o.after,Region.binds .any e=true->e.on<m+i
 |o'::os,m,h,i,o,ho,e,he,hb=>by
  simp only[RR,aMb] at h;cases i with
  |zero=>
   simp only[aMm,aLO] at ho;subst ho;have:=aMB.1 h.1 e (by simpa using he);simpa[hb] using this
  |succ i=>
   simp only[aMx] at ho;have:=a8j h.2 i o ho e he hb;omega
 |[],_,_,_,_,ho,_,_,_=>by simp at ho
theorem SS {l:pQ}: ∀{u:List (Nat×q9)},N5 u l=false->∀i,i∈qG u->i∉l
 |(k,b)::u,h,i,hi=>by
  simp only[N5,aMz] at h;simp only[qG,aL3] at hi;rcases hi with rfl|hi
  .simpa using h.1
  .exact SS h.2 i hi
theorem L1 {a b:qH}(h:F0 a b=true):(∀i∈qG (wK a),i∉b.rds/\i∉qG b.upd)/\(∀i∈qG (wK b),i∉a.rds):=by
 simp only[F0,aMb,aMq] at h;exact⟨fun i hi=>⟨fun h1=>SS h.1 i hi (wN.2 (.inl h1)),fun h1=>SS h.1 i hi (wN.2 (.inr h1))⟩,fun i hi=>SS h.2 i hi⟩
theorem a8k {lo:Nat}: ∀{u:List (Nat×q9)},IF lo u=true->∀i∈qG u,i<lo\/lo+32<=i
 |(k,b)::u,h,i,hi=>by
  simp only[IF,aMb,aMZ,aMj] at h;simp only[qG,aL3] at hi;rcases hi with rfl|hi
  .exact h.1
  .exact a8k h.2 i hi
def XW (os:List Oper) (p:Nat->Bool):Prop:= ∀j o,os[j]? =some o->p j=true->∀e∈o.after,Region.binds .any e=true->p e.on=true
theorem a8l {p:Nat->Bool}{acc:Array Nat}(hacc: ∀i j,(acc.getD i 0).testBit j=true->p i=true->p j=true) {i:Nat}: ∀{es:List Edge}{s:Nat},(s.testBit i=true->p i=true)->(∀e∈es,Region.binds .any e=true->p e.on=true)->
  (es.foldl (fun s e=>if Region.binds .any e then s|||2^e.on|||acc.getD e.on 0 else s) s).testBit i=true->p i=true
 |[],s,hs,_,h=>hs h
 |e::es,s,hs,he,h=>by
  simp only[List.foldl_cons] at h;refine a8l hacc (es:=es) (fun h1=> ?_) (fun e' h'=>he e' (aL5 _ h')) h;split at h1
  .rename_i hb;simp only[Nat.testBit_or,aMZ,Nat.testBit_two_pow,aMj] at h1;rcases h1 with(h1|h1) |h1
   .exact hs h1
   .rw[<-h1];exact he e pI hb
   .exact hacc _ _ h1 (he e pI hb)
  .exact hs h1
theorem a8m {p:Nat->Bool}: ∀{os:List Oper}{acc:Array Nat},(∀i j,(acc.getD i 0).testBit j=true->p i=true->p j=true)->(∀j o,os[j]? =some o->p (acc.size+j)=true->∀e∈o.after,Region.binds .any e=true->p e.on=true)->
  ∀i j,((os.foldl (fun acc o=>acc.push (o.after.foldl (fun s e=>if Region.binds .any e then s|||2^e.on|||acc.getD e.on 0 else s) 0)) acc).getD i 0).testBit j=true->p i=true->p j=true
 |[],acc,hacc,_,i,j,h,hp=>hacc i j h hp
 |o::os,acc,hacc,hos,i,j,h,hp=>by
  simp only[List.foldl_cons] at h;refine a8m (os:=os) (fun i j h hp=> ?_) (fun k o' ho hk=> ?_) i j h hp
  .rw[aMk,Array.getElem?_push] at h;split at h
   .rename_i hi;simp only[aNR] at h;rw[<-aNJ] at h;refine a8l hacc (es:=o.after.toList) (s:=0) (fun h=>by simp at h) (fun e he hb=>hos 0 o rfl (by rw[hi] at hp;exact hp) e (by simpa using he) hb) h
   .rw[<-aMk] at h;exact hacc i j h hp
  .refine hos (k+1) o' ho ?_;rw[Array.size_push] at hk;rw[show acc.size+(k+1)=acc.size+1+k by omega];exact hk
theorem a8n {ops:Array Oper}{p:Nat->Bool}(hp:XW ops.toList p) {i j:Nat}(h:((Region.before ops).toList.getD i 0).testBit j=true) (hi:p i=true):p j=true:=by
 refine a8m (os:=ops.toList) (acc:= #[]) (p:=p) (fun i j h=>by simp at h) (fun j o ho hj=>hp j o ho (by simpa using hj)) i j ?_ hi;unfold Region.before at h;rw[<-aNJ] at h;rw[aMk,<-aMT,<-aMr];exact h
def C9 (l:Array Bool):Nat->Nat
 |0=>0
 |k+1=>C9 l k+if l.getD k false=true then 0 else 1
theorem a8o {l l':Array Bool}: ∀{n:Nat},(∀j,j<n->l'.getD j false=l.getD j false)->C9 l' n=C9 l n
 |0,_=>rfl
 |n+1,h=>by simp only[C9];rw[a8o (fun j hj=>h j pG),h n pG]
theorem a8p {l:Array Bool}: ∀{n:Nat},C9 l n=0->∀j,j<n->l.getD j false=true
 |n+1,h,j,hj=>by
  simp only[C9] at h;by_cases hn:l.getD n false=true
  .by_cases hjn:j=n
   .subst hjn;exact hn
   .exact a8p (n:=n) pG j pG
  .rw[aLU hn] at h;omega
theorem F7 {l:Array Bool}{i j:Nat}(hi:i<l.size):(l.setIfInBounds i true).getD j false=if j=i then true else l.getD j false:=by
 by_cases h:j=i
 .subst h;rw[aLQ rfl,aMk,Array.getElem?_setIfInBounds_self_of_lt hi];rfl
 .rw[aLU h,aMk,aNa (Ne.symm h),<-aMk]
theorem a8q {l:Array Bool}{i:Nat}(hi:i<l.size) (hf:l.getD i false=false): ∀{n:Nat},i<n->C9 (l.setIfInBounds i true) n+1=C9 l n
 |n+1,h=>by
  simp only[C9];by_cases hn:n=i
  .subst hn;rw[F7 hi,aLQ rfl,aLQ rfl,hf,a8o (l:=l) (fun j hj=>by rw[F7 hi,aLU pG])];simp
  .rw[F7 hi,aLU hn];have:=a8q hi hf (n:=n) pG;omega
theorem a8r {p:Nat->Bool}: ∀{n:Nat},(∃j,j<n/\p j=false)->∃j,j<n/\p j=false/\∀k,k<j->p k=true
 |0,⟨j,h,_⟩=>by omega
 |n+1,⟨j,h,hj⟩=>by
  by_cases hs: ∃j,j<n/\p j=false
  .obtain⟨k,h1,h2,h3⟩:=a8r hs;exact⟨k,pG,h2,h3⟩
  .refine⟨j,h,hj,fun k hk=> ?_⟩;cases hp:p k with
   |true=>rfl
   |false=>exact absurd ⟨k,pG,hp⟩ hs
theorem sG.ext {g:Gh}{w:pR}{H H':s0}(h:sG g w H) (e: ∀i,qD H' i=qD H i):sG g w H':=
 ⟨fun i b hb=>h.blk i b (by rw[<-e];exact hb),fun i j bi bj b o hij h1 h2=>h.dis i j bi bj b o hij (by rw[<-e];exact h1) (by rw[<-e];exact h2),h.sl,h.tab.1,fun i b bb oo hb ho=>h.tab.2 i b bb oo (by rw[<-e];exact hb) ho⟩
theorem tP.ext {A:Nat->Nat->Prop}{L:List q9}{g0 g:Gh}{w0 w:pR}{H H':s0}(h:tP A L g0 w0 g w H) (e: ∀i,qD H' i=qD H i):tP A L g0 w0 g w H':=
 ⟨h.shut,h.fr,fun i blk b o hb=>h.perm i blk b o (by rw[<-e];exact hb),h.J,h.live,fun i u y us hi hb=>h.ty i u y us hi (by rw[<-e];exact hb),h.cur⟩
theorem a8s (g:Gh) (w:pR) (d:Nat):Le g w g {w with drawn:=d}:=⟨fun _ _ h=>h,fun _ _ _=>rfl,fun _ _ h=>h,fun _ _ _ h=>h⟩
theorem sG.drawn {g:Gh}{w:pR}{H:s0}(h:sG g w H) (d:Nat):sG g {w with drawn:=d} H:=
 ⟨fun i b hb=>KM (h.blk i b hb) (a8s g w d) rfl rfl (fun _ _ _=>⟨rfl,rfl⟩) (fun _ _=>rfl) (fun _ _ _ h=>h) (fun _ _ _ _ h=>h),h.dis,h.sl,HW h.tab.1 (aMc _) (fun _ _=>rfl),h.tab.2⟩
theorem tP.drawn {A:Nat->Nat->Prop}{L:List q9}{g0 g:Gh}{w0 w:pR}{H:s0}(h:tP A L g0 w0 g w H) (d:Nat):tP A L g0 w0 g {w with drawn:=d} H:=
 ⟨h.shut,⟨h.fr.os,h.fr.tape,h.fr.output,h.fr.size,h.fr.blk,h.fr.cell,h.fr.new,h.fr.shape⟩,h.perm,h.J,h.live,h.ty,h.cur⟩
theorem XX {rds:pQ}{id:Nat}(h:BJ id rds=false): ∀{u:List (Nat×q9)},qD (GL rds u) id=qD u id
 |[]=>rfl
 |(k,b)::u=>by
  simp only[GL,qD];by_cases hk:k=id
  .subst hk;rw[aLU (by rw[h];simp)];simp [qD]
  .split
   .exact XX h
   .simp only[qD,aLU hk];exact XX h
theorem aGa {e:qH}{id:Nat}(h:BJ id e.rds=false):qD (wK e) id=qD e.upd id:=XX h
theorem a8t {T:sM}{Γ:tX}{ops:List Oper}: ∀{k:Nat}{l:List Oper}{x y:vG},uI T Γ ops l (some x)=some y->∃a,uI T Γ ops (l.take k) (some x)=some a/\uI T Γ ops (l.drop k) (some a)=some y
 |0,l,x,y,h=>⟨x,rfl,h⟩
 |k+1,[],x,y,h=>⟨x,rfl,h⟩
 |k+1,o::l,x,y,h=>by
  simp only[List.take_succ_cons,aNS,uI] at h|-;cases hz:RO o x (y3 T Γ ops o x.s) with
  |none=>
   rw[hz] at h;cases l with
   |nil=>cases h
   |cons p l=>cases h
  |some z=>rw[hz] at h;exact a8t h
theorem XY {α:Type}{p:Nat->Bool}{wr wr':Nat->Option α}{b:α}: ∀{n:Nat},(∀j,j<n->wr j=wr' j)->uM p wr b n=uM p wr' b n
 |0,_=>rfl
 |n+1,h=>by
  simp only[uM];rw[h n pG,XY (wr:=wr) (wr':=wr') (fun j hj=>h j pG)]
theorem aGb {T:sM}{Γ:tX}{ops:Array Oper}{es:List qH}{s:St}{y a1:vG}{i0:Nat}{o1:Oper}{ex fx:qH}(run:XU T Γ ops.toList ops.toList es s y) (hs: ∀p∈y.side,p) (ho1:ops.toList[i0]? =some o1) (ha1:uI T Γ ops.toList (ops.toList.take i0) (some ⟨s,[],[]⟩)=some a1)
  (hes:y.es.reverse=es) (h:uI T Γ ops.toList ops.toList (some ⟨s,[],[]⟩)=some y) (hx1:y3 T Γ ops.toList o1 ⟨a1.s.env,qP (wK fx) a1.s.H,a1.s.nb,a1.s.N,a1.s.np⟩=some ex):
  ∀sk oi,ops.toList[i0]? =some oi->XT T Γ ops.toList ops.toList es s y i0 oi ex sk->y3 T Γ ops.toList oi ⟨sk.env,qP (wK fx) sk.H,sk.nb,sk.N,sk.np⟩=some ex:=by
 intro sk oi hoi st;rw[ho1] at hoi;cases hoi;obtain⟨a2,h1,h2⟩:=a8t (k:=i0) h;rw[ha1] at h1;cases h1;have hi0:i0<ops.toList.length:=(aL1.1 ho1).1;have hlt:(ops.toList.take i0).length=i0:=by rw[aMd];omega
 obtain⟨es2,e2,r2⟩:=SR h2 hs;obtain⟨es1,e1,r1⟩:=SR ha1 (fun p hp=>hs p ((E2 h2).1 p hp));have he:es=es1++es2:=by rw[<-hes,e2,e1];simp
 have hl1:es1.length=i0:=by rw[r1.len,hlt]
 have hsd:=E2 ha1;refine XP hx1 (fun t _=> ?_) (fun id _=> ?_) ?_ ?_
 .show lk sk.env t=lk a1.s.env t;rw[st.env t,r1.env t,hlt];refine XY (fun j hj=> ?_);unfold A7;rw[he,aL4 pG,aMW hj]
 .show qD (qP (wK fx) sk.H) id=qD (qP (wK fx) a1.s.H) id;rw[KZ,KZ,st.heap id,r1.heap id,hlt];have:uM (fun _=>true) (xE es id) (qD s.H id) i0=uM (fun _=>true) (xE es1 id) (qD s.H id) i0:=XY (fun j hj=>by
   unfold xE;rw[he,aL4 pG])
  rw[this]
 .show sk.nb=a1.s.nb;rw[st.nb,r1.nb,hlt]
 .show sk.np=a1.s.np;rw[st.np,hsd.2.2]
section
variable {B:Nat}{P:Program}{T:sM}{Γ:tX}(hT:wV P T) (hΓ:D2 P Γ) {A:Nat->Nat->Prop}{L:List q9}{g0:Gh}{w0:pR}{Q:Exit->Act->pR->Prop}
structure Mid (B:Nat) (A:Nat->Nat->Prop) (L:List q9) (g0:Gh) (w0:pR) (ops:Array Oper) (es:List qH) (s:St) (listed:Array Bool) (g:Gh) (w:pR) (a:Act) (env:List (Nat×qC)) (H:s0):Prop where
 size:listed.size=ops.size
 closed:XW ops.toList (fun j=>listed.getD j false)
 eok:A5 g w env a.tmps
 look: ∀t,lk env t=uM (fun j=>listed.getD j false) (A7 ops.toList es t) (lk s.env t) ops.size
 heap:sG g w H
 get: ∀id,qD H id=uM (fun j=>listed.getD j false) (xE es id) (qD s.H id) ops.size
 tmps:a.tmps.size=s.N
 def_:yY B w a.defers
 good:tP A L g0 w0 g w H
 len:L.length=s.np
 free: ∀j,j<ops.size->listed.getD j false=false->∀id,s.nb+32*j<=id->id<s.nb+32*j+32->g.J id=none/\∀n,g.cur id n=none
 top: ∀id,s.nb+32*ops.size<=id->g.J id=none/\∀n,g.cur id n=none
include hT hΓ
theorem aGc {i0 j0:Nat}{ro:pP}{ops:Array Oper}{es:List qH}{s:St}{y:vG}(run:XU T Γ ops.toList ops.toList es s y) (hs: ∀p∈y.side,p) (hchk:KI i0 j0 ops s.nb es=true) (hE:i0<ops.size->i0<j0/\∃ex fx,es[i0]? =some ex/\ex.upd=[]/\es[j0]? =some fx/\∀sk oi,ops.toList[i0]? =some oi->XT T Γ ops.toList ops.toList es s y i0 oi ex sk->y3 T Γ ops.toList oi ⟨sk.env,qP (wK fx) sk.H,sk.nb,sk.N,sk.np⟩=some ex)
  (hQ: ∀g a w env H,A5 g w env a.tmps->(∀t,lk env t=lk y.s.env t)->sG g w H->(∀id,qD H id=qD y.s.H id)->a.tmps.size=s.N->yY B w a.defers->tP A L g0 w0 g w H->(∀id,s.nb+32*ops.size<=id->g.J id=none/\∀n,g.cur id n=none)->Q .normal a w):
  ∀(fuel:Nat) (listed:Array Bool) (g:Gh) (w:pR) (a:Act) (env:List (Nat×qC)) (H:s0),C9 listed ops.size<=fuel->Mid B A L g0 w0 ops es s listed g w a env H->wpAnyIn (E3 ro) 0 P .any ops Q fuel listed a w:=by
 simp only[KI,aMb] at hchk;obtain⟨haf,hfr⟩:=hchk;have hsz:ops.toList.length=ops.size:=aMt;have done: ∀(listed:Array Bool) (g:Gh) (w:pR) (a:Act) (env:List (Nat×qC)) (H:s0),Mid B A L g0 w0 ops es s listed g w a env H->(∀j,j<ops.size->listed.getD j false=true)->Q .normal a w:=by
  intro listed g w a env H m hall;refine hQ g a w env H m.eok (fun t=> ?_) m.heap (fun id=> ?_) m.tmps m.def_ m.good m.top
  .rw[m.look t,run.env t,hsz];exact IP (fun j hj _=>hall j hj)
  .rw[m.get id,run.heap id,hsz];exact IP (fun j hj _=>hall j hj)
 have stuck: ∀(listed:Array Bool),listed.size=ops.size->Region.ready .any ops listed=[]->∀j,j<ops.size->listed.getD j false=true:=by
  intro listed hls hr j hj;cases hp:listed.getD j false with
  |true=>rfl
  |false=>
   obtain⟨k,h1,h2,h3⟩:=a8r (p:=fun j=>listed.getD j false) ⟨j,hj,hp⟩;have:k∈Region.ready .any ops listed:=by
    rw[mem_ready];refine⟨?_,ops[k],by simp [h1],fun e he hb=> ?_⟩
    .have h2:listed.getD k false=false:=h2;rw[aMk] at h2|-;rw[aNy pG] at h2|-;exact h2
    .have:=a8j haf k ops[k] (by simp [h1]) e he hb;exact h3 e.on pG
   rw[hr] at this;cases this
 intro fuel
 induction fuel with
 |zero=>
  intro listed g w a env H hu m;have hall:=a8p (l:=listed) (n:=ops.size) pG;refine⟨?_,done listed g w a env H m hall⟩;cases hr:Region.ready .any ops listed with
  |nil=>rfl
  |cons i r=>
   have:i∈Region.ready .any ops listed:=by rw[hr];simp
   obtain⟨h0,o,ho,_⟩:=mem_ready.1 this;have hi:i<ops.size:=(aMi.1 ho).1;have:=hall i hi;rw[aMk] at this h0;rw[aNy (by rw[m.size];exact hi)] at this h0;simp at this h0;rw[this] at h0;cases h0
 |succ fuel ih=>
  intro listed g w a env H hu m;refine⟨fun hr=>done listed g w a env H m (stuck listed m.size hr),fun i hi=> ?_⟩;obtain⟨h0,o,ho,hall⟩:=mem_ready.1 hi;have hin:i<ops.size:=(aMi.1 ho).1;have hil:i<listed.size:=by rw[m.size];exact hin
  have hpi:listed.getD i false=false:=by
   rw[aMk] at h0|-;rw[aNy hil] at h0|-;exact h0
  have hoL:ops.toList[i]? =some o:=by simpa using ho
  obtain⟨e,he⟩: ∃e,es[i]? =some e:=⟨es[i]'(by rw[run.len,hsz];exact hin),by simp⟩;obtain⟨sk,st⟩:=run.step i o e hoL he;have hcl':XW ops.toList (fun j=>(listed.setIfInBounds i true).getD j false):=by
   intro j o' ho' hj ed hed hb;simp only[F7 hil] at hj|-;by_cases hji:j=i
   .subst hji;rw[hoL] at ho';obtain rfl:=aLS ho';have:=hall ed hed hb;split
    .rfl
    .exact this
   .rw[aLU hji] at hj;have:=m.closed j o' ho' hj ed hed hb;split
    .rfl
    .exact this
  have hbef: ∀j,((Region.before ops).toList.getD i 0).testBit j=true->j≠i->listed.getD j false=true:=by
   intro j hj hne;have:=a8n hcl' hj (by simp only[F7 hil];simp);simp only[F7 hil,aLU hne] at this;exact this
  have haft: ∀j,((Region.before ops).toList.getD j 0).testBit i=true->listed.getD j false=true->False:=by
   intro j hj hl;have:=a8n m.closed hj hl;rw[hpi] at this;cases this
  have pairLt: ∀j p f,j<i->ops.toList[j]? =some p->es[j]? =some f->listed.getD j false=true\/(p.apart ops o=true/\(F0 f e=true\/(j=i0/\i=j0))/\IF (s.nb+32*j) e.upd=true):=by
   intro j p f hji hp hf;rcases XV hfr j i p f o e hji hp hf hoL he with h1|h1
   .rw[aMs,aMs] at h1;exact .inl (hbef j h1 pG)
   .rw[aMs,aMs] at h1;exact .inr h1
  have pairGt: ∀j p f,i<j->ops.toList[j]? =some p->es[j]? =some f->listed.getD j false=true->o.apart ops p=true/\(F0 e f=true\/(i=i0/\j=j0)):=by
   intro j p f hij hp hf hl;rcases XV hfr i j o e p f hij hoL he hp hf with h1|h1
   .rw[aMs,aMs] at h1;exact(haft j h1 hl).elim
   .rw[aMs,aMs] at h1;exact⟨h1.1,h1.2.1⟩
  have same: ∀{α:Type}(wr:Nat->Option α) (b:α),(∀j p f,j<i->ops.toList[j]? =some p->es[j]? =some f->wr j≠none->p.apart ops o=true->(F0 f e=true\/(j=i0/\i=j0))->False)->
    (∀j p f,i<j->ops.toList[j]? =some p->es[j]? =some f->wr j≠none->listed.getD j false=true->o.apart ops p=true->(F0 e f=true\/(i=i0/\j=j0))->False)->(∀j,wr j≠none->∃f,es[j]? =some f)->
    uM (fun j=>listed.getD j false) wr b ops.size=uM (fun _=>true) wr b i:=by
   intro α wr b hlt hgt hex;rw[<-XQ (n:=ops.size) pG];refine IP (fun j hj hw=> ?_);obtain⟨f,hf⟩:=hex j hw;have hpj:ops.toList[j]? =some ops[j]:=by simp [hj]
   rcases Nat.lt_trichotomy j i with h1|h1|h1
   .rw[aMg h1];rcases pairLt j _ f h1 hpj hf with h2|h2
    .exact h2
    .exact(hlt j _ f h1 hpj hf hw h2.1 h2.2.1).elim
   .subst h1;simp [hpi]
   .have: ¬j<i:=by omega
    rw[decide_eq_false this];cases hl:listed.getD j false with
    |false=>rfl
    |true=>
     obtain⟨h2,h3⟩:=pairGt j _ f h1 hpj hf hl;exact(hgt j _ f h1 hpj hf hw hl h2 h3).elim
  have exS: ∀t j,A7 ops.toList es t j≠none->∃f,es[j]? =some f:=by
   intro t j h;unfold A7 at h;cases hf:es[j]? with
   |none=>rw[hf] at h;exact absurd (by split<;>first|rfl|(rename_i h1;cases h1)) h
   |some f=>exact⟨f,rfl⟩
  have exH: ∀t j,xE es t j≠none->∃f,es[j]? =some f:=by
   intro t j h;unfold xE at h;cases hf:es[j]? with
   |none=>rw[hf] at h;exact absurd rfl h
   |some f=>exact⟨f,rfl⟩
  have dS: ∀t j p f,ops.toList[j]? =some p->es[j]? =some f->A7 ops.toList es t j≠none->p.dst=some t:=by
   intro t j p f hp hf h;unfold A7 at h;rw[hp,hf] at h;simp only at h;split at h
   .assumption
   .exact absurd rfl h
  have dH: ∀id j f,es[j]? =some f->xE es id j≠none->id∈qG (wK f):=by
   intro id j f hf h;unfold xE at h;rw[hf] at h;simp only at h;split at h
   .assumption
   .exact absurd rfl h
  have noW: ∀id j f,es[j]? =some f->xE es id j≠none->j=i0->False:=fun id j f hf hw hj=>by
   subst hj;obtain⟨_,ex,fx,hex,hup,_⟩:=hE (by have:=(aL1.1 hf).1;rw[run.len,hsz] at this;exact this);have:=(KY.1 (dH id j _ hex hw)).1;rw[hup] at this;cases this
  have hrds: ∀id∈e.rds,¬(i=i0/\listed.getD j0 false=true)->qD H id=qD sk.H id:=fun id hid hX=>by
   rw[m.get id,st.heap id];refine same _ _ (fun j p f _ hp hf hw _ ha=> ?_) (fun j p f _ hp hf hw hl _ ha=> ?_) (exH id)
   .rcases ha with ha|ha
    .exact((L1 ha).1 id (dH id j f hf hw)).1 hid
    .exact noW id j f hf hw ha.1
   .rcases ha with ha|ha
    .exact(L1 ha).2 id (dH id j f hf hw) hid
    .exact hX ⟨ha.1,ha.2▸hl⟩
  have htmp: ∀t∈o.looksAt ops,lk env t=lk sk.env t:=fun t ht=>by
   rw[m.look t,st.env t];refine same _ _ (fun j p f _ hp hf hw ha _=> ?_) (fun j p f _ hp hf hw _ ha _=> ?_) (exS t)
   .exact(Oper.apart_spec ha).1 t (dS t j p f hp hf hw) ht
   .exact(Oper.apart_spec ha).2.2 t (dS t j p f hp hf hw) ht
  have hNs: ∀(s':St) (N':Nat),y3 T Γ ops.toList o ⟨s'.env,s'.H,s'.nb,N',s'.np⟩=y3 T Γ ops.toList o s':=fun _ _=>rfl;have hev:y3 T Γ ops.toList o ⟨env,H,s.nb+32*i,s.N,s.np⟩=some e:=by
   by_cases hX:i=i0/\listed.getD j0 false=true
   .obtain⟨h1,hl0⟩:=hX;subst h1;obtain⟨hij0,ex,fx,hex,hup,hfx,hxe⟩:=hE hin;rw[he] at hex;cases hex;refine XP (hxe sk o hoL st) (fun t ht=>htmp t ht) (fun id hid=> ?_) st.nb.symm st.np.symm;show qD H id=qD (qP (wK fx) sk.H) id;have hj0:j0<ops.size:=by
     have:=(aL1.1 hfx).1;rw[run.len,hsz] at this;exact this
    rw[m.get id,SQ (p:=fun j=>listed.getD j false&& !decide (j=j0)) (i:=j0) pI (fun j=>by
     by_cases h:j=j0
     .subst h;rw[aLQ rfl];exact hl0
     .rw[aLU h];simp [h]) hj0 (fun j h1 h2 h3=> ?_)]
    .have hrest:uM (fun j=>listed.getD j false&& !decide (j=j0)) (xE es id) (qD s.H id) ops.size=qD sk.H id:=by
      rw[st.heap id,<-XQ (n:=ops.size) pG];refine IP (fun j hj hw=> ?_);obtain⟨f,hf⟩:=exH id j hw;have hpj:ops.toList[j]? =some ops[j]:=by simp [hj]
      rcases Nat.lt_trichotomy j i with h1|h1|h1
      .rw[aMg h1];rcases pairLt j _ f h1 hpj hf with h2|h2
       .rw[h2,decide_eq_false pG];rfl
       .rcases h2.2.1 with h2|h2
        .exact(((L1 h2).1 id (dH id j f hf hw)).1 hid).elim
        .omega
      .exact(noW id j f hf hw h1).elim
      .have h9: ¬j<i:=by omega
       rw[decide_eq_false h9];cases hl:listed.getD j false with
       |false=>rfl
       |true=>
        obtain⟨_,h3⟩:=pairGt j _ f h1 hpj hf hl;rcases h3 with h3|h3
        .exact((L1 h3).2 id (dH id j f hf hw) hid).elim
        .rw[aMg h3.2];rfl
     rw[hrest,KZ];unfold xE;rw[hfx];simp only;by_cases h7:id∈qG (wK fx)
     .rw[aLQ h7,aLQ h7,aGa (KY.1 h7).2];rfl
     .rw[aLU h7,aLU h7];rfl
    .left;have hl:listed.getD j false=true:=by
      cases h:listed.getD j false with
      |true=>rfl
      |false=>rw[h] at h3;cases h3
     cases hw:xE es id j with
     |none=>rfl
     |some v=>
      obtain⟨f,hf⟩:=exH id j (by rw[hw];simp);have hpj:ops.toList[j]? =some ops[j]:=by simp [h2]
      obtain⟨_,h4⟩:=pairGt j _ f pG hpj hf hl;rcases h4 with h4|h4
      .exact((L1 h4).2 id (dH id j f hf (by rw[hw];simp)) hid).elim
      .omega
   .exact XP st.ev (fun t ht=>htmp t ht) (fun id hid=>hrds id hid hX) st.nb.symm st.np.symm
  have hXu: ∀id,id∈qG e.upd->¬(i=i0/\listed.getD j0 false=true):=fun id hid hX=>by
   obtain⟨h1,_⟩:=hX;subst h1;obtain⟨_,ex,fx,hex,hup,_⟩:=hE hin;rw[he] at hex;cases hex;rw[hup] at hid;cases hid
  have hfresh:yG g (s.nb+32*i) e:=fun id hid hle=>m.free i hin hpi id hle (NX st.ids hid);have key:=a7R hT hΓ (ops:=ops.toList) (o:=o) (a:=a) (s:=⟨env,H,s.nb+32*i,s.N,s.np⟩) (K:=wpAnyIn (E3 ro) 0 P .any ops Q fuel (listed.setIfInBounds i true)) (Q:=Q) m.eok m.heap hev (fun p hp=>hs p (st.side p hp)) hfresh (fun g' w' v k=>by
   refine ih (listed.setIfInBounds i true) g' w' (a.put o.dst v) (u7 o.dst e.slot env) (qP e.upd H) ?_ ⟨by rw[Array.size_setIfInBounds];exact m.size,hcl',XK m.eok k.le k.slot m.tmps st.dst,fun t=> ?_,k.heap,fun id=> ?_,(a7V _ _ _).trans m.tmps,by rw[a7W];exact m.def_.eff m.heap k,m.good.eff k (m.len▸(NV hev).2),m.len,fun j hj hjp id h1 h2=> ?_,fun id hid=> ?_⟩
   .have:=a8q hil hpi hin;omega
   .rw[a8h,SQ (p:=fun j=>listed.getD j false) (i:=i) hpi (fun j=>by simp only[F7 hil]) hin (fun j hij hj hl=> ?_),<-m.look t]
    .unfold A7;rw[hoL,he];simp only;split<;>rfl
    .have hpj:ops.toList[j]? =some ops[j]:=by simp [hj]
     obtain⟨f,hf⟩: ∃f,es[j]? =some f:=⟨es[j]'(by rw[run.len,hsz];exact hj),by simp⟩;obtain⟨h3,_⟩:=pairGt j _ f hij hpj hf hl;by_cases hw:A7 ops.toList es t j=none
     .exact .inl hw
     .right;have hd:=dS t j _ f hpj hf hw;by_cases hwi:A7 ops.toList es t i=none
      .exact hwi
      .have hdi:=dS t i _ e hoL he hwi;exact absurd hd ((Oper.apart_spec h3).2.1 t hdi)
   .rw[KZ,SQ (p:=fun j=>listed.getD j false) (i:=i) hpi (fun j=>by simp only[F7 hil]) hin (fun j hij hj hl=> ?_),<-m.get id]
    .unfold xE;rw[he];simp only;by_cases h7:id∈qG (wK e)
     .rw[aLQ h7,aLQ (KY.1 h7).1];rfl
     .rw[aLU h7];by_cases h8:id∈qG e.upd
      .obtain⟨q1,q2⟩:=st.same id h8 h7;rw[aLQ h8,q1,<-hrds id q2 (hXu id h8)];rfl
      .rw[aLU h8];rfl
    .have hpj:ops.toList[j]? =some ops[j]:=by simp [hj]
     obtain⟨f,hf⟩: ∃f,es[j]? =some f:=⟨es[j]'(by rw[run.len,hsz];exact hj),by simp⟩;obtain⟨_,h3⟩:=pairGt j _ f hij hpj hf hl;by_cases hw:xE es id j=none
     .exact .inl hw
     .right;have hd:=dH id j f hf hw;by_cases hwi:xE es id i=none
      .exact hwi
      .have hdi:=dH id i e he hwi;rcases h3 with h3|h3
       .exact absurd (KY.1 hd).1 ((L1 h3).1 id hdi).2
       .exact(noW id i e he hwi h3.1).elim
   .rw[F7 hil] at hjp;have hji:j≠i:=fun h=>by rw[aLQ h] at hjp;cases hjp
    rw[aLU hji] at hjp;have hnot:id∉qG e.upd:=by
     intro hm;have hlt:=NX st.ids hm;rcases Nat.lt_or_gt_of_ne hji with h3|h3
     .obtain⟨f,hf⟩: ∃f,es[j]? =some f:=⟨es[j]'(by rw[run.len,hsz];exact hj),by simp⟩;rcases pairLt j ops[j] f h3 (by simp [hj]) hf with h4|h4
      .rw[hjp] at h4;cases h4
      .have:=a8k h4.2.2 id hm;omega
     .omega
    have hg:=k.gho id hnot;have hb:=m.free j hj hjp id h1 h2;exact⟨hg.1.trans hb.1,fun n=>by rw[hg.2];exact hb.2 n⟩
   .have hnot:id∉qG e.upd:=fun hm=>by have:=NX st.ids hm;omega
    have hg:=k.gho id hnot;have hb:=m.top id hid;exact⟨hg.1.trans hb.1,fun n=>by rw[hg.2];exact hb.2 n⟩)
  unfold wpOpIn;rw[ho];simp only[aNe] at key|-;split at key
  .rename_i hw;rw[aLQ hw];exact a71 (a7Z hev) key
  .rename_i hw;rw[aLU hw];exact⟨fun _ _=>trivial,key⟩
theorem a8v {i0 j0:Nat}{ro:pP}(hm:P.follows .mixedOrders=true) {id:Nat}{ops:Array Oper}{s:St}{y:vG}{a:Act}{w:pR}{g:Gh}(h:uI T Γ ops.toList ops.toList (some ⟨s,[],[]⟩)=some y) (hchk:KI i0 j0 ops s.nb y.es.reverse=true) (hE:i0<ops.size->i0<j0/\∃ex fx a1 o1,y.es.reverse[i0]? =some ex/\ex.upd=[]/\y.es.reverse[j0]? =some fx/\ops.toList[i0]? =some o1/\uI T Γ ops.toList (ops.toList.take i0) (some ⟨s,[],[]⟩)=some a1/\y3 T Γ ops.toList o1 ⟨a1.s.env,qP (wK fx) a1.s.H,a1.s.nb,a1.s.N,a1.s.np⟩=some ex) (hs: ∀p∈y.side,p) (hr:vE B g w s a) (hg:tP A L g0 w0 g w s.H) (hn:L.length=s.np)
  (hQ: ∀g' a' w',vE B g' w' y.s a'->tP A L g0 w0 g' w' y.s.H->Q .normal a' w'):(Code.region id ops true).wpIn (E3 ro) 0 P Q a w:=by
 obtain⟨es,h1,run⟩:=SR h hs;have hes:y.es.reverse=es:=by rw[h1];simp
 simp only at run;rw[hes] at hchk hE;have hsd:=E2 h;have hrep: ∀j,(Array.replicate ops.size false).getD j false=false:=by
  intro j;rw[aMk,Array.getElem?_replicate];split<;>rfl
 have none: ∀{α:Type}(wr:Nat->Option α) (b:α) n,uM (fun j=>(Array.replicate ops.size false).getD j false) wr b n=b:=by
  intro α wr b n
  induction n with
  |zero=>rfl
  |succ n ih=>simp only[uM];rw[aLU (by rw[hrep];simp)];exact ih
 have hsz:ops.toList.length=ops.size:=aMt;refine wpIn_region_any hm (aGc hT hΓ run hs hchk (fun hi=>let ⟨c0,ex,fx,a1,o1,c1,c2,c3,c4,c5,c6⟩:=hE hi;⟨c0,ex,fx,c1,c2,c3,aGb run hs c4 c5 hes h c6⟩) (fun g' a' w' env H he hl hh hgt hz hd hgd htop=> ?_) _ _ g _ a s.env s.H ?_ ⟨by simp,fun j o ho hj=> ?_,fun t=>C6 (a8s g w _) (hr.env t),fun t=> ?_,hr.heap.drawn _,fun id=> ?_,hr.size,hr.def_.same (fun _ h=>h),hg.drawn _,hn,fun j _ _ id h1 _=>hr.nb id pG,fun id h1=>hr.nb id pG⟩)
 .refine hQ g' a' w' ⟨fun t=>by rw[<-hl t];exact he t,hh.ext (fun i=>(hgt i).symm),by rw[hsd.2.1];exact hz,fun i hi=>htop i ?_,hd,?_⟩ (hgd.ext (fun i=>(hgt i).symm))
  .rw[run.nb,hsz] at hi;exact hi
  .rw[hsd.2.2,run.nb];exact aMN hr.np (Nat.le_add_right _ _)
 .have: ∀n (l:Array Bool),C9 l n<=n:=by
   intro n l
   induction n with
   |zero=>exact aMc _
   |succ n ih=>simp only[C9];split<;>omega
  exact this _ _
 .simp only[hrep] at hj;cases hj
 .rw[none]
 .exact(none _ _ _).symm
end
theorem ST: ∀{l:List Prop},rF l->∀p∈l,p
 |[p],h,q,hq=>by simp only[aL6] at hq;subst hq;exact h
 |p::q::r,h,x,hx=>by
  rcases aL3.1 hx with rfl|hx
  .exact h.1
  .exact ST h.2 x hx
theorem a8w {p:Nat->Prop}(h: ∃n,p n): ∃n,p n/\∀m,p m->n<=m:=by
 obtain⟨n,hn⟩:=h
 induction n using Nat.strongRecOn with
 |_ n ih=>
  by_cases hs: ∃m,m<n/\p m
  .obtain⟨m,hm,hp⟩:=hs;exact ih m hm hp
  .exact⟨n,hn,fun m hm=>Nat.le_of_not_lt fun hlt=>hs ⟨m,hlt,hm⟩⟩
noncomputable def NY (p:Nat->Prop):Nat:=open Classical in if h: ∃n,p n then(a8w h).choose else 0
theorem SU {p:Nat->Prop}(h: ∃n,p n):p (NY p)/\∀m,p m->NY p<=m:=by
 unfold NY;rw[aNP h];exact(a8w h).choose_spec
def E4:Exit->Option Ex
 | .normal=>some .normal
 | .exit id=>some (.exit id)
 | .ret=>some .ret
 |_=>none
def IQ (B:Nat) (A:Nat->Nat->Prop) (L:List q9) (g0:Gh) (w0:pR) (Q:Ex->St->Prop) (x:Exit) (a:Act) (w:pR):Prop:=
 ∃e g s,E4 x=some e/\Q e s/\vE B g w s a/\tP A L g0 w0 g w s.H/\s.np=L.length
section
variable {B:Nat}{P:Program}{T:sM}{Γ:tX}(hT:wV P T) (hΓ:D2 P Γ) (hm:P.follows .mixedOrders=true) {A:Nat->Nat->Prop}{L:List q9}{g0:Gh}{w0:pR}
include hT hΓ hm
theorem F8 {ro:pP}: ∀(c:Code) (s:St) (Q:Ex->St->Prop) (g:Gh) (a:Act) (w:pR),w6 T Γ c s Q->vE B g w s a->tP A L g0 w0 g w s.H->s.np=L.length->c.wpIn (E3 ro) 0 P (IQ B A L g0 w0 Q) a w
 | .skip,s,Q,g,a,w,h,hr,hg,hn=>by
  unfold w6 at h;exact wpIn_skip ⟨.normal,g,s,rfl,h,hr,hg,hn⟩
 | .label l,s,Q,g,a,w,h,hr,hg,hn=>by
  unfold w6 at h;exact wpIn_label ⟨.normal,g,s,rfl,h,hr,hg,hn⟩
 | .exit id,s,Q,g,a,w,h,hr,hg,hn=>by
  unfold w6 at h;exact wpIn_exit ⟨.exit id,g,s,rfl,h,hr,hg,hn⟩
 | .ret,s,Q,g,a,w,h,hr,hg,hn=>by
  unfold w6 at h;exact wpIn_ret ⟨.ret,g,s,rfl,h,hr,hg,hn⟩
 | .region id ops draw,s,Q,g,a,w,h,hr,hg,hn=>by
  unfold w6 at h;cases draw with
  |false=>
   simp only[N6] at h;cases hy:uI T Γ ops.toList ops.toList (some ⟨s,[],[]⟩) with
   |none=>rw[hy] at h;cases h
   |some y=>
    rw[hy] at h;refine aFY hT hΓ hy (ST h.1) hr hg hn.symm (fun g' a' w' hr' hg'=>⟨.normal,g',y.s,rfl,h.2,hr',hg',(E2 hy).2.2.trans hn⟩)
  |true=>
   simp only[N6] at h;cases hy:uI T Γ ops.toList ops.toList (some ⟨s,[],[]⟩) with
   |none=>rw[hy] at h;cases h
   |some y=>
    rw[hy] at h;simp only[a6p] at h;by_cases hc:IG ops s.nb y.es.reverse=true
    .rw[aLQ hc] at h;refine a8v (i0:=ops.size) (j0:=0) hT hΓ hm hy hc (fun h=>absurd h (aNp _)) (ST h.1) hr hg hn.symm (fun g' a' w' hr' hg'=>⟨.normal,g',y.s,rfl,h.2,hr',hg',(E2 hy).2.2.trans hn⟩)
    .rw[aLU hc] at h;cases h
 | .seq x y,s,Q,g,a,w,h,hr,hg,hn=>by
  unfold w6 at h;refine wpIn_seq (aNv (F8 x s _ g a w h hr hg hn) fun e a' w' hp=> ?_);obtain⟨e',g',s',h1,h2,h3,h4,h5⟩:=hp;cases e<;>simp only[E4,aLO] at h1
  case normal=>subst h1;exact F8 y s' Q g' a' w' h2 h3 h4 h5
  case exit id=>subst h1;exact⟨.exit id,g',s',rfl,h2,h3,h4,h5⟩
  case ret=>subst h1;exact⟨.ret,g',s',rfl,h2,h3,h4,h5⟩
  all_goals cases h1
 | .cond c x y,s,Q,g,a,w,h,hr,hg,hn=>by
  unfold w6 at h;have hc:=zL hr.env c;generalize u6 s.env c=sc at h hc;unfold a6w at h;split at h
  .exact wpIn_cond_split (vL hc.1) (fun ht=>F8 x s Q g a w (h.1 ht) hr hg hn) (fun ht=>F8 y s Q g a w (h.2 ht) hr hg hn)
  .obtain⟨b,hb,hp,hq⟩:=hc.1;exact wpIn_cond_split hb (fun ht=>F8 x s Q g a w (h.1 (hp ht)) hr hg hn) (fun ht=>F8 y s Q g a w (h.2 (hq ht)) hr hg hn)
  .cases h
 | .block id c,s,Q,g,a,w,h,hr,hg,hn=>by
  unfold w6 at h;refine wpIn_block (aNv (F8 c s _ g a w h hr hg hn) fun e a' w' hp=> ?_);obtain⟨e',g',s',h1,h2,h3,h4,h5⟩:=hp;cases e<;>simp only[E4,aLO] at h1
  case normal=>subst h1;exact⟨.normal,g',s',rfl,h2,h3,h4,h5⟩
  case exit j=>
   subst h1;simp only[GN] at h2;simp only[Exit.inBlock];split
   .rename_i hj;rw[aLQ hj] at h2;exact⟨.normal,g',s',rfl,h2,h3,h4,h5⟩
   .rename_i hj;rw[aLU hj] at h2;exact⟨.exit j,g',s',rfl,h2,h3,h4,h5⟩
  case ret=>subst h1;exact⟨.ret,g',s',rfl,h2,h3,h4,h5⟩
  all_goals cases h1
 | .loop c,s,Q,g,a,w,h,hr,hg,hn=>by
  unfold w6 at h;obtain⟨k,I,μ,h0,hround⟩:=h;obtain⟨g1,k1,k2,k3,_⟩:=F6 hr hg hn k
  let R:Act->pR->Nat->Prop:=fun a w n=> ∃g s,I s/\μ s=n/\vE B g w s a/\tP A L g0 w0 g w s.H/\s.np=L.length
  refine wpIn_loop (fun a w=> ∃n,R a w n) (fun a w=>NY (R a w)) ⟨_,g1,s.keep k,h0,rfl,k1,k2,k3⟩ (fun a w hI=> ?_);obtain⟨⟨g2,s2,i1,i2,i3,i4,i5⟩,_⟩:=SU hI;refine aNv (F8 c s2 _ g2 a w (hround s2 i1) i3 i4 i5) fun e a' w' hp=> ?_;obtain⟨e',g',s',h1,h2,h3,h4,h5⟩:=hp;cases e<;>simp only[E4,aLO] at h1
  case normal=>
   subst h1;obtain⟨k',j1,j2⟩:=h2;obtain⟨g3,l1,l2,l3,_⟩:=F6 h3 h4 h5 k';have hR:R a' w' (μ (s'.keep k')):=⟨g3,s'.keep k',j1,rfl,l1,l2,l3⟩;refine⟨⟨_,hR⟩,Nat.lt_of_le_of_lt ((SU ⟨_,hR⟩).2 _ hR) (by rw[<-i2];exact j2)⟩
  case exit id=>subst h1;exact⟨.exit id,g',s',rfl,h2,h3,h4,h5⟩
  case ret=>subst h1;exact⟨.ret,g',s',rfl,h2,h3,h4,h5⟩
  all_goals cases h1
 | .rangeFunc _ _ _ _,_,_,_,_,_,h,_,_,_=>by unfold w6 at h;cases h
 | .scope _,_,_,_,_,_,h,_,_,_=>by unfold w6 at h;cases h
 | .goto _,_,_,_,_,_,h,_,_,_=>by unfold w6 at h;cases h
 | .refuse _,_,_,_,_,_,h,_,_,_=>by unfold w6 at h;cases h
end
section
variable {f:St->Prop}{Q:Ex->St->Prop}{s:St}{id j:Nat}{I:St->Prop}{μ:St->Nat}{m:Nat}
theorem qQ (h:f s):N9 f Q .normal s:=h
theorem uN (h:Q (.exit j) s):N9 f Q (.exit j) s:=h
theorem s8 (h:Q .ret s):N9 f Q .ret s:=h
theorem rV (h:Q .normal s):GN id Q .normal s:=h
theorem uY (h:Q .normal s):GN id Q (.exit id) s:=by show (if id=id then Q .normal s else Q (.exit id) s);rw[aLQ rfl];exact h
theorem a8x (hne:j≠id) (h:Q (.exit j) s):GN id Q (.exit j) s:=by show (if j=id then Q .normal s else Q (.exit j) s);rw[aLU hne];exact h
theorem sE (h:Q .ret s):GN id Q .ret s:=h
end
@[go_sem] def rQ:Nat->List qC->List (Nat×qC)
 |_,[]=>[]
 |c,s::r=>(c,s)::rQ (c+1) r
@[go_sem] def vM:Nat->List q9->pL
 |_,[]=>[]
 |c,_::L=>(c,c)::vM (c+1) L
@[go_sem] def NZ (m:pL):List qC->Prop
 |[]=>True
 |s::r=>zG m s=s/\NZ m r
@[go_sem] def O0 (m:pL):List q9->Prop
 |[]=>True
 | .dead::_=>False
 |b::r=>GM m (some b)=b/\O0 m r
def rT:List q9->Prop
 |[]=>True
 | .row _ _ l n::r=>n=List.length l/\rT r
 |_::r=>rT r
theorem a8y {g:Gh}{w:pR}: ∀{L:List q9},(∀(i:Nat) b,L[i]? =some b->∃j,zI g w j b)->rT L
 |[],_=>trivial
 |b::L,h=>by
  have h1:=a8y (L:=L) fun i b' hb=>h (i+1) b' (by simpa using hb);obtain⟨j,h0⟩:=h 0 b rfl;cases b with
  |row e t l n=>exact⟨h0.1.symm,h1⟩
  |_=>exact h1
def XZ:pN->pS
 |[v]=>v
 |l=> .tuple l.toArray
attribute [go_sem] qM
@[go_sem] def a8z:qC->Int
 |(.val (.int _) n,_)=>n
 |_=>0
theorem a8A: ∀(l:List qC) (c t:Nat),lk (rQ c l) t=if c<=t then(l[t-c]?).getD (.any,none) else(.any,none)
 |[],c,t=>by simp [rQ,lk]
 |s::l,c,t=>by
  simp only[rQ,lk];by_cases h:c=t
  .subst h;simp
  .rw[aLU h,a8A l (c+1) t];by_cases h2:c<=t
   .rw[aLQ h2,aLQ pG];obtain⟨d,hd⟩: ∃d,t-c=d+1:=⟨t-c-1,pG⟩;rw[hd,aMx,show t- (c+1)=d by omega]
   .rw[aLU h2,aLU pG]
theorem L2: ∀{L:List q9}{c i j:Nat},(i,j)∈vM c L↔i=j/\c<=i/\i<c+L.length
 |[],c,i,j=>by simp only[vM,aNi,aMh,false_iff];omega
 |b::L,c,i,j=>by
  simp only[vM,aL3,aMl,L2,aLY];omega
theorem SV: ∀{L:List q9}{c:Nat},wM 0 (vM c L)=true
 |[],_=>rfl
 |b::L,c=>by
  simp only[vM,wM,aMb];refine⟨⟨by simp,?_⟩,SV⟩;have: ∀{m:pL},(∀i j,(i,j)∈m->i≠c/\j≠c)->KJ c c m=false:=by
   intro m
   induction m with
   |nil=>intro _;rfl
   |cons q m ih=>
    intro h;obtain⟨i,j⟩:=q;have:=h i j pI;simp only[KJ,ih (fun i j hm=>h i j (aL5 _ hm)),decide_eq_false this.1,decide_eq_false this.2];rfl
  rw[this]
  .rfl
  .intro i j hm;obtain⟨rfl,h1,_⟩:=L2.1 hm;omega
theorem a8B {m:pL}: ∀{l:List qC},NZ m l->∀s∈l,zG m s=s
 |x::l,h,s,hs=>by
  rcases aL3.1 hs with rfl|hs
  .exact h.1
  .exact a8B h.2 s hs
theorem IR {m:pL}: ∀{l:List q9},O0 m l->∀b∈l,GM m (some b)=b/\b≠.dead
 |x::l,h,b,hb=>by
  cases x with
  |dead=>exact h.elim
  |cells t y ts=>
   rcases aL3.1 hb with rfl|hb
   .exact⟨h.1,fun h=>by cases h⟩
   .exact IR h.2 b hb
  |row e t l n=>
   rcases aL3.1 hb with rfl|hb
   .exact⟨h.1,fun h=>by cases h⟩
   .exact IR h.2 b hb
  |map k v l=>
   rcases aL3.1 hb with rfl|hb
   .exact⟨h.1,fun h=>by cases h⟩
   .exact IR h.2 b hb
  |iter s n=>
   rcases aL3.1 hb with rfl|hb
   .exact⟨h.1,fun h=>by cases h⟩
   .exact IR h.2 b hb
  |grow e c n=>
   rcases aL3.1 hb with rfl|hb
   .exact⟨h.1,fun h=>by cases h⟩
   .exact IR h.2 b hb
theorem SW {g:Gh}{w:pR}: ∀{ss:List qC}{vs:pN},uX g w ss vs->vs.length=ss.length/\∀(i:Nat) s,ss[i]? =some s->∃v,vs[i]? =some v/\rJ g w s v
 |[],vs,h=>by rw[show vs=[] from h];exact⟨rfl,fun i s h=>by simp at h⟩
 |s::ss,vs,⟨v,vs',e,h1,h2⟩=>by
  subst e;obtain⟨h3,h4⟩:=SW h2;refine⟨by simp [h3],fun i s' hi=> ?_⟩;cases i with
  |zero=>simp only[aMm,aLO] at hi;subst hi;exact⟨v,rfl,h1⟩
  |succ i=>simp only[aMx] at hi|-;exact h4 i s' hi
theorem SX: ∀(L:List q9),r5 L=L.length
 |[]=>rfl
 |_::L=>by simp only[r5,aLY,SX L]
theorem aGd {g:Gh}{w:pR}{args:List qC}{vals:pN}{L:List q9}{N:Nat}(hH:sG g w (qM 0 L)) (ha:uX g w args vals) (hs:NZ (vM 0 L) args) (hb:O0 (vM 0 L) L) (hN:args.length<=N):
  vE w.heap.size (uJ g 0 (vM 0 L)) w ⟨rQ 0 args,qM 0 L,r5 L,N,r5 L⟩ {tmps:=vals.toArray++Array.replicate (N-vals.toArray.size) undef,defers:=[]}/\
  (∀i blk,L[i]? =some blk->(uJ g 0 (vM 0 L)).J i=g.J i/\zI (uJ g 0 (vM 0 L)) w i blk/\∀b o,sA (uJ g 0 (vM 0 L)) i blk b o->sA g i blk b o):=by
 have hk:wM 0 (vM 0 L)=true:=SV;have hmem: ∀i blk,L[i]? =some blk->(i,i)∈vM 0 L:=fun i blk h=>L2.2 ⟨rfl,pG,by have:=(aL1.1 h).1;omega⟩;have hblk: ∀i blk,L[i]? =some blk->zI (uJ g 0 (vM 0 L)) w i blk/\∀b o,sA (uJ g 0 (vM 0 L)) i blk b o->sA g i blk b o:=by
  intro i blk h;have hr:=(IR hb blk (List.mem_of_getElem? h)).1;have:=IN (g:=g) (w:=w) hk (hmem i blk h) (b:=some blk) (fun c hc=>by cases hc;exact hH.blk i blk (by rw[wW];exact h));rw[hr] at this;exact⟨this.1,fun b o ho=>by obtain⟨c,hc,hco⟩:=this.2 b o ho;cases hc;exact hco⟩
 obtain⟨hl,hv⟩:=SW ha;refine⟨⟨fun t=> ?_,⟨fun i b h=> ?_,fun i j bi bj b o hij h1 h2 o1 o2=> ?_,hH.sl,hH.tab.1,fun i blk b o hg ho=>hH.tab.2 i blk b o hg ((hblk i blk (by rw[<-wW];exact hg)).2 b o ho)⟩,?_,fun i hi=> ?_,a7P _ _,aMc _⟩,fun i blk h=>⟨(A6 hk (hmem i blk h)).1,hblk i blk h⟩⟩
 .rw[a8A,aLQ (aMR _),Nat.sub_zero];cases ht:args[t]? with
  |none=>exact⟨trivial,trivial⟩
  |some s=>
   obtain⟨v,hv1,hv2⟩:=hv t s ht;have hlt:t<vals.length:=(aL1.1 hv1).1;have:(vals.toArray++Array.replicate (N-vals.toArray.size) undef).getD t undef=v:=by
    rw[aMk,Array.getElem?_append_left (by simpa using hlt)];simp [hv1]
   simp only[aNR];rw[this];have:=SO hk hv2;rw[a8B hs s (List.mem_of_getElem? ht)] at this;exact this
 .rw[wW] at h;exact(hblk i b h).1
 .rw[wW] at h1 h2;exact hH.dis i j bi bj b o hij (by rw[wW];exact h1) (by rw[wW];exact h2) ((hblk i bi h1).2 b o o1) ((hblk j bj h2).2 b o o2)
 .simp only[aNL,Array.size_replicate,aMF];omega
 .have hold:yZ (vM 0 L) i=none:=by
   cases ho:yZ (vM 0 L) i with
   |none=>rfl
   |some o=>
    obtain⟨rfl,_,h2⟩:=L2.1 (XI ho);have hi:r5 L<=i:=hi;rw[SX] at hi;omega
  refine⟨?_,fun n=> ?_⟩
  .show (if i<0 then g.J i else(yZ (vM 0 L) i).bind g.J)=none;rw[aLU pG,hold];rfl
  .show (if i<0 then g.cur i n else(yZ (vM 0 L) i).bind fun o=>g.cur o n)=none;rw[aLU pG,hold];rfl
structure uZ (B:Nat) (w w':pR):Prop where
 os:w'.os=w.os
 tape:w'.tape=w.tape
 output:w'.output=w.output
 size:w.heap.size<=w'.heap.size
 blk: ∀b,b<w.heap.size->w'.heap[b]? =w.heap[b]? \/(B<=b/\NG<=b/\∃o o',w.heap[b]? =some o/\w'.heap[b]? =some o'/\F5 o=true/\F5 o'=true)
theorem a8C {w:pR}{b:Nat}{ob:Obj}(hd:w.heap[b]? =some ob) (hm:F5 ob=true) (o:Nat):w.frozen? ⟨b,o,none⟩=false:=by
 unfold World.frozen?;simp only[hd];cases ob<;>first|rfl|cases hm
theorem aGe {w:pR}{b:Nat}{ob:Obj}(hd:w.heap[b]? =some ob) (hm:F5 ob=true):w.shape? b=none:=by
 unfold World.shape?;simp only[hd];cases ob<;>first|rfl|cases hm
section
variable {B:Nat}{w w' w'':pR}
theorem uZ.refl (B:Nat) (w:pR):uZ B w w:=⟨rfl,rfl,rfl,aMc _,fun _ _=> .inl rfl⟩
theorem uZ.trans (h:uZ B w w') (k:uZ B w' w''):uZ B w w'':=by
 refine⟨k.os.trans h.os,k.tape.trans h.tape,k.output.trans h.output,aMN h.size k.size,fun b hb=> ?_⟩;rcases k.blk b (aMu hb h.size) with k1|⟨k0,k1,o,o',k2,k3,k4,k5⟩
 .rcases h.blk b hb with h1|⟨h0,h1,o,o',h2,h3,h4,h5⟩
  .exact .inl (k1.trans h1)
  .exact .inr ⟨h0,h1,o,o',h2,k1.trans h3,h4,h5⟩
 .rcases h.blk b hb with h1|⟨h0,h1,p,p',h2,h3,h4,h5⟩
  .exact .inr ⟨k0,k1,o,o',h1▸k2,k3,k4,k5⟩
  .exact .inr ⟨h0,h1,p,o',h2,k3,h4,k5⟩
theorem uZ.cell (t:uZ B w w') {b:Nat}(hb:b<w.heap.size) (o:Nat):w'.cell? ⟨b,o,none⟩=w.cell? ⟨b,o,none⟩/\w'.frozen? ⟨b,o,none⟩=w.frozen? ⟨b,o,none⟩:=by
 rcases t.blk b hb with h|⟨_,_,o1,o2,h1,h2,m1,m2⟩
 .exact⟨aMe h,by unfold World.frozen?;simp only[h]⟩
 .exact⟨by rw[XE h1 m1,XE h2 m2],by rw[a8C h1 m1,a8C h2 m2]⟩
theorem uZ.shape (t:uZ B w w') {b:Nat}{s:TypeId×Nat}(h:w.shape? b=some s):w'.shape? b=some s:=by
 have hb:b<w.heap.size:=by
  unfold World.shape? at h;cases hx:w.heap[b]? with
  |none=>rw[hx] at h;cases h
  |some _=>exact(aMi.1 hx).1
 rcases t.blk b hb with k|⟨_,_,o1,o2,h1,h2,m1,m2⟩
 .unfold World.shape? at h|-;rw[k];exact h
 .rw[aGe h1 m1] at h;cases h
theorem uZ.le (t:uZ B w w') {g:Gh}(hs: ∀b o,g.S b o->b<w.heap.size):Le g w g w':=⟨fun _ _ h=>h,fun b o h=>(t.cell (hs b o h) o).1,fun _ _ h=>h,fun _ _ _ h=>h⟩
theorem uZ.heapOk (t:uZ B w w') {g:Gh}{H:s0}(h:sG g w H):sG g w' H:=by
 have own: ∀{i blk b o},qD H i=some blk->sA g i blk b o->w'.heap[b]? =w.heap[b]? :=fun hg ho=>by
  rcases t.blk _ (KL (h.blk _ _ hg) ho) with k|⟨_,_,o1,o2,h1,_,m1,_⟩
  .exact k
  .exact(SL (h.blk _ _ hg) ho h1 m1).elim
 refine⟨fun i blk hb=>KM (h.blk i blk hb) (t.le h.sl) rfl rfl (fun b o ho=>t.cell (KL (h.blk i blk hb) ho) o) (fun b ho=>own hb (ho 0)) (fun _ _ _ x=>x) (fun b o s _ x=>t.shape x),h.dis,fun b o x=>aMu (h.sl b o x) t.size,HW h.tab.1 t.size (fun b hb=> ?_),h.tab.2⟩;rcases t.blk b (aMu hb h.tab.1.1) with k|⟨_,k,_⟩
 .exact k
 .omega
theorem vE.turn {g:Gh}{s:St}{a:Act}{ds:List Deferred}(h:vE B g w s a) (t:uZ B w w') (hd:yY B w' ds):vE B g w' s {a with defers:=ds}:=
 ⟨fun x=>C6 (t.le h.heap.sl) (h.env x),t.heapOk h.heap,h.size,h.nb,hd,h.np⟩
theorem tP.turn {A:Nat->Nat->Prop}{L:List q9}{g0 g:Gh}{w0:pR}{H:s0}(h:tP A L g0 w0 g w H) (hs: ∀b o,g.S b o->b<w.heap.size) (t:uZ w0.heap.size w w'):tP A L g0 w0 g w' H:=by
 refine⟨fun b o x=>⟨(h.shut b o x).1,(t.cell (hs b o (h.shut b o x).1) o).1.trans (h.shut b o x).2⟩,⟨t.os.trans h.fr.os,t.tape.trans h.fr.tape,t.output.trans h.fr.output,aMN h.fr.size t.size,fun b hb hA=> ?_,fun b o hb hA=> ?_,h.fr.new,fun b s x=> ?_⟩,h.perm,h.J,h.live,h.ty,h.cur⟩
 .rcases t.blk b (aMu hb h.fr.size) with k|⟨k,_⟩
  .exact k.trans (h.fr.blk b hb hA)
  .omega
 .have:=t.cell (aMu hb h.fr.size) o;have k:=h.fr.cell b o hb hA;exact⟨this.1.trans k.1,this.2.trans k.2⟩
 .rcases h.fr.shape b s x with k|k
  .exact .inl (t.shape k)
  .exact .inr k
end
theorem a8D {P:Program}{fn:Func}{R:Ending->pR->Prop}{A:Nat->Nat->Prop}{L:List q9}{g0 g:Gh}{w0:pR}{s:St}{tmps:Array pS}: ∀(ds:List Deferred) (w:pR),vE w0.heap.size g w s {tmps:=tmps,defers:=ds}->tP A L g0 w0 g w s.H->
  (∀w',vE w0.heap.size g w' s {tmps:=tmps,defers:=[]}->tP A L g0 w0 g w' s.H->∃v,(results fn tmps).run P w'= .ok v w'/\R (.returned v) w')->LeavesInM Fence.wide 0 P fn tmps R ds .returning w
 |[],w,hr,hg,h=>h w hr hg
 |d::ds,w,hr,hg,h=>by
  obtain⟨hnd,hall⟩:=hr.def_;obtain⟨D,rfl,h1,h2,h3⟩:=hall d aL7;have hlt:=(aMi.1 h3).1;have t:uZ w0.heap.size w (w.putObj D (.deferred none)):=by
   refine⟨rfl,rfl,rfl,by simp [World.putObj],fun b hb=> ?_⟩;by_cases e:b=D
   .subst e;exact .inr ⟨h1,h2,_,_,h3,World.putObj_heap_same hlt,rfl,rfl⟩
   .exact .inl (World.putObj_heap_other e)
  have hd:yY w0.heap.size (w.putObj D (.deferred none)) ds:=by
   refine⟨(List.nodup_cons.1 hnd).2,fun d' hd'=> ?_⟩;obtain⟨D',rfl,k1,k2,k3⟩:=hall d' (aL5 _ hd');refine⟨D',rfl,k1,k2,?_⟩;rw[World.putObj_heap_other (fun e:D'=D=>(List.nodup_cons.1 hnd).1 (by subst e;exact hd'))];exact k3
  exact⟨by simp,.inl ⟨D,_,rfl,run_takeDeferred h3,a8D ds _ (hr.turn t hd) (hg.turn hr.heap.sl t) h⟩⟩
end Go.Proofs.YtkpflnijijccpaaGreatDoor.Vc
