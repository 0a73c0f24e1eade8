/- Packed by a program of mine (wip/tools/pack.py): the same texts with short names and few blanks. -/
import Derived.ChangeKeysEq
import Derived.Laws.BytesArg
import Derived.Laws.StructEq
import Derived.Lib.AppendStr
import Derived.MapKept
import Derived.OrdersIn
import Derived.RangeFuncLeaves
import Derived.RangeFuncNested
import Derived.WalkSpells
import Derived.Test.YtkpflnijijccpaaGreatDoorI000
set_option linter.defProp false
set_option linter.unusedVariables false
set_option linter.unusedSimpArgs false
set_option linter.unusedSectionVars false
set_option maxRecDepth 100000
set_option maxHeartbeats 4000000
namespace Go.Proofs.YtkpflnijijccpaaGreatDoor.Vc
open Go.RowKit
def AN:Ty->TypeDesc
 | .int k=> .int k
 | .str=> .string
 |_=> .bool
theorem a1s {P:Program}{t:TypeId}{ti:TI}(h:uF P t ti) (hk:EF ti.ty=true):P.underlying t=some (AN ti.ty):=by
 have h2:=h.2;unfold yV at h2;obtain⟨ty,el,by',ar,ls⟩:=ti;cases ty<;>simp only[EF,aXd] at hk<;>exact h2
theorem aME {g:Gh}{w:pR}{k:Ty}(hk:EF k=true) {a x:k.den}{v u:pS}(ha:tX g w k a v) (hx:tX g w k x u):Instr.sameNow (AN k) v u=some (HA k a x)/\(HA k a x=true->u=v):=by
 cases k with
 |int k=>
  rw[wX ha,wX hx];simp only[AN,Instr.sameNow,aW8,HA];refine⟨?_,fun h=> ?_⟩
  .congr 1
  .rw[aV4 h]
 |str=>
  rw[xA ha,xA hx];simp only[AN,Instr.sameNow,HA];refine⟨?_,fun h=> ?_⟩
  .congr 1;rw[aW9,MapKept.bytes_beq,aVE];constructor
   .intro h;have:=aVL (fun z:ByteArray=>z.data.toList) h;simpa using this
   .intro h;rw[h]
  .rw[aV4 h]
 |bool=>
  rw[wE ha,wE hx];simp only[AN,Instr.sameNow,HA];refine⟨trivial,fun h=> ?_⟩;rw[beq_iff_eq.1 h]
 |_=>simp [EF] at hk
theorem a1t {g:Gh}{w:pR}{k v:Ty}(hk:EF k=true) {a:k.den}{key:pS}(ha:tX g w k a key): ∀{l:List (k.den×v.den)}{es:List MapEntry}(i:Nat),EG g w k v l es->
  (vX k v l a=false->Instr.findNow (AN k) key es i=some none/\s8 k v l a=v.zero/\∀b val born,tX g w v b val->EG g w k v (tW k v a b l) (es++[⟨key,val,born⟩]))/\
  (vX k v l a=true->∃j e,es[j]? =some e/\Instr.findNow (AN k) key es i=some (some (i+j,e.val))/\tX g w v (s8 k v l a) e.val/\e.key=key/\∀b val,tX g w v b val->EG g w k v (tW k v a b l) (es.modify j fun e=>{e with key:=key,val:=val}))
 |[],es,i,h=>by
  rw[show es=[] from h];exact⟨fun _=>⟨rfl,rfl,fun b val born hb=>⟨_,[],rfl,ha,hb,rfl⟩⟩,fun h=>by simp [vX] at h⟩
 |(x,y)::l,_,i,⟨e,es',rfl,h1,h2,h3⟩=>by
  obtain⟨s1,s2⟩:=aME hk ha h1;cases hq:HA k a x with
  |true=>
   rw[hq] at s1;refine⟨fun h=>by simp [vX,hq] at h,fun _=>⟨0,e,rfl,?_,?_,s2 hq,fun b val hb=> ?_⟩⟩
   .simp only[Instr.findNow,s1,aWr]
   .simp only[s8,hq,aW8];exact h2
   .simp only[tW,hq,aW8];exact⟨_,es',rfl,ha,hb,h3⟩
  |false=>
   rw[hq] at s1;obtain⟨f1,f2⟩:=a1t (v:=v) hk ha (i+1) h3;refine⟨fun h=> ?_,fun h=> ?_⟩
   .simp only[vX,hq] at h;obtain⟨g1,g2,g3⟩:=f1 (by simpa using h);refine⟨by simp only[Instr.findNow,s1];exact g1,by simp only[s8,hq];simpa using g2,fun b val born hb=> ?_⟩;simp only[tW,hq];exact⟨e,_,rfl,h1,h2,g3 b val born hb⟩
   .simp only[vX,hq] at h;obtain⟨j,e',g1,g2,g3,g4,g5⟩:=f2 (by simpa using h);refine⟨j+1,e',by simpa using g1,by simp only[Instr.findNow,s1];rw[g2];congr 3;omega,by simp only[s8,hq];simpa using g3,g4,fun b val hb=> ?_⟩;simp only[tW,hq];exact⟨e,_,rfl,h1,h2,g5 b val hb⟩
def LN (ok:Bool) (z:pS):Option (Nat×pS)->pS
 |some (_,v)=>if ok then .tuple #[v,.bool true] else v
 |none=>if ok then .tuple #[z,.bool false] else z
section
variable {P:Program}{o:Oper}{a:Act}{g:Gh}{w:pR}{H:sE}{T:sV}(hT:y3 P T) (hH:sL g w H)
include hT hH
theorem sI.newMap {side:List Prop}{rds:pQ}{base:Nat}{k v:Ty}(hf:g.J base=none) (hc:g.cur base=fun _=>none):
  sI g w H ⟨side,(.val .mp (some base),none),[(base,.map k v [])],rds⟩ (g.var base w.heap.size none) (w.alloc (.map #[] 0)) (.map (some w.heap.size)):=by
 have hJ:(g.var base w.heap.size none).J base=some ⟨w.heap.size,0,none⟩:=by simp [Gh.var]
 have le:Le g w (g.var base w.heap.size none) (w.alloc (.map #[] 0)):=⟨fun _ _ h=>h,fun b o h=>aVT (a:=⟨b,o,none⟩) (aV3 _ _ _ (hH.sl b o h)),fun i p h=>by
  show (if i=base then _ else _)=_;rw[aVv (fun e1=>by rw[e1,hf] at h;cases h)];exact h,fun _ _ _ h=>h⟩
 have fr:Fr (t8 g H (qH [(base,qB.map k v [])])) w (w.alloc (.map #[] 0)) g.S (g.var base w.heap.size none).S:=
  ⟨rfl,rfl,rfl,by simp,fun b hb _=>aV3 _ _ _ hb,fun b o hb _=>⟨aVT (a:=⟨b,o,none⟩) (aV3 _ _ _ hb),aWm (a:=⟨b,o,none⟩) (aV3 _ _ _ hb)⟩,fun b o h=> .inl h,fun b s h=> .inl ((CP (aV3 _ _ _ (CO h))).trans h)⟩
 have gho: ∀i,i∉qH [(base,qB.map k v [])]->(g.var base w.heap.size none).J i=g.J i/\(g.var base w.heap.size none).cur i=g.cur i:=fun i hi=>⟨by
  show (if i=base then _ else _)=_;rw[aVv (fun e1=>hi (by simp [qH,e1]))],rfl⟩
 have get: ∀i blk,i∈qH [(base,qB.map k v [])]->qE (qY [(base,qB.map k v [])] H) i=some blk->i=base/\blk= .map k v []:=by
  intro i blk hi hg;simp only[qH,aVJ] at hi;subst hi;simp only[qY,qE,aW8,aVr] at hg;exact⟨rfl,hg.symm⟩
 have perm: ∀i blk b o,i∈qH [(base,qB.map k v [])]->qE (qY [(base,qB.map k v [])] H) i=some blk->sG (g.var base w.heap.size none) i blk b o->w.heap.size<=b\/t8 g H (qH [(base,qB.map k v [])]) b o:=by
  intro i blk b o hi hg ho;obtain⟨rfl,rfl⟩:=get i blk hi hg;obtain⟨p,hp,h1⟩:=ho;rw[hJ] at hp;obtain rfl:=aVx hp;exact .inl (aW6 h1.symm)
 refine⟨le,⟨.inr ⟨rfl,_,hJ,rfl⟩,trivial⟩,hH.upd le fr perm gho (fun i blk hi hg=> ?_) (fun i j bi bj b o hi hj hij hgi hgj _ _=>hij ((get i bi hi hgi).1.trans (get j bj hj hgj).1.symm)) (fun b o h=>aV7 (hH.sl b o h) pI),fr,perm,gho,fun i u' y us h=>by
  simp only[qY,qE] at h;split at h
  .cases h
  .exact .inl ⟨y,us,h⟩⟩
 obtain⟨rfl,rfl⟩:=get i blk hi hg;refine⟨⟨w.heap.size,0,none⟩,#[],0,hJ,rfl,?_,rfl,fun o hs=>aW5 _ (hH.sl _ _ hs)⟩;show (w.heap.push (.map #[] 0))[w.heap.size]? =_;rw[aXr]
theorem aMF {t:TypeId}{r:Option Operand}(ho:o.op= .makeMap t r) {base:Nat}{e:qT}(hr:a0U T base (rZ T t) r=some e) (hf:zO g base e):rN P o a g w H e:=by
 generalize hst:rZ T t=ot at hr;unfold a0U at hr;split at hr
 .rename_i el fl ar ls_;unfold aB5 at hr;split at hr
  .split at hr
   .cases hr;have hfr:=hf base (by simp [qH]) (aVR _);refine rN.value (v:= .map (some w.heap.size)) (w':=w.alloc (.map #[] 0)) ?_ (sI.newMap hT hH hfr.1 (funext hfr.2));unfold execOp;rw[ho];simp only[Instr.makeMap,aVM,run_newObj,aVC,aVU,Option.map_none];rfl
   .cases hr
  .cases hr
 .cases hr
theorem aMG {xt el fl:TypeId}{ok:Bool}{r:Nat}{es:Array MapEntry}{cl:Nat}{key z res:pS}{kd:TypeDesc}(hm:P.underlying xt=some (.map el fl)) (hb:w.heap[r]? =some (.map es cl)) (hkd:P.underlying el=some kd) (hsim: ∀ty,kd≠.interface ty) (hna: ∀n t,kd≠.array n t) (hns: ∀f,kd≠.struct f)
  {q:Option (Nat×pS)}(hq:Instr.findNow kd key es.toList 0=some q) (hz:(zeroValue fl).run P w= .ok z w)
  (hres:res=LN ok z q):(Instr.lookup xt (.map (some r)) key ok).run P w= .ok res w:=by
 have hck: ∀em,(Instr.checkKey em 10000 el key).run P w= .ok () w:=by
  intro em;unfold Instr.checkKey;simp only[aVM,aVP hkd,aVC];cases kd<;>first|rfl|(exact absurd rfl (hsim _)) |(exact absurd rfl (hna _ _)) |(exact absurd rfl (hns _))
 have hfk:(Instr.findKey el key es.toList).run P w= .ok q w:=by
  unfold Instr.findKey;simp only[aVM,aVP hkd,aVC,hq,aVU]
 subst hres;unfold Instr.lookup;simp only[aVM,aVP hm,aVC,MapKept.run_getObj_map hb,aVU,hck,hfk];cases q with
 |none=>cases ok<;>simp [hz,aVM,aVC,LN]
 |some q=>cases ok<;>simp [aVM,aVC,LN]
theorem aMH {xt el fl:TypeId}{ok:Bool}{key z:pS}{kd:TypeDesc}(hm:P.underlying xt=some (.map el fl)) (hkd:P.underlying el=some kd) (hsim: ∀ty,kd≠.interface ty) (hna: ∀n t,kd≠.array n t) (hns: ∀f,kd≠.struct f)
  (hz:(zeroValue fl).run P w= .ok z w):(Instr.lookup xt (.map none) key ok).run P w= .ok (LN ok z none) w:=by
 have hck: ∀em,(Instr.checkKey em 10000 el key).run P w= .ok () w:=by
  intro em;unfold Instr.checkKey;simp only[aVM,aVP hkd,aVC];cases kd<;>first|rfl|(exact absurd rfl (hsim _)) |(exact absurd rfl (hna _ _)) |(exact absurd rfl (hns _))
 have hfk:(Instr.findKey el key ([]:List MapEntry)).run P w= .ok none w:=by
  unfold Instr.findKey;simp only[aVM,aVP hkd,aVC,Instr.findNow,aVU]
 unfold Instr.lookup;simp only[aVM,aVP hm,aVC,aVU,hck,hfk];cases ok<;>simp [hz,aVM,aVC,LN,hfk]
theorem sI.updMap {side:List Prop}{rds:pQ}{i:Nat}{k v:Ty}{l l':List (k.den×v.den)}{p:Pl}{es es':Array MapEntry}{cl cl':Nat}(hi:qE H i=some (.map k v l)) (hp:g.J i=some p) (hp0:p.2=0) (hb:w.heap[p.1]? =some (.map es cl)) (hS: ∀o,¬g.S p.1 o) (hM:EG g w k v l' es'.toList):
  sI g w H ⟨side,(.any,none),[(i,.map k v l')],rds⟩ g {w with heap:=w.heap.setIfInBounds p.1 (.map es' cl')} undef:=by
 have hlt:p.1<w.heap.size:=(aVW.1 hb).1;have hoth: ∀b,b≠p.1->(w.heap.setIfInBounds p.1 (.map es' cl'))[b]? =w.heap[b]? :=fun b hne=>by rw[aWV (Ne.symm hne)]
 have hown: ∀o,t8 g H (qH [(i,qB.map k v l')]) p.1 o:=fun o=>⟨i,_,by simp [qH],hi,p,hp,rfl⟩;have le:Le g w g {w with heap:=w.heap.setIfInBounds p.1 (.map es' cl')}:=⟨fun _ _ h=>h,fun b o h=>aVT (a:=⟨b,o,none⟩) (hoth b (fun e=>hS o (e▸h))),fun _ _ h=>h,fun _ _ _ h=>h⟩
 have fr:Fr (t8 g H (qH [(i,qB.map k v l')])) w {w with heap:=w.heap.setIfInBounds p.1 (.map es' cl')} g.S g.S:=
  ⟨rfl,rfl,rfl,by simp,fun b _ hn=>hoth b (fun e=>hn 0 (e▸hown 0)),fun b o _ hn=>⟨aVT (a:=⟨b,o,none⟩) (hoth b (fun e=>hn (e▸hown o))),aWm (a:=⟨b,o,none⟩) (hoth b (fun e=>hn (e▸hown o)))⟩,fun b o h=> .inl h,fun b s h=>(by
   by_cases e:b=p.1
   .exact .inr fun o=>e▸hown o
   .exact .inl ((CP (hoth b e)).trans h))⟩
 have get: ∀j blk,j∈qH [(i,qB.map k v l')]->qE (qY [(i,qB.map k v l')] H) j=some blk->j=i/\blk= .map k v l':=by
  intro j blk hj hg;simp only[qH,aVJ] at hj;subst hj;simp only[qY,qE,aW8,aVr] at hg;exact⟨rfl,hg.symm⟩
 have perm: ∀j blk b o,j∈qH [(i,qB.map k v l')]->qE (qY [(i,qB.map k v l')] H) j=some blk->sG g j blk b o->w.heap.size<=b\/t8 g H (qH [(i,qB.map k v l')]) b o:=by
  intro j blk b o hj hg ho;obtain⟨rfl,rfl⟩:=get j blk hj hg;obtain⟨q,hq,rfl⟩:=ho;rw[hp] at hq;obtain rfl:=aVx hq;exact .inr (hown o)
 refine⟨le,⟨trivial,trivial⟩,hH.upd le fr perm (fun _ _=>⟨rfl,rfl⟩) (fun j blk hj hg=> ?_) (fun j j' bi bj b o hj hj' hij hgi hgj _ _=>hij ((get j bi hj hgi).1.trans (get j' bj hj' hgj).1.symm)) (fun b o h=>by simpa using hH.sl b o h),fr,perm,fun _ _=>⟨rfl,rfl⟩,fun j u' y us h=>by
  simp only[qY,qE] at h;split at h
  .cases h
  .exact .inl ⟨y,us,h⟩⟩
 obtain⟨rfl,rfl⟩:=get j blk hj hg;exact⟨p,es',cl',hp,hp0,by simp [aXe,hlt],a04 le hM,hS⟩
theorem aCZ {i:Nat}{k:pP}{v:pS}(h:rX g w (.val .mp (some i),k) v): ∃p,g.J i=some p/\v= .map (some p.1):=by
 obtain⟨p,h1,e⟩:=B9 rfl h.1;simp only[aWp,and_true] at e;exact⟨p,h1,e⟩
theorem a1u {k:Ty}:(∀ty,AN k≠.interface ty)/\(∀n t,AN k≠.array n t)/\(∀f,AN k≠.struct f):=by
 cases k<;>exact⟨fun _ h=>by simp [AN] at h,fun _ _ h=>by simp [AN] at h,fun _ h=>by simp [AN] at h⟩
theorem aMI {t:TypeId}{x y:Operand}{ok:Bool}(ho:o.op= .lookup t x y ok) {sx sy:qC}(hx:rX g w sx (a.eval x)) (hy:rX g w sy (a.eval y)) {e:qT}(hr:WA T H ok (rZ T t) sx sy=some e):rN P o a g w H e:=by
 generalize hst:rZ T t=ot at hr;unfold WA at hr;split at hr
 .rename_i el fl ar ls_ i kk;generalize hk:rZ T el=ok1 at hr;generalize hv:rZ T fl=ok2 at hr;unfold a0V at hr;split at hr
  .rename_i kt vt k a' _;split at hr
   .rename_i hkt;unfold W9 at hr;split at hr
    .rename_i k' v' l hb;split at hr
     .rename_i hkv;obtain⟨rfl,rfl⟩:=hkv;split at hr
      .rename_i hkey;obtain⟨p,es,cl,hp,hp0,hh,hM,hS⟩:=hH.blk i _ hb;obtain⟨p',hp',hxv⟩:=aCZ hT hH hx;rw[hp] at hp';obtain rfl:=aVx hp';have hm:=(tI hT hst).2;simp only[yV] at hm;have hkd:=a1s (tI hT hk) (hkt▸hkey);obtain⟨iv,hi1,hi2,hi3⟩:=EJ (tI hT hv);have hz:(zeroValue fl).run P w= .ok (wW vt.ty) w:=by
        simp only[zeroValue,typeInfo,aVM,aWw,hi1,hi3,aVC,aVU]
       obtain⟨f1,f2⟩:=a1t (v:=vt.ty) hkey hy.1 0 hM;rw[<-hkt] at hkd;obtain⟨p1,p2,p3⟩:=a1u hT hH (k:=k);have go: ∀{q res},Instr.findNow (AN k) (a.eval y) es.toList 0=some q->res=LN ok (wW vt.ty) q->(execOp a.eval o).run P w= .ok (.value res) w:=by
        intro q res h1 h2;unfold execOp;rw[ho];simp only[hxv,aVM,aMG hT hH hm hh hkd p1 p2 p3 h1 hz h2,aVC,aVU]
       cases hmh:vX k vt.ty l a' with
       |false=>
        obtain⟨g1,g2,_⟩:=f1 hmh;cases ok with
        |true=>
         cases hr;refine rN.pure hH (v:= .tuple #[wW vt.ty,.bool false]) (go g1 rfl) ?_;simp only[ND,hmh,g2];exact⟨[_,_],rfl,_,[_],rfl,LL g w _,trivial,_,[],rfl,xB g w false,trivial,rfl⟩
        |false=>
         cases hr;refine rN.pure hH (v:=wW vt.ty) (go g1 rfl) ?_;simp only[ND,g2];exact LL g w _
       |true=>
        obtain⟨j,e',g1,g2,g3,g4,g5⟩:=f2 hmh;cases ok with
        |true=>
         cases hr;refine rN.pure hH (v:= .tuple #[e'.val,.bool true]) (go g2 rfl) ?_;simp only[ND,hmh];exact⟨[_,_],rfl,_,[_],rfl,g3,trivial,_,[],rfl,xB g w true,trivial,rfl⟩
        |false=>
         cases hr;refine rN.pure hH (v:=e'.val) (go g2 rfl) ?_;simp only[ND];exact g3
      .cases hr
     .cases hr
    .cases hr
   .cases hr
  .cases hr
 .rename_i el fl ar ls_ kk;generalize hk:rZ T el=ok1 at hr;generalize hv:rZ T fl=ok2 at hr;unfold aB6 at hr;split at hr
  .rename_i kt vt k a' _;split at hr
   .rename_i hkt;split at hr
    .rename_i hkey;have hxv:a.eval x= .map none:=by
      have e1:=B9 rfl hx.1;simpa[Rd,LK] using e1
     have hm:=(tI hT hst).2;simp only[yV] at hm;have hkd:=a1s (tI hT hk) (hkt▸hkey);obtain⟨iv,hi1,hi2,hi3⟩:=EJ (tI hT hv);have hz:(zeroValue fl).run P w= .ok (wW vt.ty) w:=by
      simp only[zeroValue,typeInfo,aVM,aWw,hi1,hi3,aVC,aVU]
     rw[<-hkt] at hkd;obtain⟨p1,p2,p3⟩:=a1u hT hH (k:=k);have go:(execOp a.eval o).run P w= .ok (.value (LN ok (wW vt.ty) none)) w:=by
      unfold execOp;rw[ho];simp only[hxv,aVM,aMH hT hH hm hkd p1 p2 p3 hz,aVC,aVU]
     cases ok with
     |true=>
      cases hr;exact rN.pure hH (v:= .tuple #[wW vt.ty,.bool false]) go ⟨[_,_],rfl,_,[_],rfl,LL g w _,trivial,_,[],rfl,xB g w false,trivial,rfl⟩
     |false=>
      cases hr;exact rN.pure hH (v:=wW vt.ty) go (LL g w _)
    .cases hr
   .cases hr
  .cases hr
 .cases hr
theorem aMJ {g:Gh}{w:pR}{k:Ty}(hk:EF k=true) {x:k.den}{v:pS}(h:tX g w k x v) (n:Nat):Instr.sameBits n v v=true:=by
 cases k with
 |int k=>rw[wX h];cases n<;>simp [Instr.sameBits]
 |str=>rw[xA h];cases n<;>simp [Instr.sameBits,MapKept.bytes_beq]
 |bool=>rw[wE h];cases n<;>simp [Instr.sameBits]
 |_=>simp [EF] at hk
omit hT hH in
theorem aC0 {T:sV}{ti:Option TI}{s:qC}{v:pS}(h:rX g w s v):rX g w (WC T ti s) v:=by
 unfold WC;split
 .unfold aB7;split
  .rename_i f x _;refine⟨.inr ⟨rfl,?_⟩,trivial⟩;rcases h.1 with⟨h1,_⟩ |⟨h1,vs,h2,h3⟩
   .cases h1
   .rw[show vs=[] from h2] at h3;exact h3
  .exact h
 .exact h
theorem aC1 {t:TypeId}{m x y:Operand}(ho:o.op= .mapUpdate t m x y\/o.op= .insert t m x y) {sm sx sy:qC}(hm:rX g w sm (a.eval m)) (hx:rX g w sx (a.eval x)) (hy:rX g w sy (a.eval y)) {e:qT}(hr:NP T H (rZ T t) sm sx sy=some e):rN P o a g w H e:=by
 generalize hst:rZ T t=ot at hr;unfold NP at hr;split at hr
 .rename_i el fl ar ls_ i kk;generalize hk:rZ T el=ok1 at hr;unfold WB at hr;split at hr
  .rename_i kt k a' _ u b _;split at hr
   .rename_i hkt;unfold NO at hr;split at hr
    .rename_i k' v' l hb;split at hr
     .rename_i hkv;obtain⟨rfl,rfl⟩:=hkv;split at hr
      .rename_i hkey;cases hr;obtain⟨p,es,cl,hp,hp0,hh,hM,hS⟩:=hH.blk i _ hb;obtain⟨p',hp',hxv⟩:=aCZ hT hH hm;rw[hp] at hp';obtain rfl:=aVx hp';have hmt:=(tI hT hst).2;simp only[yV] at hmt;have hkd:=a1s (tI hT hk) (hkt▸hkey);rw[<-hkt] at hkd;obtain⟨p1,p2,p3⟩:=a1u hT hH (k:=k);have hck:(Instr.checkKey false 10000 el (a.eval x)).run P w= .ok () w:=by
        unfold Instr.checkKey;simp only[aVM,aVP hkd,aVC];generalize AN k=kd at p1 p2 p3;cases kd<;>first|rfl|(exact absurd rfl (p1 _)) |(exact absurd rfl (p2 _ _)) |(exact absurd rfl (p3 _))
       have hfk: ∀{q},Instr.findNow (AN k) (a.eval x) es.toList 0=some q->(Instr.findKey el (a.eval x) es.toList).run P w= .ok q w:=by
        intro q hq;unfold Instr.findKey;simp only[aVM,aVP hkd,aVC,hq,aVU]
       obtain⟨f1,f2⟩:=a1t (v:=u) hkey hx.1 0 hM;cases hmh:vX k u l a' with
       |false=>
        obtain⟨g1,_,g3⟩:=f1 hmh;refine rN.skip (w':={w with heap:=w.heap.setIfInBounds p.1 (.map (es.push ⟨a.eval x,a.eval y,cl⟩) (cl+1))}) ?_ (sI.updMap hT hH hb hp hp0 hh hS ?_)
        .unfold execOp;rcases ho with ho|ho<;>rw[ho]<;>
          simp only[Instr.mapUpdate,hxv,aVM,aVP hmt,aVC,MapKept.run_getObj_map hh,hck,hfk g1,MapKept.run_setObj_map _ hh,aVU]
        .simp only[ND,Array.toList_push];exact g3 b _ _ hy.1
       |true=>
        obtain⟨j,e',g1,g2,g3,g4,g5⟩:=f2 hmh;rw[aV5] at g2;refine rN.skip (w':={w with heap:=w.heap.setIfInBounds p.1 (.map (es.modify j fun e=>{e with key:=a.eval x,val:=a.eval y}) cl)}) ?_ (sI.updMap hT hH hb hp hp0 hh hS ?_)
        .have hj:es[j]? =some e':=by rw[<-aWB];exact g1
         unfold execOp;rcases ho with ho|ho<;>rw[ho]<;>
          simp only[Instr.mapUpdate,hxv,aVM,aVP hmt,aVC,MapKept.run_getObj_map hh,hck,hfk g2,hj,Option.map_some,aXA,g4,Instr.keyThatStays,aMJ hT hH hkey hx.1,aW8,MapKept.run_setObj_map _ hh,aVU]
        .simp only[ND,Array.toList_modify];exact g5 b _ hy.1
      .cases hr
     .cases hr
    .cases hr
   .cases hr
  .cases hr
 .cases hr
end
theorem aC2 {P:Program}{w:pR}{r:Nat}{s:ByteArray}{n:Nat}(hb:w.heap[r]? =some (.stringIter s n)):(getObj r).run P w= .ok (.stringIter s n) w:=by
 simp [getObj,Sem.run,hb]
theorem aMK {P:Program}{w:pR}{r:Nat}{s:ByteArray}{n:Nat}(o:Obj) (hb:w.heap[r]? =some (.stringIter s n)):(setObj r o).run P w= .ok () {w with heap:=w.heap.setIfInBounds r o}:=by
 simp [setObj,Sem.run,hb]
section
variable {P:Program}{o:Oper}{a:Act}{g:Gh}{w:pR}{H:sE}{T:sV}(hT:y3 P T) (hH:sL g w H)
include hT hH
theorem sI.newIter {side:List Prop}{rds:pQ}{base:Nat}{s:pD}(hf:g.J base=none) (hc:g.cur base=fun _=>none):
  sI g w H ⟨side,(.val .ref (some (base,0)),none),[(base,.iter s 0)],rds⟩ (g.var base w.heap.size none) (w.alloc (.stringIter ⟨s.toArray⟩ 0)) (.pointer (some ⟨w.heap.size,0,none⟩)):=by
 have hJ:(g.var base w.heap.size none).J base=some ⟨w.heap.size,0,none⟩:=by simp [Gh.var]
 have le:Le g w (g.var base w.heap.size none) (w.alloc (.stringIter ⟨s.toArray⟩ 0)):=⟨fun _ _ h=>h,fun b o h=>aVT (a:=⟨b,o,none⟩) (aV3 _ _ _ (hH.sl b o h)),fun i p h=>by
  show (if i=base then _ else _)=_;rw[aVv (fun e1=>by rw[e1,hf] at h;cases h)];exact h,fun _ _ _ h=>h⟩
 have fr:Fr (t8 g H (qH [(base,qB.iter s 0)])) w (w.alloc (.stringIter ⟨s.toArray⟩ 0)) g.S (g.var base w.heap.size none).S:=
  ⟨rfl,rfl,rfl,by simp,fun b hb _=>aV3 _ _ _ hb,fun b o hb _=>⟨aVT (a:=⟨b,o,none⟩) (aV3 _ _ _ hb),aWm (a:=⟨b,o,none⟩) (aV3 _ _ _ hb)⟩,fun b o h=> .inl h,fun b s h=> .inl ((CP (aV3 _ _ _ (CO h))).trans h)⟩
 have gho: ∀i,i∉qH [(base,qB.iter s 0)]->(g.var base w.heap.size none).J i=g.J i/\(g.var base w.heap.size none).cur i=g.cur i:=fun i hi=>⟨by
  show (if i=base then _ else _)=_;rw[aVv (fun e1=>hi (by simp [qH,e1]))],rfl⟩
 have get: ∀i blk,i∈qH [(base,qB.iter s 0)]->qE (qY [(base,qB.iter s 0)] H) i=some blk->i=base/\blk= .iter s 0:=by
  intro i blk hi hg;simp only[qH,aVJ] at hi;subst hi;simp only[qY,qE,aW8,aVr] at hg;exact⟨rfl,hg.symm⟩
 have perm: ∀i blk b o,i∈qH [(base,qB.iter s 0)]->qE (qY [(base,qB.iter s 0)] H) i=some blk->sG (g.var base w.heap.size none) i blk b o->w.heap.size<=b\/t8 g H (qH [(base,qB.iter s 0)]) b o:=by
  intro i blk b o hi hg ho;obtain⟨rfl,rfl⟩:=get i blk hi hg;obtain⟨p,hp,h1⟩:=ho;rw[hJ] at hp;obtain rfl:=aVx hp;exact .inl (aW6 h1.symm)
 refine⟨le,⟨.inr ⟨rfl,_,hJ,rfl⟩,trivial⟩,hH.upd le fr perm gho (fun i blk hi hg=> ?_) (fun i j bi bj b o hi hj hij hgi hgj _ _=>hij ((get i bi hi hgi).1.trans (get j bj hj hgj).1.symm)) (fun b o h=>aV7 (hH.sl b o h) pI),fr,perm,gho,fun i u' y us h=>by
  simp only[qY,qE] at h;split at h
  .cases h
  .exact .inl ⟨y,us,h⟩⟩
 obtain⟨rfl,rfl⟩:=get i blk hi hg;refine⟨⟨w.heap.size,0,none⟩,hJ,rfl,?_,fun o hs=>aW5 _ (hH.sl _ _ hs)⟩;show (w.heap.push (.stringIter ⟨s.toArray⟩ 0))[w.heap.size]? =_;rw[aXr]
theorem sI.updIter {side:List Prop}{rds:pQ}{i:Nat}{s:pD}{n n':Nat}{d:qC}{val:pS}{p:Pl}(hi:qE H i=some (.iter s n)) (hp:g.J i=some p) (hp0:p.2=0) (hb:w.heap[p.1]? =some (.stringIter ⟨s.toArray⟩ n)) (hS: ∀o,¬g.S p.1 o) (hd:rX g {w with heap:=w.heap.setIfInBounds p.1 (.stringIter ⟨s.toArray⟩ n')} d val):
  sI g w H ⟨side,d,[(i,.iter s n')],rds⟩ g {w with heap:=w.heap.setIfInBounds p.1 (.stringIter ⟨s.toArray⟩ n')} val:=by
 have hlt:p.1<w.heap.size:=(aVW.1 hb).1;have hoth: ∀b,b≠p.1->(w.heap.setIfInBounds p.1 (.stringIter ⟨s.toArray⟩ n'))[b]? =w.heap[b]? :=fun b hne=>by rw[aWV (Ne.symm hne)]
 have hown: ∀o,t8 g H (qH [(i,qB.iter s n')]) p.1 o:=fun o=>⟨i,_,by simp [qH],hi,p,hp,rfl⟩;have le:Le g w g {w with heap:=w.heap.setIfInBounds p.1 (.stringIter ⟨s.toArray⟩ n')}:=⟨fun _ _ h=>h,fun b o h=>aVT (a:=⟨b,o,none⟩) (hoth b (fun e=>hS o (e▸h))),fun _ _ h=>h,fun _ _ _ h=>h⟩
 have fr:Fr (t8 g H (qH [(i,qB.iter s n')])) w {w with heap:=w.heap.setIfInBounds p.1 (.stringIter ⟨s.toArray⟩ n')} g.S g.S:=
  ⟨rfl,rfl,rfl,by simp,fun b _ hn=>hoth b (fun e=>hn 0 (e▸hown 0)),fun b o _ hn=>⟨aVT (a:=⟨b,o,none⟩) (hoth b (fun e=>hn (e▸hown o))),aWm (a:=⟨b,o,none⟩) (hoth b (fun e=>hn (e▸hown o)))⟩,fun b o h=> .inl h,fun b s h=>(by
   by_cases e:b=p.1
   .exact .inr fun o=>e▸hown o
   .exact .inl ((CP (hoth b e)).trans h))⟩
 have get: ∀j blk,j∈qH [(i,qB.iter s n')]->qE (qY [(i,qB.iter s n')] H) j=some blk->j=i/\blk= .iter s n':=by
  intro j blk hj hg;simp only[qH,aVJ] at hj;subst hj;simp only[qY,qE,aW8,aVr] at hg;exact⟨rfl,hg.symm⟩
 have perm: ∀j blk b o,j∈qH [(i,qB.iter s n')]->qE (qY [(i,qB.iter s n')] H) j=some blk->sG g j blk b o->w.heap.size<=b\/t8 g H (qH [(i,qB.iter s n')]) b o:=by
  intro j blk b o hj hg ho;obtain⟨rfl,rfl⟩:=get j blk hj hg;obtain⟨q,hq,rfl⟩:=ho;rw[hp] at hq;obtain rfl:=aVx hq;exact .inr (hown o)
 refine⟨le,hd,hH.upd le fr perm (fun _ _=>⟨rfl,rfl⟩) (fun j blk hj hg=> ?_) (fun j j' bi bj b o hj hj' hij hgi hgj _ _=>hij ((get j bi hj hgi).1.trans (get j' bj hj' hgj).1.symm)) (fun b o h=>by simpa using hH.sl b o h),fr,perm,fun _ _=>⟨rfl,rfl⟩,fun j u' y us h=>by
  simp only[qY,qE] at h;split at h
  .cases h
  .exact .inl ⟨y,us,h⟩⟩
 obtain⟨rfl,rfl⟩:=get j blk hj hg;exact⟨p,hp,hp0,by simp [aXe,hlt],hS⟩
theorem aML {t:TypeId}{x:Operand}(ho:o.op= .range t x) {sx:qC}(hx:rX g w sx (a.eval x)) {base:Nat}{e:qT}(hr:a0X base (rZ T t) sx=some e) (hf:zO g base e):rN P o a g w H e:=by
 generalize hst:rZ T t=ot at hr;unfold a0X at hr;split at hr
 .rename_i el b ar ls s k;cases hr;have hfr:=hf base (by simp [qH]) (aVR _);have hv:=xA hx.1;have hu:=(tI hT hst).2;simp only[yV] at hu;refine rN.value (v:= .pointer (some ⟨w.heap.size,0,none⟩)) (w':=w.alloc (.stringIter ⟨s.toArray⟩ 0)) ?_ (sI.newIter hT hH hfr.1 (funext hfr.2));unfold execOp;rw[ho];simp only[Instr.range,hv,aVM,aVP hu,run_newObj,aVC,aVU];rfl
 .cases hr
theorem aMM {x:Operand}{b:Bool}(ho:o.op= .next x b) {sx:qC}(hx:rX g w sx (a.eval x)) {e:qT}(hr:WD H b sx=some e):rN P o a g w H e:=by
 unfold WD at hr;split at hr
 .rename_i i k;unfold a0Y at hr;split at hr
  .rename_i s n hb;cases hr;obtain⟨p,hp,hp0,hh,hS⟩:=hH.blk i _ hb;obtain⟨q,hq,hv⟩:=A6 hx.1;rw[hp] at hq;obtain rfl:=aVx hq;rw[hp0] at hv;by_cases hl:n<s.length
   .have hsz:n<(⟨s.toArray⟩:ByteArray).size:=by simpa[ByteArray.size] using hl
    refine rN.value (v:= .tuple #[.bool true,.int .i64 (n:Int),.int .i32 (xY s n)]) (w':={w with heap:=w.heap.setIfInBounds p.1 (.stringIter ⟨s.toArray⟩ (B7 s n))}) ?_ (sI.updIter hT hH hb hp hp0 hh hS ⟨⟨fun _=>rfl,fun h=>absurd hl (of_decide_eq_false h)⟩,trivial⟩)
    unfold execOp;rw[ho];have hrn:B7 s n=n+(Utf8.decode ⟨s.toArray⟩ n).2:=by unfold B7 a0W;rw[aVs hl]
    simp only[Instr.next,hv,aVM,aC2 hh,aVC,hsz,aW8,aMK _ hh,aVU,hrn];rfl
   .have hsz: ¬n<(⟨s.toArray⟩:ByteArray).size:=by simpa[ByteArray.size] using hl
    have hrn:B7 s n=n:=by unfold B7;rw[aVv hl]
    have hw:({w with heap:=w.heap.setIfInBounds p.1 (.stringIter ⟨s.toArray⟩ (B7 s n))}:pR)=w:=by
     rw[hrn];have:w.heap.setIfInBounds p.1 (.stringIter ⟨s.toArray⟩ n)=w.heap:=by
      obtain⟨h1,h2⟩:=aVW.1 hh;apply Array.ext_getElem?;intro j;rw[aXe];split
      .rename_i hj;subst hj;first|rw[hh] |rw[aVs h1,hh]
      .rfl
     rw[this]
    refine rN.value (v:= .tuple #[.bool false]) (w':={w with heap:=w.heap.setIfInBounds p.1 (.stringIter ⟨s.toArray⟩ (B7 s n))}) ?_ (sI.updIter hT hH hb hp hp0 hh hS ⟨⟨fun h=>absurd (aV4 h) hl,fun _=>rfl⟩,trivial⟩)
    rw[hw];unfold execOp;rw[ho];simp only[Instr.next,hv,aVM,aC2 hh,aVC,hsz,aXD,aVU]
  .cases hr
 .cases hr
end
def qR:Nat->List qB->sE
 |_,[]=>[]
 |c,b::L=>(c,b)::qR (c+1) L
theorem WX: ∀(L:List qB) (c i:Nat),qE (qR c L) i=if c<=i then L[i-c]? else none
 |[],c,i=>by simp [qR,qE]
 |b::L,c,i=>by
  simp only[qR,qE];by_cases h:c=i
  .subst h;simp
  .rw[aVv h,WX L (c+1) i];by_cases h2:c<=i
   .rw[aVs h2,aVs pG];obtain⟨d,hd⟩: ∃d,i-c=d+1:=⟨i-c-1,pG⟩;rw[hd,aWe];congr 1;omega
   .rw[aVv h2,aVv pG]
theorem y4 (L:List qB) (i:Nat):qE (qR 0 L) i=L[i]? :=by rw[WX];simp
def yX (g:Gh) (H:sE) (b o:Nat):Prop:= ∃i blk,qE H i=some blk/\sG g i blk b o
def vS (g:Gh) (w:pR):List qC->pN->Prop
 |[],vs=>vs=[]
 |s::ss,vs=> ∃v vs',vs=v::vs'/\rX g w s v/\vS g w ss vs'
def RJ (g:Gh) (w:pR):List qC->pS->Prop
 |[s],v=>rX g w s v
 |l,v=> ∃vs:pN,v= .tuple vs.toArray/\vS g w l vs
structure EL (g:Gh) (w:pR) (L:List qB) (r:qI) (g':Gh) (w':pR) (v:pS):Prop where
 shut: ∀b o,g.S b o->g'.S b o/\w'.cell? ⟨b,o,none⟩=w.cell? ⟨b,o,none⟩
 heap:sL g' w' (qR 0 r.H)
 ret:RJ g' w' r.ret v
 fr:Fr (yX g (qR 0 L)) w w' g.S g'.S
 perm: ∀i blk b o,r.H[i]? =some blk->sG g' i blk b o->w.heap.size<=b\/yX g (qR 0 L) b o
 J: ∀(i:Nat) t x ts,L[i]? =some (.cells t x ts)->g'.J i=g.J i
 ty: ∀(i:Nat) t x ts u y us,L[i]? =some (.cells t x ts)->r.H[i]? =some (.cells u y us)->u=t
 Jt: ∀i p,i<L.length->g.J i=some p->g'.J i=some p
 cur: ∀i n u,i<L.length->g.cur i n=some u->g'.cur i n=some u
def xR (P:Program) (f:FuncId) (C:List qC->List qB->Option qI):Prop:=
 (∀args w,(callFunc f args).run P w= .ok (.enter f args) w)/\
 ∀(g:Gh) (w:pR) (args:List qC) (vals:pN) (L:List qB) (r:qI),sL g w (qR 0 L)->vS g w args vals->C args L=some r->(∀p∈r.side,p)->
  Calls P f vals.toArray w (fun e w'=> ∃v g',e= .returned v/\EL g w L r g' w' v)
def WY (P:Program) (f:FuncId) (F:(t:Ty)->List t.den->Option (List t.den)):Prop:=
 ∀(g:Gh) (w:pR) (e:TypeId) (t:Ty) (l l':List t.den) (v:pS) (n:Nat) (xs:pN),DA w->w.ownsRow 0 e t.cells v n xs->uE (Rd g w t) t.cells l xs->l.length=n->n<4611686018427387904->F t l=some l'->
  Calls P f #[v] w (fun en w'=>en= .returned (.tuple #[])/\l'.length=n/\∃xs',w'.ownsRow 0 e t.cells v n xs'/\uE (Rd g w t) t.cells l' xs'/\w.grownBy w' v.ownBlock)
def EM (P:Program) (Γ:uH):Prop:= ∀f s,f<1000000000->Γ f=some s->xR P f s.C/\∀F,s.row=some F->WY P f F
theorem aC3 {g:Gh}{w:pR}{t:Ty}{x:t.den}{v:pS}{k:pP}(h:rX g w (.val t x,k) v):rX g w (.val t x,FQ t k) v:=by
 refine⟨h.1,?_⟩;cases t with
 |list u=>exact h.2
 |_=>trivial
theorem aMN {t:Ty}{k:pP}: ∀c,FQ t k=some c->∃u,t= .list u:=by
 cases t with
 |list u=>exact fun _ _=>⟨u,rfl⟩
 |_=>intro c h;cases h
theorem WZ {g g':Gh}{w:pR}(hS:g'.S=g.S) {t:Ty}(hp:t.pure=true) {x:t.den}{v:pS}{k k':pP}(hl: ∀c,k=some c->∃u,t= .list u) (h:rX g w (.val t x,k) v) (hk: ∀c,k=some c->∃c',k'=some c'/\∀n u,g.cur c n=some u->g'.cur c' n=some u) (hk0:k=none->k'=none):rX g' w (.val t x,k') v:=by
 have hv:tX g' w t x v:=h.1.imp (fun⟨a,cs,e,q⟩=>⟨a,cs,e,wN hS hp q⟩) (fun⟨a,q⟩=>⟨a,wN hS hp q⟩);refine⟨hv,?_⟩;cases k with
 |none=>rw[hk0 rfl];trivial
 |some c=>
  obtain⟨c',rfl,h2⟩:=hk c rfl;have h1:=h.2;cases t with
  |list u=>exact h2 _ _ h1
  |pair a b=>obtain⟨u,e⟩:=hl c rfl;cases e
  |_=>exact h1.elim
section
variable {P:Program}{o:Oper}{a:Act}{g:Gh}{w:pR}{H:sE}{T:sV}{Γ:uH}(hT:y3 P T) (hΓ:EM P Γ) (hH:sL g w H)
include hT hΓ hH
theorem a1v {ti:Option TI}{s:qC}{v:pS}(h:rX g w s v):rX g w (NE ti s) v:=by
 unfold NE;split
 .have:v= .slice none 0 0:=h.1;subst this;exact⟨.inr ⟨rfl,none,0,rfl,aVR _,.inl rfl⟩,trivial⟩
 .exact h
theorem aC4 {ρ:Operand->qC}: ∀{xs:List Operand}{ts:List TypeId},xs.length=ts.length->(∀x∈xs,rX g w (ρ x) (a.eval x))->vS g w (H9 T ρ xs ts) (xs.map a.eval)
 |[],[],_,_=>rfl
 |x::xs,t::ts,h,hx=>⟨_,_,rfl,a1v hT hΓ hH (hx x pI),aC4 (by simpa using h) (fun y hy=>hx y (by simp [hy]))⟩
theorem aMO {l m:List qC}{vs us:pN}(h:vS g w l vs) (k:vS g w m us):vS g w (l++m) (vs++us):=by
 induction l generalizing vs with
 |nil=>rw[show vs=[] from h];exact k
 |cons s l ih=>
  obtain⟨v,vs',rfl,h1,h2⟩:=h;exact⟨v,_,rfl,h1,ih h2⟩
theorem aC5: ∀{caps:pL}{vs:pN},yU g caps vs->vS g w (a0R caps) vs
 |[],_,h=>h
 |(i,o)::caps,_,⟨p,vs',h1,h2,h3⟩=>⟨_,_,h2,⟨.inr ⟨rfl,p,h1,rfl⟩,trivial⟩,aC5 h3⟩
end
theorem aC6 {P:Program}{o:Oper}{a:Act}{f:FuncId}{fop:Operand}{args:Array Operand}{tys:Array TypeId}(ho:o.op= .call ⟨.value fop,args,tys⟩) {caps:pN}(hf:a.eval fop= .func (.func f) #[] caps.toArray)
  (hen: ∀args w,(callFunc f args).run P w= .ok (.enter f args) w) {w:pR}{K:Act->pR->Prop}{Q:Exit->Act->pR->Prop}
  (h:Calls P f ((args.toList.map a.eval)++caps).toArray w (fun e w'=> ∃v,e= .returned v/\K (a.put o.dst v) w')):o.wp P a w K Q:=by
 unfold Oper.wp;have:(execOp a.eval o).run P w= .ok (.enter f ((args.toList.map a.eval)++caps).toArray) w:=by
  unfold execOp;rw[ho];simp only[resolve,hf,Deferred.ofValue,aVM,aVU,aVC,invoke];rw[hen];congr 2;apply aWF.1;simp
 rw[this];unfold Oper.upon;refine h.mono fun e w' ⟨v,he,hk⟩=> ?_;subst he;exact hk
def wZ (g:Gh):Option rV->Option Pl
 |some (.box i _ _ _ o)=>(g.J i).map fun p=>⟨p.1,p.2+o,p.3⟩
 |some (.tok k)=>g.J k
 |none=>none
def BS (g:Gh):Option rV->Nat->Option pS
 |some (.tok k),n=>g.cur k n
 |_,_=>none
def w5 (g:Gh) (ws:List rV):Gh:=⟨g.S,fun c=>wZ g ws[c]?,fun c n=>BS g ws[c]? n⟩
def X0 (H:sE) (ws:List rV):rV->qB->Prop
 | .box i u x toks o,.cells t y ts=>qE H i=some (.cells u x toks)/\rK t u x o=some y/\∀q n,(q,n)∈ts->∃k,ws[n]? =some (.tok k)/\xX toks (o+q)=some k/\q<t.cells
 | .tok k,.grow e c m=>qE H k=some (.grow e c m)
 | .tok k,.map s t l=>qE H k=some (.map s t l)/\s.pure=true/\t.pure=true
 | .tok k,.row e t l n=>qE H k=some (.row e t l n)/\t.pure=true
 |_,_=>False
structure HF (H:sE) (ws:List rV) (L:List qB):Prop where
 len:ws.length=L.length
 ok: ∀(c:Nat) wh b,ws[c]? =some wh->L[c]? =some b->X0 H ws wh b
 nodup:(sK ws).Nodup
def a1w (ws:List rV) (t:Ty) (x y:t.den):Prop:=(t.pure=true/\y=x)\/DC ws t x=some y
def X1 (H:sE) (ws:List rV):rV->qB->Prop
 | .box i u x toks o,.cells t y ts=>qE H i=some (.cells u x toks)/\(∃y0,rK t u x o=some y0/\a1w ws t y0 y)/\∀q n,(q,n)∈ts->∃k,ws[n]? =some (.tok k)/\xX toks (o+q)=some k/\q<t.cells
 | .tok k,.grow e c m=>qE H k=some (.grow e c m)
 | .tok k,.map s t l=>qE H k=some (.map s t l)/\s.pure=true/\t.pure=true
 | .tok k,.row e t l n=>qE H k=some (.row e t l n)/\t.pure=true
 |_,_=>False
theorem X2 {i o:Nat}: ∀{ws:List rV}{c0:Nat}{c q:Nat},H5 i o ws c0=some (c,q)->∃d u x toks oc,c=c0+d/\ws[d]? =some (.box i u x toks oc)/\o=oc+q
 |[],_,_,_,h=>by simp [H5] at h
 | .box j u x toks oc::r,c0,c,q,h=>by
  simp only[H5] at h;split at h
  .rename_i hc;simp only[aVr,aV0] at h;obtain⟨rfl,rfl⟩:=h;obtain⟨rfl,h2⟩:=hc;exact⟨0,u,x,toks,oc,rfl,rfl,pG⟩
  .obtain⟨d,u',x',toks',oc',h1,h2,h3⟩:=X2 h;exact⟨d+1,u',x',toks',oc',pG,by simpa using h2,h3⟩
 | .tok k::r,c0,c,q,h=>by
  simp only[H5] at h;obtain⟨d,u',x',toks',oc',h1,h2,h3⟩:=X2 h;exact⟨d+1,u',x',toks',oc',pG,by simpa using h2,h3⟩
theorem O5 {i:Nat}: ∀{ws:List rV}{c0 c:Nat},x8 i ws c0=some c->∃d,c=c0+d/\ws[d]? =some (.tok i)
 |[],_,_,h=>by simp [x8] at h
 | .tok j::r,c0,c,h=>by
  simp only[x8] at h;split at h
  .rename_i hc;simp only[aVr] at h;subst h;subst hc;exact⟨0,rfl,rfl⟩
  .obtain⟨d,h1,h2⟩:=O5 h;exact⟨d+1,pG,by simpa using h2⟩
 | .box _ _ _ _ _::r,c0,c,h=>by
  simp only[x8] at h;obtain⟨d,h1,h2⟩:=O5 h;exact⟨d+1,pG,by simpa using h2⟩
theorem a1x {α β:Type}{a:Option α}{b:Option β}{p:α×β}(h:L4 a b=some p):a=some p.1/\b=some p.2:=by
 cases a<;>cases b<;>simp [L4] at h
 subst h;exact⟨rfl,rfl⟩
theorem aMP {x y:Option (Nat×pL)}(h:QJ x=some y):y=x/\∀f l,x=some (f,l)->l=[]:=by
 unfold QJ at h;split at h
 .cases h;exact⟨rfl,fun _ _ h=>by cases h⟩
 .cases h;exact⟨rfl,fun _ _ h=>by cases h;rfl⟩
 .cases h
theorem aMQ {g g':Gh}{x:Option (Nat×pL)}{cs:pN}(hx: ∀f l,x=some (f,l)->l=[]) (h:R5 g x cs):R5 g' x cs:=by
 cases x with
 |none=>exact h
 |some q=>
  obtain⟨f,l⟩:=q;obtain rfl:=hx f l rfl;exact h
theorem X3 {g g':Gh}{w:pR}(hS:g'.S=g.S) (f:(t:Ty)->t.den->Option t.den)
  (hp: ∀a b x,f (.pair a b) x=L4 (if a.pure=true then some x.1 else f a x.1) (if b.pure=true then some x.2 else f b x.2))
  (hl: ∀t x,f (.list t) x=if t.pure=true then some x else none) (hb: ∀x,f .bool x=some x) (hi: ∀k x,f (.int k) x=some x) (hs: ∀x,f .str x=some x) (hu: ∀x,f .unit x=some x) (hfn: ∀x,f .fn x=some x) (hrl: ∀e t x y cs,f (.rl e t) x=some y->FV g x cs->FV g' y cs) (hmr: ∀x y cs,f .mref x=some y->R6 g x cs->R6 g' y cs)
  (hr: ∀x y cs,f .ref x=some y->R4 g x cs->R4 g' y cs) (hm: ∀x y cs,f .mp x=some y->LK g x cs->LK g' y cs) (hc: ∀x,f .clo x=QJ x):
  ∀{t:Ty}{x y:t.den}{cs:pN},Rd g w t x cs->f t x=some y->Rd g' w t y cs
 | .bool,_,_,_,r,h=>by rw[hb] at h;cases h;exact r
 | .int _,_,_,_,r,h=>by rw[hi] at h;cases h;exact r
 | .str,_,_,_,r,h=>by rw[hs] at h;cases h;exact r
 | .unit,_,_,_,r,h=>by rw[hu] at h;cases h;exact r
 | .rl e t,x,y,_,r,h=>hrl e t x y _ h r
 | .fn,_,_,_,r,h=>by rw[hfn] at h;cases h;exact r
 | .mref,x,y,_,r,h=>hmr x y _ h r
 | .list t,x,y,_,r,h=>by
  rw[hl] at h;split at h
  .rename_i hpu;cases h;exact wN hS (t:= .list t) (by simpa[Ty.pure] using hpu) r
  .cases h
 | .ref,x,y,_,r,h=>hr x y _ h r
 | .clo,x,y,_,r,h=>by
  rw[hc] at h;obtain⟨rfl,h2⟩:=aMP h;exact aMQ h2 r
 | .mp,x,y,_,r,h=>hm x y _ h r
 | .pair a b,x,y,_,⟨c1,c2,e,r1,r2⟩,h=>by
  rw[hp] at h;obtain⟨h1,h2⟩:=a1x h;refine⟨c1,c2,e,?_,?_⟩
  .split at h1
   .rename_i hpu;exact(aVx h1)▸wN hS hpu r1
   .exact X3 hS f hp hl hb hi hs hu hfn hrl hmr hr hm hc r1 h1
  .split at h2
   .rename_i hpu;exact(aVx h2)▸wN hS hpu r2
   .exact X3 hS f hp hl hb hi hs hu hfn hrl hmr hr hm hc r2 h2
theorem a1y (f:(t:Ty)->t.den->Option t.den)
  (hp: ∀a b x,f (.pair a b) x=L4 (if a.pure=true then some x.1 else f a x.1) (if b.pure=true then some x.2 else f b x.2))
  (hl: ∀t x,f (.list t) x=if t.pure=true then some x else none) {u:Ty}: ∀{t:Ty}{x y:t.den}{o:Nat}{l:List u.den},f t x=some y->rK (.list u) t x o=some l->rK (.list u) t y o=some l:=by
 intro t
 induction t with
 |pair a b iha ihb=>
  intro x y o l h hg;rw[hp] at h;obtain⟨h1,h2⟩:=a1x h;have key: ∀z:(Ty.pair a b).den,∀q,rK (.list u) (.pair a b) z q=if q<a.cells then rK (.list u) a z.1 q else rK (.list u) b z.2 (q-a.cells):=by
   intro z q;cases q with
   |zero=>
    conv=>lhs;unfold rK
    rw[aXb (by intro e;cases e),Nat.zero_sub]
   |succ q=>simp [rK]
  rw[key] at hg|-;split
  .rename_i ho;rw[aVs ho] at hg;split at h1
   .rw[<-aVx h1];exact hg
   .exact iha h1 hg
  .rename_i ho;rw[aVv ho] at hg;split at h2
   .rw[<-aVx h2];exact hg
   .exact ihb h2 hg
 |list v=>
  intro x y o l h hg;rw[hl] at h;split at h
  .cases h;exact hg
  .cases h
 |_=>
  intro x y o l h hg;cases o with
  |zero=>
   unfold rK at hg;split at hg
   .rename_i e;cases e
   .cases hg
  |succ o=>simp [rK] at hg
theorem aMR {g:Gh}{w:pR}{ws:List rV}{t:Ty}{x y:t.den}{cs:pN}(r:Rd g w t x cs) (h:DC ws t x=some y):Rd (w5 g ws) w t y cs:=by
 refine X3 (g:=g) (g':=w5 g ws) rfl (DC ws) (fun a b x=>rfl) (fun t x=>rfl) (fun _=>rfl) (fun _ _=>rfl) (fun _=>rfl) (fun _=>rfl) (fun _=>rfl) (fun _ _ x y cs h r=> ?_) (fun x y cs h r=> ?_) (fun x y cs h r=> ?_) (fun x y cs h r=> ?_) (fun _=>rfl) r h
 .cases x with
  |none=>cases h;exact r
  |some q=>
   obtain⟨k,n⟩:=q;simp only[DC,aBJ] at h;cases hc:x8 k ws 0 with
   |none=>rw[hc] at h;cases h
   |some c=>
    rw[hc] at h;cases h;obtain⟨d,rfl,h2⟩:=O5 hc;obtain⟨v,hv,hs⟩:=r;refine⟨v,?_,hs⟩;show BS g ws[0+d]? n=_;rw[aV5,h2];exact hv
 .cases x with
  |none=>cases h;exact r
  |some q=>
   obtain⟨i,o⟩:=q;simp only[DC,V8] at h;cases hc:H5 i o ws 0 with
   |none=>rw[hc] at h;cases h
   |some q=>
    obtain⟨c,q⟩:=q;rw[hc] at h;cases h;obtain⟨d,u,x,toks,oc,rfl,h2,rfl⟩:=X2 hc;obtain⟨p,hp,hv⟩:=r;refine⟨⟨p.1,p.2+oc,p.3⟩,?_,by have:=hv.1;rwa [<-aWc] at this,hv.2.imp id fun hv=>by rw[hv];simp [aWc]⟩;show wZ g ws[0+d]? =_;rw[aV5,h2];simp [wZ,hp]
 .cases x with
  |none=>cases h;exact r
  |some q=>
   obtain⟨i,o⟩:=q;simp only[DC,V8] at h;cases hc:H5 i o ws 0 with
   |none=>rw[hc] at h;cases h
   |some q=>
    obtain⟨c,q⟩:=q;rw[hc] at h;cases h;obtain⟨d,u,x,toks,oc,rfl,h2,rfl⟩:=X2 hc;obtain⟨p,hp,hv⟩:=r;refine⟨⟨p.1,p.2+oc,p.3⟩,?_,by rw[hv];simp [aWc]⟩;show wZ g ws[0+d]? =_;rw[aV5,h2];simp [wZ,hp]
 .cases x with
  |none=>cases h;exact r
  |some i=>
   simp only[DC,aBI] at h;cases hc:x8 i ws 0 with
   |none=>rw[hc] at h;cases h
   |some c=>
    rw[hc] at h;cases h;obtain⟨d,rfl,h2⟩:=O5 hc;obtain⟨p,hp,hv⟩:=r;refine⟨p,?_,hv⟩;show wZ g ws[0+d]? =_;rw[aV5,h2];exact hp
theorem aMS {g:Gh}{w:pR}{ws:List rV}{t:Ty}{x y:t.den}{cs:pN}(h:a1w ws t x y) (r:Rd g w t x cs):Rd (w5 g ws) w t y cs:=by
 rcases h with⟨hp,rfl⟩ |h
 .exact wN (g:=g) (g':=w5 g ws) rfl hp r
 .exact aMR r h
theorem aMT {ws:List rV}{t u:Ty}{x y:t.den}{o:Nat}{l:List u.den}(h:a1w ws t x y) (hg:rK (.list u) t x o=some l):rK (.list u) t y o=some l:=by
 rcases h with⟨_,rfl⟩ |h
 .exact hg
 .exact a1y (DC ws) (fun _ _ _=>rfl) (fun _ _=>rfl) h hg
structure RK (H:sE) (ws:List rV) (L:List qB):Prop where
 len:ws.length=L.length
 ok: ∀(c:Nat) wh b,ws[c]? =some wh->L[c]? =some b->X1 H ws wh b
 nodup:(sK ws).Nodup
theorem a1z: ∀(ws:List rV) (c:Nat),(sK ws)[c]? =(ws[c]?).map rV.id
 |[],c=>by simp [sK]
 |w::ws,0=>rfl
 |w::ws,c+1=>by simpa[sK] using a1z ws c
theorem JC: ∀ws ws':List rV,sK (ws++ws')=sK ws++sK ws'
 |[],_=>rfl
 |w::ws,ws'=>by simp [sK,JC ws ws']
theorem JD: ∀{i:Nat}{l:pQ},CD i l=true↔i∈l
 |i,[]=>by simp [CD]
 |i,j::r=>by
  simp only[CD,aVH];by_cases h:i=j
  .simp [h]
  .rw[aVv h,JD];simp [h]
theorem X4 {ws:List rV}(h:(sK ws).Nodup) {c c':Nat}{x y:rV}(hx:ws[c]? =some x) (hy:ws[c']? =some y) (he:x.id=y.id):c=c':=by
 have h1:(sK ws)[c]? =some x.id:=by rw[a1z,hx];rfl
 have h2:(sK ws)[c']? =some x.id:=by rw[a1z,hy,he];rfl
 obtain⟨l1,e1⟩:=aVK.1 h1;obtain⟨l2,e2⟩:=aVK.1 h2;have hp:=aWG.1 h;rcases Nat.lt_trichotomy c c' with h3|h3|h3
 .exact absurd (e1.trans e2.symm) (hp c c' l1 l2 h3)
 .exact h3
 .exact absurd (e2.trans e1.symm) (hp c' c l2 l1 h3)
theorem aC7: ∀{toks:pL}{q k:Nat},xX toks q=some k->(q,k)∈toks
 |[],_,_,h=>by simp [xX] at h
 |(q',k')::r,q,k,h=>by
  simp only[xX] at h;split at h
  .rename_i e;subst e;simp only[aVr] at h;subst h;simp
  .exact aVB _ (aC7 h)
theorem aMU {v t:Ty}: ∀{u:Ty}{x:u.den}{o q:Nat}{y:t.den}{l:(Ty.list v).den},rK t u x o=some y->rK (.list v) u x (o+q)=some l->q<t.cells->rK (.list v) t y q=some l:=by
 intro u
 induction u with
 |pair a b iha ihb=>
  intro x o q y l h g hq;by_cases hu:o=0/\t= .pair a b
  .obtain⟨rfl,rfl⟩:=hu;unfold rK at h;rw[aXz rfl] at h;simp only[v8,aVr] at h;subst h;simpa using g
  .have keyh:(if o<a.cells then rK t a x.1 o else rK t b x.2 (o-a.cells))=some y:=by
    cases o with
    |zero=>
     unfold rK at h;rw[aXb (fun e=>hu ⟨rfl,e.symm⟩)] at h;simpa using h
    |succ o=>simpa[rK] using h
   have keyg: ∀z,rK (.list v) (.pair a b) x z=(if z<a.cells then rK (.list v) a x.1 z else rK (.list v) b x.2 (z-a.cells)):=by
    intro z;cases z with
    |zero=>
     conv=>lhs;unfold rK
     rw[aXb (by intro e;cases e),Nat.zero_sub]
    |succ z=>simp [rK]
   rw[keyg] at g;by_cases ho:o<a.cells
   .rw[aVs ho] at keyh;have hfit:o+t.cells<=a.cells:=by
     have: ∀{u:Ty}{x:u.den}{o:Nat}{y:t.den},rK t u x o=some y->o+t.cells<=u.cells:=by
      intro u
      induction u with
      |pair a b iha ihb=>
       intro x o y h;have key: ∀o,(if o<a.cells then rK t a x.1 o else rK t b x.2 (o-a.cells))=some y->o+t.cells<=a.cells+b.cells:=by
        intro o h;by_cases ho:o<a.cells
        .rw[aVs ho] at h;have:=iha h;omega
        .rw[aVv ho] at h;have:=ihb h;omega
       cases o with
       |zero=>
        unfold rK at h;split at h
        .rename_i e;subst e;simp
        .exact key 0 (by simpa using h)
       |succ o=>exact key (o+1) (by simpa[rK] using h)
      |_=>
       intro x o y h;cases o with
       |zero=>
        unfold rK at h;split at h
        .rename_i e;subst e;simp
        .simp at h
       |succ o=>simp [rK] at h
     exact this keyh
    rw[aVs pG] at g;exact iha keyh g hq
   .rw[aVv ho] at keyh;rw[aVv pG,show o+q-a.cells=o-a.cells+q from by omega] at g;exact ihb keyh g hq
 |_=>
  intro x o q y l h g hq;cases o with
  |zero=>
   unfold rK at h;split at h
   .rename_i e;subst e;simp only[v8,aVr] at h
    try subst h
    simpa using g
   .simp at h
  |succ o=>simp [rK] at h
theorem aMV {g:Gh}{w:pR}{H:sE}{ws:List rV}{L:List qB}(hH:sL g w H) (hm:RK H ws L):sL (w5 g ws) w (qR 0 L):=by
 have wsL: ∀c b,qE (qR 0 L) c=some b->∃wh,ws[c]? =some wh/\X1 H ws wh b:=by
  intro c b h;rw[y4] at h;have hlt:c<ws.length:=hm.len▸(aVK.1 h).1;exact⟨ws[c],aVF hlt,hm.ok c _ b (aVF hlt) h⟩
 have own: ∀c b wh,ws[c]? =some wh->X1 H ws wh b->∀bb oo,sG (w5 g ws) c b bb oo->∃blk,qE H wh.id=some blk/\sG g wh.id blk bb oo:=by
  intro c b wh hwh hw bb oo ho;cases wh with
  |box i u x toks off=>
   cases b with
   |cells t y ts=>
    obtain⟨h1,⟨y0,h2,h3⟩,h4⟩:=hw;obtain⟨p,hp,e1,e2,e3⟩:=ho;have hp':wZ g ws[c]? =some p:=hp;rw[hwh] at hp';obtain⟨p0,hp0,rfl⟩:=aVA.1 hp';obtain⟨p1,cs,hp1,hR,_⟩:=hH.blk i _ h1;obtain⟨c1,c2,c3,hcs,hl,hR2⟩:=EH hR h2;have l1:=t7 hR;have l2:=t7 hR2;rw[hcs] at l1;simp only[aVu] at l1;exact⟨_,h1,p0,hp0,e1,by simp at e2;omega,by simp at e3;omega⟩
   |_=>exact hw.elim
  |tok k=>
   cases b with
   |grow e cc m=>
    obtain⟨v,hv,hb⟩:=ho;have hv':BS g ws[c]? m=some v:=hv;rw[hwh] at hv';exact⟨_,hw,v,hv',hb⟩
   |map s t l=>
    obtain⟨p,hp,hb⟩:=ho;have hp':wZ g ws[c]? =some p:=hp;rw[hwh] at hp';exact⟨_,hw.1,p,hp',hb⟩
   |row e t l m=>
    obtain⟨v,hv,hb⟩:=ho;have hv':BS g ws[c]? m=some v:=hv;rw[hwh] at hv';exact⟨_,hw.1,v,hv',hb⟩
   |_=>exact hw.elim
 refine⟨fun c b h=> ?_,fun c c' b b' bb oo hne h1 h2 o1 o2=> ?_,hH.sl,hH.tab.1,fun c b bb oo h ho=> ?_⟩
 rotate_right
 .obtain⟨wh,hwh,hw⟩:=wsL c b h;obtain⟨k1,g1,p1⟩:=own c b wh hwh hw bb oo ho;exact hH.tab.2 _ _ bb oo g1 p1
 .obtain⟨wh,hwh,hw⟩:=wsL c b h;cases wh with
  |box i u x toks off=>
   cases b with
   |cells t y ts=>
    obtain⟨h1,⟨y0,h2,h3⟩,h4⟩:=hw;obtain⟨p,cs,hp,hR,hra,hth,hns,htk⟩:=hH.blk i _ h1;obtain⟨c1,c2,c3,rfl,rfl,hR2⟩:=EH hR h2;have l1:=t7 hR;have l2:=t7 hR2;simp only[aVu] at l1;refine⟨⟨p.1,p.2+c1.length,p.3⟩,c2,?_,aMS h3 hR2,fun j v hv=> ?_,⟨fun j hj=> ?_,fun h0 s hs=>hth.2 pG s hs⟩,fun j hj hs=> ?_,fun q n hm'=> ?_⟩
    .show wZ g ws[c]? =_;rw[hwh];simp [wZ,hp]
    .have:=hra (c1.length+j) v (by
      have hj':=(aVK.1 hv).1;rw[aVy,aVI pG,aWo,aVN hj'];exact hv)
     rw[aWc];exact this
    .have:=hth.1 (c1.length+j) pG;rw[aWc];exact this
    .exact hns (c1.length+j) pG (by rw[<-aWc];exact hs)
    .obtain⟨k,k1,k2,k3⟩:=h4 q n hm';have hmem:(c1.length+q,k)∈toks:=aC7 k2;obtain⟨u',l,v,g1,g2,g3⟩:=htk _ _ hmem;refine⟨u',l,v,aMT h3 (aMU h2 g1 k3),?_,?_⟩
     .rw[aVy,aVI pG,aWo,aVN pG] at g2;exact g2
     .show BS g ws[n]? _=_;rw[k1];exact g3
   |_=>exact hw.elim
  |tok k=>
   cases b with
   |grow e cc m=>
    have e1:(w5 g ws).cur c=g.cur k:=by
     funext n;show BS g ws[c]? n=_;rw[hwh];rfl
    obtain⟨v,xs,hv,hr,hn,hs⟩:=hH.blk k _ hw;exact⟨v,xs,by rw[e1];exact hv,hr,fun m hm'=>by rw[e1];exact hn m hm',hs⟩
   |map s t l=>
    obtain⟨p,es,cl,hp,hp0,hh,hM,hS⟩:=hH.blk k _ hw.1;refine⟨p,es,cl,?_,hp0,hh,R7 (g:=g) (g':=w5 g ws) rfl hw.2.1 hw.2.2 hM,hS⟩;show wZ g ws[c]? =_;rw[hwh];exact hp
   |row e t l m=>
    have e1:(w5 g ws).cur c=g.cur k:=by
     funext n;show BS g ws[c]? n=_;rw[hwh];rfl
    obtain⟨hl,v,xs,hv,hr,hF,hn,hs⟩:=hH.blk k _ hw.1;exact⟨hl,v,xs,by rw[e1];exact hv,hr,DF (fun _ _ h=>wN (g:=g) (g':=w5 g ws) rfl hw.2 h) hF,fun m hm'=>by rw[e1];exact hn m hm',hs⟩
   |_=>exact hw.elim
 .obtain⟨wh,hwh,hw⟩:=wsL c b h1;obtain⟨wh',hwh',hw'⟩:=wsL c' b' h2;obtain⟨k1,g1,p1⟩:=own c b wh hwh hw bb oo o1;obtain⟨k2,g2,p2⟩:=own c' b' wh' hwh' hw' bb oo o2;exact hH.dis wh.id wh'.id k1 k2 bb oo (fun e=>hne (X4 hm.nodup hwh hwh' e)) g1 g2 p1 p2
theorem aC8 {H:sE}{ws more:List rV}: ∀{wh:rV}{b:qB},X0 H ws wh b->X0 H (ws++more) wh b
 | .box _ _ _ _ _,.cells _ _ _,⟨h1,h2,h4⟩=>⟨h1,h2,fun q n h=>let ⟨k,k1,k2⟩:=h4 q n h;⟨k,by rw[aVN (aVK.1 k1).1];exact k1,k2⟩⟩
 | .box _ _ _ _ _,.grow _ _ _,h=>h.elim
 | .box _ _ _ _ _,.dead,h=>h.elim
 | .box _ _ _ _ _,.row _ _ _ _,h=>h.elim
 | .box _ _ _ _ _,.map _ _ _,h=>h.elim
 | .box _ _ _ _ _,.iter _ _,h=>h.elim
 | .tok _,.iter _ _,h=>h.elim
 | .tok _,.row _ _ _ _,h=>h
 | .tok _,.grow _ _ _,h=>h
 | .tok _,.map _ _ _,h=>h
 | .tok _,.cells _ _ _,h=>h.elim
 | .tok _,.dead,h=>h.elim
theorem O6 (g:Gh) (w:pR) (ws more:List rV):Le (w5 g ws) w (w5 g (ws++more)) w:=by
 refine⟨fun _ _ h=>h,fun _ _ _=>rfl,fun c p h=> ?_,fun c n v h=> ?_⟩
 .have h':wZ g ws[c]? =some p:=h;show wZ g (ws++more)[c]? =some p;cases hc:ws[c]? with
  |none=>rw[hc] at h';cases h'
  |some wh=>rw[aVN (aVK.1 hc).1];exact h'
 .have h':BS g ws[c]? n=some v:=h;show BS g (ws++more)[c]? n=some v;cases hc:ws[c]? with
  |none=>rw[hc] at h';cases h'
  |some wh=>rw[aVN (aVK.1 hc).1];exact h'
theorem O7 {g g':Gh}{w w':pR}(h:Le g w g' w'): ∀{ss:List qC}{vs:pN},vS g w ss vs->vS g' w' ss vs
 |[],_,r=>r
 |_::_,_,⟨v,vs',e,r1,r2⟩=>⟨v,vs',e,DE h r1,O7 h r2⟩
theorem HG {g:Gh}{w:pR}: ∀{ss:List qC}{vs:pN}{s:qC}{v:pS},vS g w ss vs->rX g w s v->vS g w (ss++[s]) (vs++[v])
 |[],_,_,_,h,k=>by rw[show _=[] from h];exact⟨_,_,rfl,k,rfl⟩
 |_::_,_,_,_,⟨v,vs',e,r1,r2⟩,k=>⟨v,vs'++_,by rw[e];rfl,r1,HG r2 k⟩
theorem HF.tok {H:sE}{ws:List rV}{L:List qB}(h:HF H ws L) {k:Nat}{b0:qB}(hk:X0 H (ws++[.tok k]) (.tok k) b0) (hn:k∉sK ws):HF H (ws++[.tok k]) (L++[b0]):=by
 refine⟨by simp [h.len],fun i wh b h1 h2=> ?_,?_⟩
 .by_cases hi:i<ws.length
  .rw[aVN hi] at h1;rw[aVN (h.len▸hi)] at h2;exact aC8 (h.ok i wh b h1 h2)
  .rw[aVI pG] at h1;rw[aVI (by rw[<-h.len];omega),<-h.len] at h2;obtain⟨d,hd⟩: ∃d,i-ws.length=d:=⟨_,rfl⟩;rw[hd] at h1 h2;cases d with
   |zero=>
    simp only[aV1,aVr] at h1 h2;subst h1;subst h2;exact hk
   |succ d=>simp at h1
 .rw[JC];exact List.nodup_append.2 ⟨h.nodup,by simp [sK],fun a ha b hb=>by
   simp only[sK,rV.id,aVJ] at hb;subst hb;intro e;exact hn (e▸ha)⟩
theorem aC9: ∀{os:pQ}{n q m:Nat},(q,m)∈L2 os n->∃j:Nat,os[j]? =some q/\m=n+j
 |[],_,_,_,h=>by simp [L2] at h
 |q'::os,n,q,m,h=>by
  simp only[L2,aVH,aV0] at h;rcases h with⟨rfl,rfl⟩ |h
  .exact⟨0,rfl,rfl⟩
  .obtain⟨j,h1,h2⟩:=aC9 h;exact⟨j+1,by simpa using h1,pG⟩
theorem aDa {n:Nat}: ∀{os:pQ}{j q:Nat},NF n os=true->os[j]? =some q->q<n
 |[],_,_,_,h=>by simp at h
 |q'::os,0,q,h,h2=>by
  simp only[NF,aVG,aVE] at h;simp only[aV1,aVr] at h2;exact h2▸h.1
 |q'::os,j+1,q,h,h2=>by
  simp only[NF,aVG] at h;exact aDa h.2 (by simpa using h2)
theorem X5 {H:sE}{toks:pL}{o:Nat}: ∀{os:pQ}{a a':tD},zE H toks o os (some a)=some a'->
  ∃(ks:pQ) (bs:List qB),ks.length=os.length/\bs.length=os.length/\a'.args=a.args/\a'.H.reverse=a.H.reverse++bs/\a'.ws.reverse=a.ws.reverse++ks.map rV.tok/\a'.n=a.n+os.length/\
   (∀(j:Nat) q k,os[j]? =some q->ks[j]? =some k->xX toks (o+q)=some k)/\(∀(j:Nat) k b,ks[j]? =some k->bs[j]? =some b->qE H k=some b/\∃e c m,b= .grow e c m)/\(∀k∈ks,k∉sK a.ws.reverse)/\ks.Nodup
 |[],a,a',h=>by
  simp only[zE,aVr] at h;subst h;exact⟨[],[],rfl,rfl,rfl,by simp,by simp,rfl,by simp,by simp,by simp,by simp⟩
 |q::os,a,a',h=>by
  simp only[zE] at h;have none_no: ∀os,zE H toks o os none=none:=by
   intro os
   induction os with
   |nil=>rfl
   |cons q os ih=>
    have:A0 H (xX toks (o+q)) none=none:=by
     cases xX toks (o+q) with
     |none=>rfl
     |some k=>simp only[A0];cases qE H k with
      |none=>rfl
      |some b=>cases b<;>rfl
    simp only[zE,this,ih]
  cases hk:xX toks (o+q) with
  |none=>rw[hk] at h;simp only[A0,none_no] at h;cases h
  |some k=>
   rw[hk] at h;simp only[A0] at h;cases hb:qE H k with
   |none=>rw[hb] at h;simp only[CE,none_no] at h;cases h
   |some b=>
    rw[hb] at h;cases b with
    |grow e c m=>
     simp only[CE] at h;by_cases hm:CD k (sK a.ws)=true
     .rw[aVs hm,none_no] at h;cases h
     .rw[aVv hm] at h;obtain⟨ks,bs,h1,h2,h3,h4,h5,h6,h7,h8,h9,h10⟩:=X5 h;simp only[aWg] at h4 h5 h9;have hrev: ∀ws:List rV,∀i,i∈sK ws.reverse↔i∈sK ws:=by
       intro ws i
       induction ws with
       |nil=>simp
       |cons x r ih=>rw[aWg,JC];simp [sK,ih,or_comm]
      refine⟨k::ks,.grow e c m::bs,by simp [h1],by simp [h2],h3,by rw[h4];simp,by rw[h5];simp,by rw[h6];simp;omega,fun j q' k'=> ?_,fun j k' b'=> ?_,fun k' hk'=> ?_,?_⟩
      .cases j with
       |zero=>intro e1 e2;simp only[aV1,aVr] at e1 e2;subst e1;subst e2;exact hk
       |succ j=>intro e1 e2;exact h7 j q' k' (by simpa using e1) (by simpa using e2)
      .cases j with
       |zero=>intro e1 e2;simp only[aV1,aVr] at e1 e2;subst e1;subst e2;exact⟨hb,_,_,_,rfl⟩
       |succ j=>intro e1 e2;exact h8 j k' b' (by simpa using e1) (by simpa using e2)
      .rcases aVH.1 hk' with rfl|hk'
       .rw[hrev];exact fun hmem=>hm (JD.2 hmem)
       .intro hmem;exact h9 k' hk' (by rw[JC];exact List.mem_append_left _ hmem)
      .refine List.nodup_cons.2 ⟨fun hmem=>h9 k hmem (by rw[JC];simp [sK,rV.id]),h10⟩
    |cells t y ts=>simp only[CE,none_no] at h;cases h
    |row=>simp only[CE,none_no] at h;cases h
    |map=>simp only[CE,none_no] at h;cases h
    |iter=>simp only[CE,none_no] at h;cases h
    |dead=>simp only[CE,none_no] at h;cases h
theorem aDb: ∀ks:pQ,sK (ks.map rV.tok)=ks
 |[]=>rfl
 |k::ks=>by simp [sK,rV.id,aDb ks]
theorem HF.box {H:sE}{ws:List rV}{L:List qB}(h:HF H ws L) {t u:Ty}{x:u.den}{y:t.den}{toks:pL}{i o:Nat}{os ks:pQ}{bs:List qB}(hi:qE H i=some (.cells u x toks)) (hy:rK t u x o=some y) (hlt:NF t.cells os=true) (hn:i∉sK ws)
  (h1:ks.length=os.length) (h2:bs.length=os.length) (h7: ∀(j:Nat) q k,os[j]? =some q->ks[j]? =some k->xX toks (o+q)=some k) (h8: ∀(j:Nat) k b,ks[j]? =some k->bs[j]? =some b->qE H k=some b/\∃e c m,b= .grow e c m) (h9: ∀k∈ks,k∉sK (ws++[.box i u x toks o])) (h10:ks.Nodup):
  HF H ((ws++[.box i u x toks o])++ks.map rV.tok) ((L++[.cells t y (L2 os (ws.length+1))])++bs):=by
 have hlen1:(ws++[rV.box i u x toks o]).length=ws.length+1:=by simp
 have hlen2:(L++[qB.cells t y (L2 os (ws.length+1))]).length=ws.length+1:=by simp [h.len]
 refine⟨by simp [h.len,h1,h2],fun c wh b e1 e2=> ?_,?_⟩
 .by_cases hc:c<ws.length
  .rw[aVN pG,aVN hc] at e1;rw[aVN pG,aVN (h.len▸hc)] at e2;rw[aVy];exact aC8 (h.ok c wh b e1 e2)
  .by_cases hc2:c=ws.length
   .subst hc2;rw[aVN pG,aVI (aVR _),aXy] at e1;rw[aVN pG,aVI (by rw[h.len];exact aVR _),h.len,aXy] at e2;simp only[aV1,aVr] at e1 e2;subst e1;subst e2;refine⟨hi,hy,fun q n hm=> ?_⟩;rw[<-h.len] at hm;obtain⟨j,hj,rfl⟩:=aC9 hm;have hjl:j<ks.length:=by rw[h1];exact(aVK.1 hj).1
    refine⟨ks[j],?_,h7 j q _ hj (aVF hjl),aDa hlt hj⟩;rw[aVI pG,hlen1,show ws.length+1+j- (ws.length+1)=j from by omega];simp [hjl]
   .rw[aVI pG,hlen1] at e1;rw[aVI pG,hlen2] at e2;rw[List.getElem?_map] at e1;obtain⟨k,hk,rfl⟩:=aVA.1 e1;obtain⟨hg,e,cc,m,rfl⟩:=h8 _ k b hk e2;exact hg
 .rw[JC,aDb];refine List.nodup_append.2 ⟨?_,h10,fun a ha b hb e=>h9 b hb (e▸ha)⟩;rw[JC];exact List.nodup_append.2 ⟨h.nodup,by simp [sK],fun a ha b hb=>by
   simp only[sK,rV.id,aVJ] at hb;subst hb;intro e;exact hn (e▸ha)⟩
theorem X6 (ws:List rV) (i:Nat):i∈sK ws.reverse↔i∈sK ws:=by
 induction ws with
 |nil=>simp
 |cons x r ih=>rw[aWg,JC];simp [sK,ih,or_comm]
structure BT (g:Gh) (w:pR) (H:sE) (vals:pN) (a:tD):Prop where
 n:a.n=a.ws.reverse.length
 m:HF H a.ws.reverse a.H.reverse
 args:vS (w5 g a.ws.reverse) w a.args.reverse vals
theorem aMW {g:Gh}{w:pR}{ws:List rV}{t:Ty}(hp:t.pure=true) {x:t.den}{v:pS}{k:pP}(h:rX g w (.val t x,k) v):rX (w5 g ws) w (.val t x,none) v:=
 ⟨h.1.imp (fun⟨a,cs,e,q⟩=>⟨a,cs,e,wN (g:=g) (g':=w5 g ws) rfl hp q⟩) (fun⟨a,q⟩=>⟨a,wN (g:=g) (g':=w5 g ws) rfl hp q⟩),trivial⟩
theorem aMX {H:sE}{k:pP}{a b:tD}{l m:List qC}(h:A0 H k (some ⟨l,a.H,a.ws,a.n⟩)=some b):b.args=l/\A0 H k (some ⟨m,a.H,a.ws,a.n⟩)=some ⟨m,b.H,b.ws,b.n⟩:=by
 cases k with
 |none=>cases h
 |some k=>
  simp only[A0] at h|-;cases hb:qE H k with
  |none=>rw[hb] at h;simp [CE] at h
  |some bl=>
   rw[hb] at h;cases bl with
   |grow e c n=>
    simp only[CE] at h|-;split at h
    .cases h
    .rename_i hc;rw[aVv hc];cases h;exact⟨rfl,rfl⟩
   |_=>simp [CE] at h
theorem aDc {H:sE}{toks:pL}{o:Nat}{m:List qC}: ∀{os:pQ}{a b:tD},zE H toks o os (some a)=some b->b.args=a.args/\zE H toks o os (some ⟨m,a.H,a.ws,a.n⟩)=some ⟨m,b.H,b.ws,b.n⟩
 |[],a,b,h=>by simp only[zE,aVr] at h;subst h;exact⟨rfl,rfl⟩
 |q::os,a,b,h=>by
  simp only[zE] at h|-;have none_no: ∀os,zE H toks o os none=none:=by
   intro os
   induction os with
   |nil=>rfl
   |cons q os ih=>
    have:A0 H (xX toks (o+q)) none=none:=by
     cases xX toks (o+q) with
     |none=>rfl
     |some k=>simp only[A0];cases qE H k with
      |none=>rfl
      |some b=>cases b<;>rfl
    simp only[zE,this,ih]
  cases hm:A0 H (xX toks (o+q)) (some a) with
  |none=>rw[hm,none_no] at h;cases h
  |some c=>
   rw[hm] at h;obtain⟨h1,h2⟩:=aMX (a:=a) (l:=a.args) (m:=m) hm;obtain⟨h3,h4⟩:=aDc (m:=m) h;rw[h2];exact⟨h3.trans h1,h4⟩
theorem aMY {H:sE}{t:Ty}{os:pQ}{i o:Nat}{a b:tD}{m:List qC}(h:wM H t os i o a (qE H i)=some b):wM H t os i o ⟨m,a.H,a.ws,a.n⟩ (qE H i)=some ⟨(.val .ref (some (a.n,0)),none)::m,b.H,b.ws,b.n⟩:=by
 cases hb:qE H i with
 |none=>rw[hb] at h;simp [wM] at h
 |some bl=>
  rw[hb] at h;cases bl with
  |cells u x toks=>
   simp only[wM] at h|-;cases hy:rK t u x o with
   |none=>rw[hy] at h;simp [FR] at h
   |some y=>
    rw[hy] at h;simp only[FR] at h|-;split at h
    .rename_i hc;rw[aVs hc];exact(aDc (m:=(.val .ref (some (a.n,0)),none)::m) h).2
    .cases h
  |_=>simp [wM] at h
theorem aDd {g:Gh}{i o:Nat}{p:Pl}{v:pS}: ∀{l:pL}{vs:pN},yU g l vs->g.J i=some p->v= .pointer (some ⟨p.1,p.2+o,none⟩)->yU g (l++[(i,o)]) (vs++[v])
 |[],vs,h,hp,hv=>by rw[show vs=[] from h];exact⟨p,[],hp,by rw[hv];rfl,rfl⟩
 |(_,_)::l,vs,⟨q,vs',h1,h2,h3⟩,hp,hv=>⟨q,vs'++[v],h1,by rw[h2];rfl,aDd h3 hp hv⟩
theorem aDe {α:Type}: ∀(l acc:List α),zZ l acc=l.reverse++acc
 |[],_=>rfl
 |x::l,acc=>by simp [zZ,aDe l]
theorem aDf {g:Gh}{w:pR}{H:sE}(hH:sL g w H) {t:Ty}{os:pQ}{i o:Nat}{vals:pN}{a a':tD}(ha:BT g w H vals a) {p:Pl}(hp:g.J i=some p) (h:wM H t os i o a (qE H i)=some a'):
  BT g w H vals ⟨a.args,a'.H,a'.ws,a'.n⟩/\∃more,a'.ws.reverse=a.ws.reverse++more/\a'.args=(.val .ref (some (a.n,0)),none)::a.args/\(w5 g a'.ws.reverse).J a.n=some ⟨p.1,p.2+o,p.3⟩:=by
 cases hb:qE H i with
 |none=>rw[hb] at h;simp [wM] at h
 |some b=>
  rw[hb] at h;cases b with
  |cells u x toks=>
   simp only[wM] at h;cases hy:rK t u x o with
   |none=>rw[hy] at h;simp [FR] at h
   |some y=>
    rw[hy] at h;simp only[FR] at h;split at h
    .rename_i hc;simp only[aVG,aVV] at hc;obtain⟨ks,bs,h1,h2,h3,h4,h5,h6,h7,h8,h9,h10⟩:=X5 h;simp only[aWg] at h3 h4 h5 h6 h9;have hnm:i∉sK a.ws.reverse:=fun hmem=>by
      have:=JD.2 ((X6 _ _).1 hmem);rw[hc.2] at this;cases this
     have e5:a'.ws.reverse=a.ws.reverse++([rV.box i u x toks o]++ks.map rV.tok):=by rw[h5];simp only[aVy]
     refine⟨⟨by rw[h6];simp only;rw[h5,ha.n];simp [h1];omega,?_,?_⟩,_,e5,h3,?_⟩
     .simp only;rw[h4,h5,ha.n];exact ha.m.box hb hy hc.1 hnm h1 h2 h7 h8 h9 h10
     .simp only;rw[e5];exact O7 (O6 g w _ _) ha.args
     .show wZ g a'.ws.reverse[a.n]? =_;rw[e5,ha.n,aVI (aVR _),aXy];show (g.J i).map _=_;rw[hp];rfl
    .cases h
  |grow=>simp [wM] at h
  |row=>simp [wM] at h
  |map=>simp [wM] at h
  |iter=>simp [wM] at h
  |dead=>simp [wM] at h
theorem aDg {H:sE}{f:FuncId}{args0:List qC}: ∀{ks:List (Ty×pQ)}{cs ids:pL}{a a':tD},yF H f args0 ks cs ids (some a)=some a'->∃s more,a'.args=s::args0/\a'.ws.reverse=a.ws.reverse++more
 |[],[],ids,a,a',h=>by
  simp only[yF,aVr] at h;subst h;exact⟨_,[],rfl,by simp⟩
 |[],_::_,_,_,_,h=>by simp [yF] at h
 |_::_,[],_,_,_,h=>by simp [yF] at h
 |(t,os)::ks,(i,o)::cs,ids,a,a',h=>by
  simp only[yF] at h;cases hb:wM H t os i o a (qE H i) with
  |none=>rw[hb] at h;cases ks<;>cases cs<;>simp [yF] at h
  |some b=>
   rw[hb] at h;obtain⟨s,more,h1,h2⟩:=aDg h;obtain⟨more0,h3⟩: ∃more0,b.ws.reverse=a.ws.reverse++more0:=by
    unfold wM at hb;split at hb
    .unfold FR at hb;split at hb
     .split at hb
      .obtain⟨ks,bs,_,_,_,_,h5,_⟩:=X5 hb;exact⟨_,by rw[h5];simp only[aWg];exact aVy ..⟩
      .cases hb
     .cases hb
    .cases hb
   exact⟨s,more0++more,h1,by rw[h2,h3,aVy]⟩
theorem aDh {g:Gh}{w:pR}{H:sE}(hH:sL g w H) {f:FuncId}{args0:List qC}{vals:pN}: ∀{ks:List (Ty×pQ)}{cs:pL}{ids:pL}{vs us:pN}{a a':tD},BT g w H vals ⟨args0,a.H,a.ws,a.n⟩->
  yU g cs vs->yU (w5 g a.ws.reverse) ids.reverse us->yF H f args0 ks cs ids (some a)=some a'->
  BT g w H vals ⟨args0,a'.H,a'.ws,a'.n⟩/\∃ids',a'.args=(.val .clo (some (f,ids')),none)::args0/\(∃more,a'.ws.reverse=a.ws.reverse++more)/\yU (w5 g a'.ws.reverse) ids' (us++vs)
 |[],[],ids,vs,us,a,a',ha,hv,hu,h=>by
  simp only[yF,aDe,List.append_nil,aVr] at h;subst h;rw[show vs=[] from hv,List.append_nil];exact⟨ha,_,rfl,⟨[],by simp⟩,hu⟩
 |[],_::_,_,_,_,_,_,_,_,_,h=>by simp [yF] at h
 |_::_,[],_,_,_,_,_,_,_,_,h=>by simp [yF] at h
 |(t,os)::ks,(i,o)::cs,ids,vs,us,a,a',ha,⟨p,vs',hp,hv1,hv2⟩,hu,h=>by
  simp only[yF] at h;cases hb:wM H t os i o a (qE H i) with
  |none=>rw[hb] at h;cases ks<;>cases cs<;>simp [yF] at h
  |some b=>
   rw[hb] at h;have hb':wM H t os i o ⟨args0,a.H,a.ws,a.n⟩ (qE H i)=some ⟨(.val .ref (some (a.n,0)),none)::args0,b.H,b.ws,b.n⟩:=aMY hb;obtain⟨q1,more,q2,q3,q4⟩:=aDf hH ha hp hb';simp only at q1 q2 q3 q4;have hmono:=O6 g w a.ws.reverse more;rw[<-q2] at hmono;have hu2:yU (w5 g b.ws.reverse) ((a.n,0)::ids).reverse (us++[.pointer (some ⟨p.1,p.2+o,none⟩)]):=by
    simp only[aWg];exact aDd (a02 hmono.J hu) q4 pI
   obtain⟨z1,ids',z2,⟨more',z3⟩,z4⟩:=aDh hH (a:=b) q1 hv2 hu2 h;refine⟨z1,ids',z2,⟨more++more',by rw[z3,q2,aVy]⟩,?_⟩;rw[hv1];rw[aVy] at z4;exact z4
theorem aDi {g:Gh}{w:pR}{H:sE}(hH:sL g w H) {p:PK}{s:qC}{v:pS}{vals:pN}{a a':tD}(ha:BT g w H vals a) (hs:rX g w s v) (h:yS H a p s=some a'):BT g w H (vals++[v]) a':=by
 unfold yS at h;split at h
 .rename_i f k;simp only[V6,aVr] at h;subst h;refine⟨ha.n,ha.m,?_⟩;simp only[aWg];refine HG ha.args ⟨?_,trivial⟩;rcases hs.1 with⟨h1,_⟩ |⟨h1,vs,h2,h3⟩
  .cases h1
  .rw[show vs=[] from h2] at h3;exact .inr ⟨rfl,[],rfl,h3⟩
 .rename_i t x k _;simp only[V5] at h;split at h
  .rename_i hp;simp only[aVr] at h;subst h;refine⟨ha.n,ha.m,?_⟩;simp only[aWg];exact HG ha.args (aMW hp hs)
  .cases h
 .simp only[V7,aVr] at h;subst h;refine⟨ha.n,ha.m,?_⟩;simp only[aWg];exact HG ha.args ⟨hs.1,trivial⟩
 .rename_i t x k;cases hb:qE H k with
  |none=>rw[hb] at h;simp [CF] at h
  |some b=>
   rw[hb] at h;cases b with
   |grow e c m=>
    simp only[CF] at h;split at h
    .rename_i hc;simp only[aVG,aVV] at hc;simp only[aVr] at h;subst h;have hnm:k∉sK a.ws.reverse:=fun hmem=>by
      have:=JD.2 ((X6 _ _).1 hmem);rw[hc.2] at this;cases this
     refine⟨by simp [ha.n],by simpa using ha.m.tok (b0:= .grow e c m) hb hnm,?_⟩;simp only[aWg];refine HG (O7 (O6 g w _ _) ha.args) (WZ (g:=g) (g':=w5 g (a.ws.reverse++[.tok k])) (k':=some a.n) rfl hc.1 (fun _ _=>⟨_,rfl⟩) hs (fun c' e1=> ?_) (fun e1=>by cases e1));cases e1;refine⟨_,rfl,fun n u hu=> ?_⟩;show BS g (a.ws.reverse++[rV.tok k])[a.n]? n=some u;rw[ha.n,aVI (aVR _),aXy];exact hu
    .cases h
   |cells=>simp [CF] at h
   |row=>simp [CF] at h
   |map=>simp [CF] at h
   |iter=>simp [CF] at h
   |dead=>simp [CF] at h
 .rename_i t os i o k;obtain⟨p,hp,hv⟩:=A6 hs.1;obtain⟨h1,more,h2,h3,h4⟩:=aDf hH ha hp h;refine⟨h1.n,h1.m,?_⟩;rw[h3];simp only[aWg];exact HG h1.args ⟨.inr ⟨rfl,_,h4,by rw[hv];rfl⟩,trivial⟩
 .rename_i i k;cases hb:qE H i with
  |none=>rw[hb] at h;simp [CG] at h
  |some b=>
   rw[hb] at h;cases b with
   |map s t l=>
    simp only[CG] at h;split at h
    .rename_i hc;simp only[aVG,aVV] at hc;simp only[aVr] at h;subst h;have hnm:i∉sK a.ws.reverse:=fun hmem=>by
      have:=JD.2 ((X6 _ _).1 hmem);rw[hc.2] at this;cases this
     refine⟨by simp [ha.n],by simpa using ha.m.tok (b0:= .map s t l) ⟨hb,hc.1.1,hc.1.2⟩ hnm,?_⟩;simp only[aWg];obtain⟨p,hp,hv⟩: ∃p,g.J i=some p/\v= .map (some p.1):=by
      obtain⟨p,h1,e⟩:=B9 rfl hs.1;simp only[aWp,and_true] at e;exact⟨p,h1,e⟩
     refine HG (O7 (O6 g w _ _) ha.args) ⟨.inr ⟨rfl,p,?_,by rw[hv]⟩,trivial⟩;show wZ g (a.ws.reverse++[rV.tok i])[a.n]? =_;rw[ha.n,aVI (aVR _),aXy];exact hp
    .cases h
   |cells=>simp [CG] at h
   |row=>simp [CG] at h
   |grow=>simp [CG] at h
   |iter=>simp [CG] at h
   |dead=>simp [CG] at h
 .rename_i k n k';cases hb:qE H k with
  |none=>rw[hb] at h;simp [CH] at h
  |some b=>
   rw[hb] at h;cases b with
   |row e t l m=>
    simp only[CH] at h;split at h
    .rename_i hc;simp only[aVG,aVV] at hc;simp only[aVr] at h;subst h;have hnm:k∉sK a.ws.reverse:=fun hmem=>by
      have:=JD.2 ((X6 _ _).1 hmem);rw[hc.2] at this;cases this
     refine⟨by simp [ha.n],by simpa using ha.m.tok (b0:= .row e t l m) ⟨hb,hc.1⟩ hnm,?_⟩;simp only[aWg];obtain⟨h1,h2⟩:=hs.1;refine HG (O7 (O6 g w _ _) ha.args) ⟨⟨?_,h2⟩,trivial⟩;show BS g (a.ws.reverse++[rV.tok k])[a.n]? n=_;rw[ha.n,aVI (aVR _),aXy];exact h1
    .cases h
   |cells=>simp [CH] at h
   |grow=>simp [CH] at h
   |map=>simp [CH] at h
   |iter=>simp [CH] at h
   |dead=>simp [CH] at h
 .rename_i ks f cs k';obtain⟨vs,hv1,hv2⟩: ∃vs,yU g cs vs/\v= .func (.func f) #[] vs.toArray:=by
   rcases hs.1 with⟨h1,_⟩ |⟨_,vs,h2,h3⟩
   .cases h1
   .simp only[aWp,and_true] at h3;exact⟨vs,h2,h3⟩
  obtain⟨z1,ids',z2,_,z4⟩:=aDh hH (ids:=[]) (a:=a) (us:=[]) ha hv1 rfl h;refine⟨z1.n,z1.m,?_⟩;rw[z2];simp only[aWg];exact HG z1.args ⟨.inr ⟨rfl,vs,by simpa using z4,by rw[hv2]⟩,trivial⟩
 .cases h
theorem aDj {g:Gh}{w:pR}{H:sE}(hH:sL g w H): ∀{ps:List PK}{ss:List qC}{vs vals:pN}{a a':tD},BT g w H vals a->vS g w ss vs->yG H ps ss (some a)=some a'->BT g w H (vals++vs) a'
 |[],[],vs,vals,a,a',ha,hs,h=>by
  simp only[yG,aVr] at h;subst h;rw[show vs=[] from hs,List.append_nil];exact ha
 |p::ps,s::ss,vs,vals,a,a',ha,⟨v,vs',e,h1,h2⟩,h=>by
  simp only[yG] at h;cases ho:yS H a p s with
  |none=>rw[ho] at h;cases ps<;>cases ss<;>simp [yG] at h
  |some a1=>
   rw[ho] at h;have:=aDj hH (aDi hH ha h1 ho) h2 h;rw[e];simpa using this
 |[],_::_,_,_,_,_,_,_,h=>by simp [yG] at h
 |_::_,[],_,_,_,_,_,_,h=>by simp [yG] at h
theorem BT.nil (g:Gh) (w:pR) (H:sE):BT g w H [] ⟨[],[],[],0⟩:=
 ⟨rfl,⟨rfl,fun c wh b h _=>by simp at h,by simp [sK]⟩,rfl⟩
theorem aDk: ∀(l:List qB) (n:Nat),IY l n=l[n]?
 |[],_=>by simp [IY]
 |_::_,0=>rfl
 |_::r,n+1=>by simpa[IY] using aDk r n
theorem aMZ {g:Gh}{w:pR}: ∀{t:Ty}{x:t.den}{cs:pN}{o:Nat}{y:pO},Rd g w t x cs->H4 t x o=some y->∃cs',FV g y cs':=by
 intro t
 induction t with
 |pair a b iha ihb=>
  intro x cs o y r h;obtain⟨c1,c2,_,r1,r2⟩:=r;simp only[H4] at h;split at h
  .exact iha r1 h
  .exact ihb r2 h
 |rl e u=>
  intro x cs o y r h;cases o with
  |zero=>simp only[H4,aVr] at h;subst h;exact⟨cs,r⟩
  |succ o=>simp [H4] at h
 |_=>intro x cs o y r h;cases o<;>simp [H4] at h
theorem aM0 {g:Gh}{w:pR}{H:sE}(hH:sL g w H) {vals:pN}{a:tD}(ha:BT g w H vals a) (c q:Nat) (pk:PK): ∃v,rX g w (L3 q pk (IY a.H c)) v:=by
 rw[aDk];have any: ∃v,rX g w (.any,none) v:=⟨undef,trivial,trivial⟩;cases hb:a.H[c]? with
 |none=>cases pk<;>exact any
 |some b=>
  cases b with
  |cells t y ts=>
   have hlt:c<a.H.length:=(aVK.1 hb).1;have hb':a.H.reverse[a.H.length-1-c]? =some (.cells t y ts):=by
    rw[List.getElem?_reverse pG,show a.H.length-1- (a.H.length-1-c)=c by omega];exact hb
   obtain⟨wh,hwh⟩: ∃wh,a.ws.reverse[a.H.length-1-c]? =some wh:=by
    have hl:=ha.m.len;simp only[List.length_reverse] at hl;exact⟨_,aVF (by rw[List.length_reverse];omega)⟩
   have hw:=ha.m.ok _ wh _ hwh hb';cases wh with
   |tok k=>exact hw.elim
   |box i u x toks off=>
    obtain⟨h1,h2,_⟩:=hw;obtain⟨p,cs,hp,hR,_⟩:=hH.blk i _ h1;obtain⟨c1,c2,c3,hcs,hl,hR2⟩:=EH hR h2;cases pk with
    |p t' os=>
     simp only[L3];cases hg:rK .ref t y q with
     |none=>exact any
     |some z=>
      cases z with
      |none=>exact any
      |some z=>
       obtain⟨d1,d2,d3,_,_,hR3⟩:=EH hR2 hg;obtain⟨p',hp',e⟩:=hR3;exact⟨_,.inr ⟨rfl,p',hp',rfl⟩,trivial⟩
    |m=>
     simp only[L3];cases hg:rK .mp t y q with
     |none=>exact any
     |some z=>
      cases z with
      |none=>exact any
      |some z=>
       obtain⟨d1,d2,d3,_,_,hR3⟩:=EH hR2 hg;obtain⟨p',hp',e⟩:=hR3;exact⟨_,.inr ⟨rfl,p',hp',rfl⟩,trivial⟩
    |v=>exact any
    |own=>exact any
    |f ks=>exact any
    |r=>
     simp only[L3];cases hg:H4 t y q with
     |none=>exact any
     |some z=>
      cases z with
      |none=>exact any
      |some z=>
       obtain⟨cs',hR3⟩:=aMZ hR2 hg;obtain⟨v,hv,_,hsh⟩:=hR3;exact⟨v,⟨hv,hsh⟩,trivial⟩
  |_=>cases pk<;>exact any
theorem aDl {g:Gh}{w:pR}{H:sE}(hH:sL g w H) {vals:pN}: ∀{gs:List (Nat×Nat×PK)}{a a':tD},BT g w H vals a->BO H gs (some a)=some a'->BT g w H vals a'
 |[],a,a',ha,h=>by
  simp only[BO,aVr] at h;subst h;exact ha
 |(c,q,pk)::gs,a,a',ha,h=>by
  simp only[BO] at h;obtain⟨v,hv⟩:=aM0 hH ha (a.n-1-c) q pk;cases hp:yS H a pk (L3 q pk (IY a.H (a.n-1-c))) with
  |none=>
   rw[hp] at h;simp only[NH] at h;cases gs<;>simp [BO] at h
  |some b=>
   rw[hp] at h;simp only[NH] at h;have hb:=aDi hH ha hv hp;refine aDl hH (a:=⟨a.args,b.H,b.ws,b.n⟩) ⟨hb.n,hb.m,?_⟩ h;obtain⟨s,more,e1,e2⟩: ∃s more,b.args=s::a.args/\b.ws.reverse=a.ws.reverse++more:=by
    have hp':=hp;unfold yS at hp';split at hp'
    .simp only[V6,aVr] at hp';subst hp';exact⟨_,[],rfl,by simp⟩
    .simp only[V5] at hp';split at hp'
     .simp only[aVr] at hp';subst hp';exact⟨_,[],rfl,by simp⟩
     .cases hp'
    .simp only[V7,aVr] at hp';subst hp';exact⟨_,[],rfl,by simp⟩
    .unfold CF at hp';split at hp'
     .split at hp'
      .simp only[aVr] at hp';subst hp';exact⟨_,[_],rfl,aWg ..⟩
      .cases hp'
     .cases hp'
    .unfold wM at hp';split at hp'
     .unfold FR at hp';split at hp'
      .split at hp'
       .obtain⟨ks,bs,_,_,h3,_,h5,_⟩:=X5 hp';exact⟨_,_,h3,by rw[h5];simp only[aWg];exact aVy ..⟩
       .cases hp'
      .cases hp'
     .cases hp'
    .unfold CG at hp';split at hp'
     .split at hp'
      .simp only[aVr] at hp';subst hp';exact⟨_,[_],rfl,aWg ..⟩
      .cases hp'
     .cases hp'
    .unfold CH at hp';split at hp'
     .split at hp'
      .simp only[aVr] at hp';subst hp';exact⟨_,[_],rfl,aWg ..⟩
      .cases hp'
     .cases hp'
    .exact aDg hp'
    .cases hp'
   rw[e2];exact O7 (O6 g w _ _) ha.args
theorem aM1 {b:Option qB}{l:Option (List qB)}{r:List qB}(h:a0m b l=some r): ∃b' l',b=some b'/\l=some l'/\r=b'::l':=by
 cases b<;>cases l<;>simp [a0m] at h
 exact⟨_,_,rfl,rfl,h.symm⟩
theorem aDm {W:List rV}: ∀{L0 L:List qB},IZ W L0=some L->L.length=L0.length/\∀(c:Nat) (b:qB),L[c]? =some b->∃b0,L0[c]? =some b0/\V9 W b0=some b
 |[],L,h=>by
  simp only[IZ,aVr] at h;subst h;exact⟨rfl,fun c b h=>by simp at h⟩
 |b0::L0,L,h=>by
  simp only[IZ] at h;obtain⟨b',l',h1,h2,rfl⟩:=aM1 h;obtain⟨k1,k2⟩:=aDm h2;refine⟨by simp [k1],fun c b hc=> ?_⟩;cases c with
  |zero=>simp only[aV1,aVr] at hc;subst hc;exact⟨b0,rfl,h1⟩
  |succ c=>obtain⟨b1,q1,q2⟩:=k2 c b (by simpa using hc);exact⟨b1,by simpa using q1,q2⟩
theorem HF.ren {H:sE}{ws:List rV}{L0 L:List qB}(h:HF H ws L0) (hc:IZ ws L0=some L):RK H ws L:=by
 obtain⟨k1,k2⟩:=aDm hc;refine⟨h.len.trans k1.symm,fun c wh b hw hb=> ?_,h.nodup⟩;obtain⟨b0,q1,q2⟩:=k2 c b hb;have hok:=h.ok c wh b0 hw q1;cases b0 with
 |cells t y ts=>
  cases wh with
  |tok k=>exact hok.elim
  |box i u x toks o=>
   obtain⟨h1,h2,h3⟩:=hok;simp only[V9] at q2;split at q2
   .rename_i hp;obtain rfl:=aVx q2;exact⟨h1,⟨y,h2,.inl ⟨hp,rfl⟩⟩,h3⟩
   .cases hy:DC ws t y with
    |none=>rw[hy] at q2;cases q2
    |some z=>
     rw[hy] at q2;obtain rfl:=aVx q2;exact⟨h1,⟨y,h2,.inr hy⟩,h3⟩
 |_=>
  simp only[V9,aVr] at q2;subst q2;cases wh<;>exact hok
theorem AO: ∀(W:List rV) (c:Nat),B4 W c=W[c]?
  |[],c=>by simp [B4]
  |_::_,0=>rfl
  |_::W,c+1=>by simpa[B4] using AO W c
theorem aDn: ∀L:List qB,qZ L=L.length
  |[]=>rfl
  |_::L=>by simp [qZ,aDn L]
theorem aDo {α:Type}: ∀(l acc:List α),zZ l acc=l.reverse++acc
  |[],_=>rfl
  |x::l,acc=>by simp [zZ,aDo l]
theorem a1A {a:Option (Nat×qB)}{b:Option (List (Nat×qB))}{l:List (Nat×qB)}(h:QK a b=some l): ∃q r,a=some q∧b=some r∧l=q::r:=by
  cases a<;>cases b<;>simp [QK] at h
  exact⟨_,_,rfl,rfl,h.symm⟩
def JE (base n:Nat) (W ws:List rV) (R:List qB) (c0:Nat) (id:Nat) (b:qB):Prop:=
  (∃(c:Nat) (i:Nat) (u:Ty) (x:u.den) (toks:pL) (o:Nat) (b0:qB),ws[c]? =some (.box i u x toks o)∧id=i∧R[c]? =some b0∧yH base n i o W u x toks b0=some (i,b))∨
  (∃(c k:Nat) (b0:qB),ws[c]? =some (.tok k)∧id=k∧R[c]? =some b0∧AI k b0=some (k,b))∨
  (∃(c:Nat) (b0:qB),R[c]? =some b0∧id=base+(c0+c)∧ws[c]? =none∧ED base n (c0+c) W b0=some (id,b))
theorem JE.succ {base n:Nat}{W:List rV}{wh:rV}{ws:List rV}{b0:qB}{R:List qB}{c0 id:Nat}{b:qB}(h:JE base n W ws R (c0+1) id b):JE base n W (wh::ws) (b0::R) c0 id b:=by
  rcases h with⟨c,i,u,x,toks,o,b1,h1,h2,h3,h4⟩ |⟨c,k,b1,h1,h2,h3,h4⟩ |⟨c,b1,h1,h2,h3,h4⟩
  .exact .inl ⟨c+1,i,u,x,toks,o,b1,by simpa using h1,h2,by simpa using h3,h4⟩
  .exact .inr (.inl ⟨c+1,k,b1,by simpa using h1,h2,by simpa using h3,h4⟩)
  .exact .inr (.inr ⟨c+1,b1,by simpa using h1,by rw[h2];omega,by simpa using h3,by rw[show c0+(c+1)=c0+1+c from by omega];exact h4⟩)
theorem JE.succ0 {base n:Nat}{W:List rV}{b0:qB}{R:List qB}{c0 id:Nat}{b:qB}(h:JE base n W [] R (c0+1) id b):JE base n W [] (b0::R) c0 id b:=by
  rcases h with⟨c,i,u,x,toks,o,b1,h1,_⟩ |⟨c,k,b1,h1,_⟩ |⟨c,b1,h1,h2,h3,h4⟩
  .simp at h1
  .simp at h1
  .exact .inr (.inr ⟨c+1,b1,by simpa using h1,by rw[h2];omega,by simp,by rw[show c0+(c+1)=c0+1+c from by omega];exact h4⟩)
theorem aDp {i:Nat}{t:Ty}{ts:pL}{o:Option t.den}{q:Nat×qB}(h:aBN i t ts o=some q): ∃y,o=some y∧q=(i,.cells t y ts):=by
  cases o with
  |none=>cases h
  |some y=>exact⟨y,rfl,(aVx h).symm⟩
theorem aM2 {base n c:Nat}{W:List rV}{b:qB}{q:Nat×qB}(h:ED base n c W b=some q):q.1=base+c:=by
  cases b<;>simp only[ED] at h
  · split at h
    .exact(aVx h)▸rfl
    .obtain⟨y,_,rfl⟩:=aDp h;rfl
  .exact(aVx h)▸rfl
  · split at h
    .exact(aVx h)▸rfl
    .cases h
  · split at h
    .exact(aVx h)▸rfl
    .cases h
  .cases h
  .exact(aVx h)▸rfl
def bY (base n:Nat) (W:List rV) (t:Ty) (x y:t.den):Prop:=(t.pure=true∧y=x)∨CI base n W t x=some y
theorem a1B {base n i o:Nat}{W:List rV}{u t:Ty}{x:u.den}{y:t.den}{toks ts:pL}{q:Nat×qB}(h:yH base n i o W u x toks (.cells t y ts)=some q):
    ∃y2 z,bY base n W t y y2∧t6 t y2 u x o=some z∧q=(i,.cells u z (qY (EC base n W o ts) (wC toks o t.cells))):=by
  simp only[yH] at h;split at h
  · rename_i hp
    cases hs:t6 t y u x o with
    |none=>rw[hs] at h;simp [VB] at h
    |some z=>rw[hs] at h;exact⟨y,z,.inl ⟨hp,rfl⟩,hs,(aVx h).symm⟩
  · cases hy:CI base n W t y with
    |none=>rw[hy] at h;cases h
    | some y2=>
      rw[hy] at h;simp only[aBO] at h;cases hs:t6 t y2 u x o with
      |none=>rw[hs] at h;simp [VB] at h
      |some z=>rw[hs] at h;exact⟨y2,z,.inr hy,hs,(aVx h).symm⟩
theorem aM3 {k:Nat}{b:qB}{q:Nat×qB}(h:AI k b=some q):q.1=k:=by
  cases b<;>simp only[AI] at h
  .cases h
  .exact(aVx h)▸rfl
  · split at h
    .exact(aVx h)▸rfl
    .cases h
  · split at h
    .exact(aVx h)▸rfl
    .cases h
  .cases h
  .exact(aVx h)▸rfl
theorem aM4 {base n i o:Nat}{W:List rV}{u:Ty}{x:u.den}{toks:pL}{b:qB}{q:Nat×qB}(h:yH base n i o W u x toks b=some q):q.1=i:=by
  cases b with
  |cells t y ts=>obtain⟨y2,z,_,_,rfl⟩:=a1B h;rfl
  |grow=>simp [yH] at h
  |row=>simp [yH] at h
  |map=>simp [yH] at h
  |iter=>simp [yH] at h
  |dead=>simp only[yH,aVr] at h;exact h▸rfl
theorem O8 {base n:Nat}{W:List rV}: ∀{ws:List rV}{R:List qB}{c0:Nat}{upd:List (Nat×qB)},BP base n W c0 ws R=some upd→
    ws.length≤R.length∧(∀id b,qE upd id=some b→JE base n W ws R c0 id b)∧(∀id,id∈qH upd→∃b,qE upd id=some b)∧
    (∀(c:Nat) wh,ws[c]? =some wh→wh.id∈qH upd)∧(∀(c:Nat) b,R[c]? =some b→ws[c]? =none→base+(c0+c)∈qH upd)
  | [],[],_,upd,h=>by
    simp only[BP,aVr] at h;subst h;exact⟨aVR _,fun _ _ h=>by simp [qE] at h,fun _ h=>by simp [qH] at h,fun _ _ h=>by simp at h,fun _ _ h=>by simp at h⟩
  | [],b::R,c0,upd,h=>by
    simp only[BP] at h;obtain⟨q,r,h1,h2,rfl⟩:=a1A h;obtain⟨k1,k2,k3,k4,k5⟩:=O8 h2;have hq:=aM2 h1;obtain⟨q1,q2⟩:=q;simp only at hq;subst hq;refine⟨by simp,fun id b' hg=> ?_,fun id hi=> ?_,fun c wh hw=>by simp at hw,fun c b' hb hn=> ?_⟩
    · simp only[qE] at hg
      split at hg
      · rename_i e
        obtain rfl:=aVx hg;subst e;exact .inr (.inr ⟨0,b,rfl,rfl,by simp,h1⟩)
      .exact(k2 id b' hg).succ0
    · simp only[qE]
      by_cases e:base+c0=id
      .rw[aVs e];exact⟨_,rfl⟩
      · rw[aVv e]
        simp only[qH,aVH] at hi;exact k3 id (hi.resolve_left (Ne.symm e))
    · cases c with
      |zero=>simp [qH]
      | succ c=>
        have:=k5 c b' (by simpa using hb) pI;simp only[qH,aVH];right;rw[show base+(c0+(c+1))=base+(c0+1+c) from by omega];exact this
  | .box i u x toks o::ws,[],c0,upd,h=>by simp [BP] at h
  | .tok k::ws,[],c0,upd,h=>by simp [BP] at h
  | .box i u x toks o::ws,b::R,c0,upd,h=>by
    simp only[BP] at h;obtain⟨q,r,h1,h2,rfl⟩:=a1A h;obtain⟨k1,k2,k3,k4,k5⟩:=O8 h2;have hq:=aM4 h1;obtain⟨q1,q2⟩:=q;simp only at hq;subst hq;refine⟨by simp;omega,fun id b' hg=> ?_,fun id hi=> ?_,fun c wh hw=> ?_,fun c b' hb hn=> ?_⟩
    · simp only[qE] at hg
      split at hg
      · rename_i e
        obtain rfl:=aVx hg;subst e;exact .inl ⟨0,q1,u,x,toks,o,b,rfl,rfl,rfl,h1⟩
      .exact(k2 id b' hg).succ
    · simp only[qE]
      by_cases e:q1=id
      .rw[aVs e];exact⟨_,rfl⟩
      · rw[aVv e]
        simp only[qH,aVH] at hi;exact k3 id (hi.resolve_left (Ne.symm e))
    · cases c with
      |zero=>simp only[aV1,aVr] at hw;subst hw;simp [qH,rV.id]
      |succ c=>simp only[qH,aVH];exact .inr (k4 c wh (by simpa using hw))
    · cases c with
      |zero=>simp at hn
      | succ c=>
        have:=k5 c b' (by simpa using hb) (by simpa using hn);simp only[qH,aVH];right;rw[show base+(c0+(c+1))=base+(c0+1+c) from by omega];exact this
  | .tok k::ws,b::R,c0,upd,h=>by
    simp only[BP] at h;obtain⟨q,r,h1,h2,rfl⟩:=a1A h;obtain⟨k1,k2,k3,k4,k5⟩:=O8 h2;have hq:=aM3 h1;obtain⟨q1,q2⟩:=q;simp only at hq;subst hq;refine⟨by simp;omega,fun id b' hg=> ?_,fun id hi=> ?_,fun c wh hw=> ?_,fun c b' hb hn=> ?_⟩
    · simp only[qE] at hg
      split at hg
      · rename_i e
        obtain rfl:=aVx hg;subst e;exact .inr (.inl ⟨0,q1,b,rfl,rfl,rfl,h1⟩)
      .exact(k2 id b' hg).succ
    · simp only[qE]
      by_cases e:q1=id
      .rw[aVs e];exact⟨_,rfl⟩
      · rw[aVv e]
        simp only[qH,aVH] at hi;exact k3 id (hi.resolve_left (Ne.symm e))
    · cases c with
      |zero=>simp only[aV1,aVr] at hw;subst hw;simp [qH,rV.id]
      |succ c=>simp only[qH,aVH];exact .inr (k4 c wh (by simpa using hw))
    · cases c with
      |zero=>simp at hn
      | succ c=>
        have:=k5 c b' (by simpa using hb) (by simpa using hn);simp only[qH,aVH];right;rw[show base+(c0+(c+1))=base+(c0+1+c) from by omega];exact this
def uJ (g g':Gh) (base:Nat) (W:List rV) (ids:pQ):Gh:=
  ⟨g'.S,fun i=>if base≤i∧i∈ids then g'.J (i-base) else match x8 i W 0 with|some c=>g'.J c|none=>g.J i,
   fun i=>if base≤i∧i∈ids then g'.cur (i-base) else match x8 i W 0 with|some c=>g'.cur c|none=>g.cur i⟩
theorem X7 {n c:Nat}{wh:Option rV}:NI n c wh=true↔c<n∧wh=none:=by
  cases wh with
  |none=>simp [NI]
  |some wh=>simp [NI]
theorem aM5 {base n c i:Nat}{wh:Option rV}(h:B5 base n c wh=some i):wh=some (.tok i)∨(wh=none∧c<n∧i=base+c):=by
  cases wh with
  | none=>
    simp only[B5] at h;split at h
    .rename_i hc;exact .inr ⟨rfl,hc,(aVx h).symm⟩
    .cases h
  | some wh=>
    cases wh with
    |box=>cases h
    |tok k=>simp only[B5,aVr] at h;subst h;exact .inl rfl
theorem X8 {i:Nat}: ∀{ws:List rV}{c0:Nat},(∀c:Nat,ws[c]? ≠some (.tok i))→x8 i ws c0=none
  |[],_,_=>rfl
  | .tok j::r,c0,h=>by
    simp only[x8];split
    .rename_i e;subst e;exact absurd rfl (h 0)
    .exact X8 (fun c=>by have:=h (c+1);simpa using this)
  | .box _ _ _ _ _::r,c0,h=>by
    simp only[x8];exact X8 (fun c=>by have:=h (c+1);simpa using this)
theorem aM6 {i c:Nat}{ws:List rV}(hnd:(sK ws).Nodup) (h:ws[c]? =some (.tok i)):x8 i ws 0=some c:=by
  cases hc:x8 i ws 0 with
  | none=>
    exfalso
    have: ∀{ws:List rV}{c0 c:Nat},ws[c]? =some (.tok i)→x8 i ws c0≠none:=by
      intro ws
      induction ws with
      |nil=>intro c0 c h;simp at h
      | cons wh r ih=>
        intro c0 c h;cases c with
        | zero=>
          simp only[aV1,aVr] at h;subst h;simp [x8]
        | succ c=>
          simp only[aWe] at h;cases wh with
          |box=>exact ih h
          | tok j=>
            simp only[x8];split
            .simp
            .exact ih h
    exact this h hc
  | some d=>
    obtain⟨d',e1,h2⟩:=O5 hc;rw[aV5] at e1;subst e1;rw[X4 hnd h h2 rfl]
theorem Fr.mono {A B:Nat→Nat→Prop}{w w':pR}{S S':Nat→Nat→Prop}(h:Fr A w w' S S') (hAB: ∀b o,A b o→B b o):Fr B w w' S S':=
  ⟨h.os,h.tape,h.output,h.size,fun b hb hn=>h.blk b hb (fun o ho=>hn o (hAB b o ho)),fun b o hb hn=>h.cell b o hb (fun ho=>hn (hAB b o ho)),fun b o hs=>(h.new b o hs).imp id (Or.imp id (hAB b o)),fun b s hs=>(h.shape b s hs).imp id fun h o=>hAB b o (h o)⟩
theorem X9 {base n:Nat}{W:List rV}{o:Nat}: ∀{ts:pL}{q k:Nat},(q,k)∈EC base n W o ts→∃q' c,(q',c)∈ts∧B5 base n c (B4 W c)=some k∧q=o+q'
  |[],_,_,h=>by simp [EC] at h
  | (q',c)::r,q,k,h=>by
    simp only[EC] at h;cases hn:B5 base n c (B4 W c) with
    | none=>
      rw[hn] at h;obtain⟨a,b,h1,h2⟩:=X9 h;exact⟨a,b,aVB _ h1,h2⟩
    | some k'=>
      rw[hn] at h;rcases aVH.1 h with h|h
      · simp only[aV0] at h
        obtain⟨rfl,rfl⟩:=h;exact⟨q',c,by simp,hn,rfl⟩
      · obtain⟨a,b,h1,h2⟩:=X9 h
        exact⟨a,b,aVB _ h1,h2⟩
theorem xS {α:Type}{x:α}: ∀{l m:List α},x∈qY l m↔x∈l∨x∈m
  |[],m=>by simp [qY]
  |y::l,m=>by simp [qY,xS (l:=l),or_assoc]
theorem a1C: ∀{toks:pL}{off n q k:Nat},(q,k)∈wC toks off n→(q,k)∈toks∧¬(off≤q∧q<off+n)
  |[],_,_,_,_,h=>by simp [wC] at h
  | (q',k')::r,off,n,q,k,h=>by
    simp only[wC] at h;split at h
    · obtain⟨h1,h2⟩:=a1C h
      exact⟨aVB _ h1,h2⟩
    · rename_i hn
      rcases aVH.1 h with h|h
      · cases h
        exact⟨by simp,hn⟩
      · obtain⟨h1,h2⟩:=a1C h
        exact⟨aVB _ h1,h2⟩
section
variable {g g':Gh}{w w':pR}{H:sE}{W:List rV}{L:List qB}{r:qI}{v:pS}{base:Nat}{upd:List (Nat×qB)}
variable (hH:sL g w H) (hm:RK H W L) (hr:EL (w5 g W) w L r g' w' v) (hb:BP base r.H.length W 0 W r.H=some upd) (hf: ∀i,i∈qH upd→base≤i→g.J i=none∧∀n,g.cur i n=none)
include hH hm hr hb hf
theorem FX {c:Nat}{wh:rV}(hw:W[c]? =some wh):wh.id∈qH upd∧wh.id<base∧∃b,L[c]? =some b∧X1 H W wh b:=by
  have hin:=(O8 hb).2.2.2.1 c wh hw;have hlt:c<L.length:=hm.len▸(aVK.1 hw).1;have hok:=hm.ok c wh _ hw (aVF hlt);refine⟨hin,Nat.lt_of_not_le fun hle=> ?_,_,aVF hlt,hok⟩;have hfr:=hf _ hin hle;cases wh with
  | box i u x toks o=>
    cases hL:L[c] with
    | cells t y ts=>
      rw[hL] at hok;obtain⟨p,cs,hp,_⟩:=hH.blk i _ hok.1;rw[show (rV.box i u x toks o).id=i from rfl] at hfr;rw[hfr.1] at hp;cases hp
    |_=>rw[hL] at hok;exact hok.elim
  | tok k=>
    cases hL:L[c] with
    | grow e cc m=>
      rw[hL] at hok;obtain⟨v,xs,hv,_⟩:=hH.blk k _ hok;rw[show (rV.tok k).id=k from rfl] at hfr;rw[hfr.2] at hv;cases hv
    | map s t l=>
      rw[hL] at hok;obtain⟨p,es,cl,hp,_⟩:=hH.blk k _ hok.1;rw[show (rV.tok k).id=k from rfl] at hfr;rw[hfr.1] at hp;cases hp
    | row e t l m=>
      rw[hL] at hok;obtain⟨_,v,xs,hv,_⟩:=hH.blk k _ hok.1;rw[show (rV.tok k).id=k from rfl] at hfr;rw[hfr.2] at hv;cases hv
    |_=>rw[hL] at hok;exact hok.elim
theorem aM7 {c:Nat}(hc:c<r.H.length) (hn:W[c]? =none):base+c∈qH upd:=by
  have:=(O8 hb).2.2.2.2 c _ (aVF hc) hn;simpa using this
theorem O9 {c:Nat}(hc:c<r.H.length) (hn:W[c]? =none):(uJ g g' base W (qH upd)).J (base+c)=g'.J c∧(uJ g g' base W (qH upd)).cur (base+c)=g'.cur c:=by
  have hin:=aM7 hH hm hr hb hf hc hn;refine⟨?_,?_⟩
  · show (if base≤base+c∧base+c∈qH upd then _ else _)=_
    rw[aVs ⟨pG,hin⟩,aWo]
  · show (if base≤base+c∧base+c∈qH upd then _ else _)=_
    rw[aVs ⟨pG,hin⟩,aWo]
theorem aDq {i:Nat}(hi: ¬(base≤i∧i∈qH upd)) (hn:x8 i W 0=none):(uJ g g' base W (qH upd)).J i=g.J i∧(uJ g g' base W (qH upd)).cur i=g.cur i:=by
  refine⟨?_,?_⟩
  · show (if base≤i∧i∈qH upd then _ else _)=_
    rw[aVv hi,hn]
  · show (if base≤i∧i∈qH upd then _ else _)=_
    rw[aVv hi,hn]
theorem aDr {c k:Nat}(hw:W[c]? =some (.tok k)):(uJ g g' base W (qH upd)).J k=g'.J c∧(uJ g g' base W (qH upd)).cur k=g'.cur c:=by
  have hlt:=(FX hH hm hr hb hf hw).2.1;simp only[rV.id] at hlt;have hc:=aM6 hm.nodup hw;refine⟨?_,?_⟩
  · show (if base≤k∧k∈qH upd then _ else _)=_
    rw[aVv pG,hc]
  · show (if base≤k∧k∈qH upd then _ else _)=_
    rw[aVv pG,hc]
theorem RL {c i:Nat}{u:Ty}{x:u.den}{toks:pL}{o:Nat}(hw:W[c]? =some (.box i u x toks o)):(uJ g g' base W (qH upd)).J i=g.J i∧(uJ g g' base W (qH upd)).cur i=g.cur i:=by
  have hlt:=(FX hH hm hr hb hf hw).2.1;simp only[rV.id] at hlt;refine aDq hH hm hr hb hf pG (X8 fun d hd=> ?_);have:=X4 hm.nodup hw hd rfl;subst this;rw[hw] at hd;cases hd
theorem LO {c i:Nat}(hi:B5 base r.H.length c W[c]? =some i):(uJ g g' base W (qH upd)).J i=g'.J c∧(uJ g g' base W (qH upd)).cur i=g'.cur c:=by
  rcases aM5 hi with h|⟨h1,h2,rfl⟩
  .exact aDr hH hm hr hb hf h
  .exact O9 hH hm hr hb hf h2 h1
theorem aDs:Le g w (uJ g g' base W (qH upd)) w':=by
  have len: ∀{i c:Nat},x8 i W 0=some c→W[c]? =some (.tok i)∧c<L.length:=by
    intro i c h;obtain⟨d,e1,h2⟩:=O5 h;rw[aV5] at e1;subst e1;exact⟨h2,hm.len▸(aVK.1 h2).1⟩
  refine⟨fun b o h=>(hr.shut b o h).1,fun b o h=>(hr.shut b o h).2,fun i p h=> ?_,fun i n u h=> ?_⟩
  · show (if base≤i∧i∈qH upd then _ else _)=_
    rw[aVv (fun⟨h1,h2⟩=>by rw[(hf i h2 h1).1] at h;cases h)];cases hc:x8 i W 0 with
    |none=>exact h
    | some c=>
      obtain⟨h1,h2⟩:=len hc;refine hr.Jt c p h2 ?_;show wZ g W[c]? =_;rw[h1];exact h
  · show (if base≤i∧i∈qH upd then g'.cur (i-base) else match x8 i W 0 with|some c=>g'.cur c|none=>g.cur i) n=_
    rw[aVv (fun⟨h1,h2⟩=>by rw[(hf i h2 h1).2] at h;cases h)];cases hc:x8 i W 0 with
    |none=>exact h
    | some c=>
      obtain⟨h1,h2⟩:=len hc;refine hr.cur c n u h2 ?_;show BS g W[c]? n=_;rw[h1];exact h
theorem aM8 {t:Ty}{x y:t.den}{cs:pN}(hx:Rd g' w' t x cs) (h:CI base r.H.length W t x=some y):Rd (uJ g g' base W (qH upd)) w' t y cs:=by
  refine X3 (g:=g') (g':=uJ g g' base W (qH upd)) rfl (CI base r.H.length W) (fun a b x=>rfl) (fun t x=>rfl) (fun _=>rfl) (fun _ _=>rfl) (fun _=>rfl) (fun _=>rfl) (fun _=>rfl) (fun _ _ x y cs h hx=> ?_) (fun x y cs h hx=> ?_) (fun x y cs h hx=> ?_) (fun x y cs h hx=> ?_) (fun _=>rfl) hx h
  · cases x with
    |none=>cases h;exact hx
    | some q=>
      obtain⟨c,n⟩:=q;simp only[CI,aBM,AO] at h;obtain⟨i,hi,rfl⟩:=aVA.1 h;obtain⟨v,hv,hs⟩:=hx;exact⟨v,by rw[(LO hH hm hr hb hf hi).2];exact hv,hs⟩
  · cases x with
    |none=>cases h;exact hx
    | some q=>
      obtain⟨c,o⟩:=q;simp only[CI,L6] at h;obtain⟨p,hp,hv⟩:=hx;unfold L6.back2 at h;split at h
      · rename_i i uu x toks o' hwh
        cases h;rw[AO] at hwh;obtain⟨_,hlt,b,hL,hok⟩:=FX hH hm hr hb hf hwh;cases b with
        | cells t y ts=>
          have hJ:=hr.J c t y ts hL;rw[hp] at hJ;have hJ':wZ g W[c]? =some p:=hJ.symm;rw[hwh] at hJ';obtain⟨p0,hp0,rfl⟩:=aVA.1 hJ';exact⟨p0,by rw[(RL hH hm hr hb hf hwh).1];exact hp0,by have:=hv.1;rwa [aWc] at this,hv.2.imp id fun hv=>by rw[hv];simp [aWc]⟩
        |_=>exact hok.elim
      · split at h
        · rename_i hn
          cases h;obtain⟨h1,h2⟩:=X7.1 hn;rw[AO] at h2;exact⟨p,by rw[(O9 hH hm hr hb hf h1 h2).1];exact hp,hv⟩
        .cases h
  · cases x with
    |none=>cases h;exact hx
    | some q=>
      obtain⟨c,o⟩:=q;simp only[CI,L6] at h;obtain⟨p,hp,hv⟩:=hx;unfold L6.back2 at h;split at h
      · rename_i i uu x toks o' hwh
        cases h;rw[AO] at hwh;obtain⟨_,hlt,b,hL,hok⟩:=FX hH hm hr hb hf hwh;cases b with
        | cells t y ts=>
          have hJ:=hr.J c t y ts hL;rw[hp] at hJ;have hJ':wZ g W[c]? =some p:=hJ.symm;rw[hwh] at hJ';obtain⟨p0,hp0,rfl⟩:=aVA.1 hJ';exact⟨p0,by rw[(RL hH hm hr hb hf hwh).1];exact hp0,by rw[hv];simp [aWc]⟩
        |_=>exact hok.elim
      · split at h
        · rename_i hn
          cases h;obtain⟨h1,h2⟩:=X7.1 hn;rw[AO] at h2;exact⟨p,by rw[(O9 hH hm hr hb hf h1 h2).1];exact hp,hv⟩
        .cases h
  · cases x with
    |none=>cases h;exact hx
    | some c=>
      simp only[CI,aBL,AO] at h;obtain⟨i,hi,rfl⟩:=aVA.1 h;obtain⟨p,hp,hv⟩:=hx;exact⟨p,by rw[(LO hH hm hr hb hf hi).1];exact hp,hv⟩
theorem aDt {t:Ty}{x y:t.den}{cs:pN}(hx:Rd g' w' t x cs) (h:bY base r.H.length W t x y):Rd (uJ g g' base W (qH upd)) w' t y cs:=by
  rcases h with⟨hp,rfl⟩ |h
  .exact wN (g:=g') (g':=uJ g g' base W (qH upd)) rfl hp hx
  .exact aM8 hH hm hr hb hf hx h
omit hH hm hr hb hf in
theorem aDu {n:Nat}{t u:Ty}{x y:t.den}{o:Nat}{l:List u.den}(h:bY base n W t x y) (hg:rK (.list u) t x o=some l):rK (.list u) t y o=some l:=by
  rcases h with⟨_,rfl⟩ |h
  .exact hg
  .exact a1y (CI base n W) (fun _ _ _=>rfl) (fun _ _=>rfl) h hg
theorem aDv: ∀(cs:pL) {l:pL}{vs:pN},yU g' cs vs→NJ base r.H.length W cs=some l→yU (uJ g g' base W (qH upd)) l vs
  |[],l,vs,h,e=>by cases e;exact h
  | (c,o)::cs,l,vs,⟨p,vs',hp,hv,hr'⟩,e=>by
    unfold NJ at e;cases h1:a0n base r.H.length c o (B4 W c) with
    |none=>rw[h1] at e;cases e
    | some q=>
      cases h2:NJ base r.H.length W cs with
      |none=>rw[h1,h2] at e;cases e
      | some l'=>
        rw[h1,h2] at e;cases e;refine(?_ : ∃p vs',_);have ih:=aDv cs hr' h2;unfold a0n at h1;split at h1
        · rename_i i uu x toks o' hwh
          cases h1;rw[AO] at hwh;obtain⟨_,hlt,b,hL,hok⟩:=FX hH hm hr hb hf hwh;cases b with
          | cells t y ts=>
            have hJ:=hr.J c t y ts hL;rw[hp] at hJ;have hJ':wZ g W[c]? =some p:=hJ.symm;rw[hwh] at hJ';obtain⟨p0,hp0,rfl⟩:=aVA.1 hJ';exact⟨p0,vs',by rw[(RL hH hm hr hb hf hwh).1];exact hp0,by rw[hv];simp [aWc],ih⟩
          |_=>exact hok.elim
        · split at h1
          · rename_i hn
            cases h1;obtain⟨h3,h4⟩:=X7.1 hn;rw[AO] at h4;exact⟨p,vs',by rw[(O9 hH hm hr hb hf h3 h4).1];exact hp,hv,ih⟩
          .cases h1
theorem aM9 {s:qC}{u:pS}(h:rX g' w' s u):rX (uJ g g' base W (qH upd)) w' (VA base r.H.length W s) u:=by
  obtain⟨d,k⟩:=s
  have tokk: ∀{t:Ty}(hp:t.pure=true) {x:t.den}{k:pP},(∀c,k=some c→∃u,t= .list u)→rX g' w' (.val t x,k) u→rX (uJ g g' base W (qH upd)) w' (.val t x,L5 base r.H.length W k) u:=by
    intro t hp x k hl h;cases k with
    |none=>exact WZ (g:=g') (g':=uJ g g' base W (qH upd)) (k:=none) (k':=none) rfl hp (fun c e=>by cases e) h (fun c e=>by cases e) (fun _=>rfl)
    | some c=>
      simp only[L5,AO];cases hn:B5 base r.H.length c W[c]? with
      | some i=>
        refine WZ (g:=g') (g':=uJ g g' base W (qH upd)) (k:=some c) (k':=some i) rfl hp hl h (fun c' e=> ?_) (fun e=>by cases e);cases e;refine⟨_,rfl,fun n u hu=> ?_⟩;rw[(LO hH hm hr hb hf hn).2];exact hu
      | none=>
        exact WZ (g:=g') (g':=uJ g g' base W (qH upd)) (k:=none) (k':=none) rfl hp (fun c e=>by cases e) ⟨h.1,trivial⟩ (fun c e=>by cases e) (fun _=>rfl)
  unfold VA;split
  · rename_i c m k' heq
    simp only[aV0] at heq;obtain⟨rfl,rfl⟩:=heq;simp only[L5,AO];cases hn:B5 base r.H.length c W[c]? with
    | some i=>
      obtain⟨h3,h4⟩:=h.1;exact⟨⟨by rw[(LO hH hm hr hb hf hn).2];exact h3,h4⟩,trivial⟩
    |none=>exact⟨trivial,trivial⟩
  · rename_i c o k' heq
    simp only[aV0] at heq;obtain⟨rfl,rfl⟩:=heq;obtain⟨p,hp,hv⟩:=A6 h.1;unfold aBK;split
    · rename_i i uu x toks o' hwh
      rw[AO] at hwh;obtain⟨_,hlt,b,hL,hok⟩:=FX hH hm hr hb hf hwh;cases b with
      | cells t y ts=>
        have hJ:=hr.J c t y ts hL;rw[hp] at hJ;have hJ':wZ g W[c]? =some p:=hJ.symm;rw[hwh] at hJ';obtain⟨p0,hp0,rfl⟩:=aVA.1 hJ';refine⟨.inr ⟨rfl,p0,by rw[(RL hH hm hr hb hf hwh).1];exact hp0,?_⟩,trivial⟩;rw[hv];simp [aWc]
      |_=>exact hok.elim
    · split
      · rename_i hn
        obtain⟨h1,h2⟩:=X7.1 hn;rw[AO] at h2;exact⟨.inr ⟨rfl,p,by rw[(O9 hH hm hr hb hf h1 h2).1];exact hp,by rw[hv]⟩,trivial⟩
      .exact⟨trivial,trivial⟩
  · rename_i k' heq
    simp only[aV0] at heq;obtain⟨rfl,rfl⟩:=heq;rcases h.1 with⟨h1,_⟩ |⟨h1,h2⟩
    .cases h1
    .exact⟨.inr ⟨h1,h2⟩,trivial⟩
  · rename_i c k' heq
    simp only[aV0] at heq;obtain⟨rfl,rfl⟩:=heq;simp only[L5,AO];cases hn:B5 base r.H.length c W[c]? with
    | some i=>
      obtain⟨p,hp,hv⟩:LK g' (some c) [u]:=B9 rfl h.1;exact⟨.inr ⟨rfl,p,by rw[(LO hH hm hr hb hf hn).1];exact hp,hv⟩,trivial⟩
    |none=>exact⟨trivial,trivial⟩
  · rename_i k' heq
    simp only[aV0] at heq;obtain⟨rfl,rfl⟩:=heq;rcases h.1 with⟨h1,_⟩ |⟨h1,h2⟩
    .cases h1
    .exact⟨.inr ⟨h1,h2⟩,trivial⟩
  · rename_i f cs k' heq
    simp only[aV0] at heq;obtain⟨rfl,rfl⟩:=heq;cases hc:NJ base r.H.length W cs with
    |none=>exact⟨trivial,trivial⟩
    | some l=>
      rcases h.1 with⟨h1,_⟩ |⟨_,vs,h2,h3⟩
      .cases h1
      .exact⟨.inr ⟨rfl,vs,aDv hH hm hr hb hf cs h2 hc,h3⟩,trivial⟩
  · rename_i t x k' hno hno0 hno2 hno3 hno4 heq
    simp only[aV0] at heq;obtain⟨rfl,rfl⟩:=heq;split
    · rename_i hp
      exact tokk hp aMN (aC3 h)
    .exact⟨trivial,trivial⟩
  .exact⟨trivial,trivial⟩
end
theorem aDw {g:Gh}{w:pR}{H:sE}{W:List rV}{L:List qB}(hH:sL g w H) (hm:RK H W L) {bb oo:Nat}(h:yX (w5 g W) (qR 0 L) bb oo):
  ∃(c:Nat) (wh:rV) (b blk:qB),W[c]? =some wh/\L[c]? =some b/\sG (w5 g W) c b bb oo/\qE H wh.id=some blk/\sG g wh.id blk bb oo:=by
 obtain⟨c,b,hc,ho⟩:=h;rw[y4] at hc;have hlt:c<W.length:=hm.len▸(aVK.1 hc).1;have hwh:W[c]? =some W[c]:=aVF hlt;have hw:=hm.ok c _ b hwh hc;refine⟨c,W[c],b,?_⟩;generalize W[c]=wh at hwh hw;cases wh with
 |box i u x toks off=>
  cases b with
  |cells t y ts=>
   obtain⟨h1,⟨y0,h2,h3⟩,h4⟩:=hw;obtain⟨p,hp,e1,e2,e3⟩:=ho;have hp':wZ g W[c]? =some p:=hp;rw[hwh] at hp';obtain⟨p0,hp0,rfl⟩:=aVA.1 hp';obtain⟨p1,cs,hp1,hR,_⟩:=hH.blk i _ h1;obtain⟨c1,c2,c3,hcs,hl,hR2⟩:=EH hR h2;have l1:=t7 hR;have l2:=t7 hR2;rw[hcs] at l1;simp only[aVu] at l1;exact⟨_,hwh,hc,⟨_,hp,e1,e2,e3⟩,h1,p0,hp0,e1,by simp at e2;omega,by simp at e3;omega⟩
  |_=>exact hw.elim
 |tok k=>
  cases b with
  |grow e cc m=>
   obtain⟨v,hv,hb⟩:=ho;have hv':BS g W[c]? m=some v:=hv;rw[hwh] at hv';exact⟨_,hwh,hc,⟨v,hv,hb⟩,hw,v,hv',hb⟩
  |map s t l=>
   obtain⟨p,hp,hb⟩:=ho;have hp':wZ g W[c]? =some p:=hp;rw[hwh] at hp';exact⟨_,hwh,hc,⟨p,hp,hb⟩,hw.1,p,hp',hb⟩
  |row e t l m=>
   obtain⟨v,hv,hb⟩:=ho;have hv':BS g W[c]? m=some v:=hv;rw[hwh] at hv';exact⟨_,hwh,hc,⟨v,hv,hb⟩,hw.1,v,hv',hb⟩
  |_=>exact hw.elim
section
variable {g g':Gh}{w w':pR}{H:sE}{W:List rV}{L:List qB}{r:qI}{v:pS}{base:Nat}{upd:List (Nat×qB)}
variable (hH:sL g w H) (hm:RK H W L) (hr:EL (w5 g W) w L r g' w' v) (hb:BP base r.H.length W 0 W r.H=some upd) (hf: ∀i,i∈qH upd->base<=i->g.J i=none/\∀n,g.cur i n=none)
include hH hm hr hb hf
theorem a1D {b o:Nat}(h:yX (w5 g W) (qR 0 L) b o):t8 g H (qH upd) b o:=by
 obtain⟨c,wh,b0,blk,h1,h2,h3,h4,h5⟩:=aDw hH hm h;exact⟨wh.id,blk,(FX hH hm hr hb hf h1).1,h4,h5⟩
theorem aNa:Fr (t8 g H (qH upd)) w w' g.S (uJ g g' base W (qH upd)).S:=hr.fr.mono fun _ _ h=>a1D hH hm hr hb hf h
theorem XA {id:Nat}{b:qB}(hi:id∈qH upd) (hg:qE (qY upd H) id=some b):JE base r.H.length W W r.H 0 id b:=by
 obtain⟨_,k2,k3,_⟩:=O8 hb;obtain⟨b',hb'⟩:=k3 id hi;have:qE (qY upd H) id=some b':=by
  have: ∀{u:List (Nat×qB)},qE u id=some b'->qE (qY u H) id=some b':=by
   intro u
   induction u with
   |nil=>intro h;cases h
   |cons q u ih=>
    intro h;simp only[qY,qE] at h|-;split
    .rename_i e;rw[aVs e] at h;exact h
    .rename_i e;rw[aVv e] at h;exact ih h
  exact this hb'
 rw[this] at hg;obtain rfl:=aVx hg;exact k2 id b' hb'
theorem a1E {c i o:Nat}{u:Ty}{x:u.den}{toks:pL}{b0 b:qB}(hW:W[c]? =some (.box i u x toks o)) (hR:r.H[c]? =some b0) (hbb:yH base r.H.length i o W u x toks b0=some (i,b)):
  AM (uJ g g' base W (qH upd)) w' i b/\(∀bb oo,sG (uJ g g' base W (qH upd)) i b bb oo->sG g i (.cells u x toks) bb oo/\qE H i=some (.cells u x toks))/\
   ∀bb oo,sG (uJ g g' base W (qH upd)) i b bb oo->sG g' c b0 bb oo\/(bb<w.heap.size/\¬yX (w5 g W) (qR 0 L) bb oo):=by
 obtain⟨hin,hlt,bL,hL,hok⟩:=FX hH hm hr hb hf hW;have hJi:=(RL hH hm hr hb hf hW).1;have hle:=aDs hH hm hr hb hf;cases bL with
 |grow=>exact hok.elim
 |row=>exact hok.elim
 |map=>exact hok.elim
 |iter=>exact hok.elim
 |dead=>exact hok.elim
 |cells tL yL tsL=>
  obtain⟨h1,h2,h4⟩:=hok;obtain⟨p,cs,hp,hRd,hra,hth,hns,htk⟩:=hH.blk i _ h1;cases b0 with
  |grow=>simp [yH] at hbb
  |row=>simp [yH] at hbb
  |map=>simp [yH] at hbb
  |iter=>simp [yH] at hbb
  |dead=>
   simp only[yH,aVr,aV0,true_and] at hbb;subst hbb;exact⟨trivial,fun _ _ h=>h.elim,fun _ _ h=>h.elim⟩
  |cells t y ts=>
   have htt:=hr.ty c _ _ _ _ _ _ hL hR;subst htt;obtain⟨y2,z,hbY,hset,hq⟩:=a1B hbb
   .simp only[aV0,true_and] at hq;subst hq;have hblk:=hr.heap.blk c _ (by rw[y4];exact hR);obtain⟨p',cs',hp',hRd',hra',hth',hns',htk'⟩:=hblk;have hJc:=hr.J c _ _ _ hL;have hpc:g'.J c=some ⟨p.1,p.2+o,p.3⟩:=by
     rw[hJc];show wZ g W[c]? =_;rw[hW];simp [wZ,hp]
    rw[hpc] at hp';obtain rfl:=aVx hp';have hRdx:Rd (uJ g g' base W (qH upd)) w' u x cs:=xZ hle hRd;have hRdy:Rd (uJ g g' base W (qH upd)) w' t y2 cs':=aDt hH hm hr hb hf hRd' hbY;obtain⟨c1,c2,c3,hcs,hl1,hl2,hz⟩:=WO hRdy hRdx hset;subst hcs;subst hl1;have l0:=t7 hRd;have l1:=t7 hRd';simp only[aVu] at l0;have hfar: ∀q,q<u.cells->¬(c1.length<=q/\q<c1.length+t.cells)->¬yX (w5 g W) (qR 0 L) p.1 (p.2+q):=by
     intro q hq hno hown;obtain⟨c',wh',b',blk',k1,k2,k3,k4,k5⟩:=aDw hH hm hown;by_cases hcc:c'=c
     .subst hcc;rw[hW] at k1;obtain rfl:=aVx k1;rw[hL] at k2;obtain rfl:=aVx k2;obtain⟨pp,hpp,e1,e2,e3⟩:=k3;have hpp':wZ g W[c']? =some pp:=hpp;rw[hW] at hpp';simp only[wZ,hp,Option.map_some,aVr] at hpp';subst hpp';simp only at e2 e3;exact hno ⟨pG,pG⟩
     .have hid:wh'.id≠i:=fun e=>hcc (X4 hm.nodup k1 hW e);exact hH.dis wh'.id i blk' _ p.1 (p.2+q) hid k4 h1 k5 ⟨p,hp,rfl,pG,pG⟩
    have hlt': ∀q,q<u.cells->p.1<w.heap.size:=fun q hq=>NX (hH.blk i _ h1) (b:=p.1) (o:=p.2+q) ⟨p,hp,rfl,pG,pG⟩;have hkeep: ∀q,q<u.cells->¬(c1.length<=q/\q<c1.length+t.cells)->w'.cell? ⟨p.1,p.2+q,none⟩=w.cell? ⟨p.1,p.2+q,none⟩/\w'.frozen? ⟨p.1,p.2+q,none⟩=w.frozen? ⟨p.1,p.2+q,none⟩:=fun q hq hno=>hr.fr.cell _ _ (hlt' q hq) (hfar q hq hno);refine⟨⟨p,c1++cs'++c3,by rw[hJi];exact hp,hz,fun q vv hv=> ?_,⟨fun q hq=> ?_,fun h0 s hs=> ?_⟩,fun q hq hs=> ?_,?_⟩,fun bb oo ho=>⟨?_,h1⟩,fun bb oo ho=> ?_⟩
    .by_cases a1:q<c1.length
     .rw[(hkeep q pG pG).1];refine hra q vv ?_;rw[aVy,aVN a1] at hv|-;exact hv
     .by_cases a2:q<c1.length+t.cells
      .rw[aVy,aVI pG,aVN pG] at hv;have:=hra' (q-c1.length) vv hv;rwa [show p.2+c1.length+(q-c1.length)=p.2+q from by omega] at this
      .rw[aVy,aVI pG,aVI pG] at hv;have hq:q<u.cells:=by
        have:=(aVK.1 hv).1;omega
       rw[(hkeep q hq pG).1];refine hra q vv ?_;rw[aVy,aVI pG,aVI pG,hl2];rw[l1] at hv;exact hv
    .by_cases a1:c1.length<=q/\q<c1.length+t.cells
     .have:=hth'.1 (q-c1.length) pG;rwa [show p.2+c1.length+(q-c1.length)=p.2+q from by omega] at this
     .rw[(hkeep q hq a1).1,(hkeep q hq a1).2];exact hth.1 q hq
    .by_cases ht0:0<t.cells
     .exact hth'.2 ht0 s hs
     .exact(hr.fr.shape p.1 s (hth.2 h0 s hs)).resolve_right fun h=>hfar 0 h0 pG (h (p.2+0))
    .by_cases a1:c1.length<=q/\q<c1.length+t.cells
     .exact hns' (q-c1.length) pG (by rw[show p.2+c1.length+(q-c1.length)=p.2+q from by omega];exact hs)
     .rcases hr.fr.new _ _ hs with k|k|k
      .exact hns q hq k
      .have:=hlt' q hq;omega
      .exact hfar q hq a1 k
    .intro q kk hmem;rcases xS.1 hmem with hmem|hmem
     .obtain⟨q',c',k1,k2,rfl⟩:=X9 hmem;rw[AO] at k2;obtain⟨u',l,vv,g1,g2,g3⟩:=htk' q' c' k1;have hq':=aCW g1;refine⟨u',l,vv,aCV hset (aDu hbY g1) hq',?_,?_⟩
      .rw[aVy,aVI pG,aWo,aVN pG];exact g2
      .rw[(LO hH hm hr hb hf k2).2];exact g3
     .obtain⟨k1,k2⟩:=a1C hmem;obtain⟨u',l,vv,g1,g2,g3⟩:=htk q kk k1;refine⟨u',l,vv,aCL hH hset g1 k2,?_,hle.cur _ _ _ g3⟩;rcases aWA q c1.length with a1|a1
      .rw[aVy,aVN a1] at g2|-;exact g2
      .rw[aVy,aVI pG,aVI pG] at g2|-;rw[l1];rw[hl2] at g2;exact g2
    .obtain⟨pp,hpp,e1,e2,e3⟩:=ho;rw[hJi,hp] at hpp;obtain rfl:=aVx hpp;exact⟨p,hp,e1,e2,e3⟩
    .obtain⟨pp,hpp,e1,e2,e3⟩:=ho;rw[hJi,hp] at hpp;obtain rfl:=aVx hpp;subst e1;by_cases a1:c1.length<=oo-p.2/\oo-p.2<c1.length+t.cells
     .exact .inl ⟨_,hpc,rfl,by simp only;omega,by simp only;omega⟩
     .right;refine⟨hlt' (oo-p.2) pG,?_⟩;have:=hfar (oo-p.2) pG a1;rwa [show p.2+(oo-p.2)=oo from by omega] at this
theorem a1F {c:Nat}{b0 b:qB}(hn:W[c]? =none) (hR:r.H[c]? =some b0) (hbn:ED base r.H.length c W b0=some (base+c,b)):
  AM (uJ g g' base W (qH upd)) w' (base+c) b/\∀bb oo,sG (uJ g g' base W (qH upd)) (base+c) b bb oo->sG g' c b0 bb oo:=by
 have hc:=(aVK.1 hR).1;obtain⟨hJ,hcur⟩:=O9 hH hm hr hb hf hc hn;have hblk:=hr.heap.blk c _ (by rw[y4];exact hR);cases b0 with
 |dead=>
  simp only[ED,aVr,aV0,true_and] at hbn;subst hbn;exact⟨trivial,fun _ _ h=>h.elim⟩
 |grow e m k=>
  simp only[ED,aVr,aV0,true_and] at hbn;subst hbn;obtain⟨u,xs,hv,h1,h2,h3⟩:=hblk;exact⟨⟨u,xs,by rw[hcur];exact hv,h1,fun m hm'=>by rw[hcur];exact h2 m hm',h3⟩,fun bb oo ⟨v',hv',hb'⟩=>⟨v',by rw[hcur] at hv';exact hv',hb'⟩⟩
 |row e t l n=>
  simp only[ED] at hbn;split at hbn
  .rename_i hp;simp only[aVr,aV0,true_and] at hbn;subst hbn;obtain⟨h0,u,xs,hv,h1,h4,h2,h3⟩:=hblk;exact⟨⟨h0,u,xs,by rw[hcur];exact hv,h1,DF (fun _ _ h=>wN (g:=g') (g':=uJ g g' base W (qH upd)) rfl hp h) h4,fun m hm'=>by rw[hcur];exact h2 m hm',h3⟩,fun bb oo ⟨v',hv',hb'⟩=>⟨v',by rw[hcur] at hv';exact hv',hb'⟩⟩
  .cases hbn
 |iter s n=>simp [ED] at hbn
 |map k v l=>
  simp only[ED] at hbn;split at hbn
  .rename_i hp;rw[aVG] at hp;simp only[aVr,aV0,true_and] at hbn;subst hbn;obtain⟨p,es,cl,hp1,hp0,hh,hM,hS⟩:=hblk;exact⟨⟨p,es,cl,by rw[hJ];exact hp1,hp0,hh,R7 (g:=g') (g':=uJ g g' base W (qH upd)) rfl hp.1 hp.2 hM,hS⟩,fun bb oo ⟨pp,hpp,e⟩=>⟨pp,by rw[hJ] at hpp;exact hpp,e⟩⟩
  .cases hbn
 |cells t y ts=>
  have wS: ∀y2,bY base r.H.length W t y y2->AM (uJ g g' base W (qH upd)) w' (base+c) (.cells t y2 (EC base r.H.length W 0 ts))/\∀bb oo,sG (uJ g g' base W (qH upd)) (base+c) (.cells t y2 (EC base r.H.length W 0 ts)) bb oo->sG g' c (.cells t y ts) bb oo:=by
   intro y2 hbY;obtain⟨p,cs,hp1,hR1,h1,h2,h3,h4⟩:=hblk;refine⟨⟨p,cs,by rw[hJ];exact hp1,aDt hH hm hr hb hf hR1 hbY,h1,h2,h3,fun q kk hmem=> ?_⟩,fun bb oo ⟨pp,hpp,e⟩=>⟨pp,by rw[hJ] at hpp;exact hpp,e⟩⟩;obtain⟨q',c',k1,k2,rfl⟩:=X9 hmem;rw[AO] at k2;obtain⟨u',l,vv,g1,g2,g3⟩:=h4 q' c' k1;exact⟨u',l,vv,by rw[aV5];exact aDu hbY g1,by rw[aV5];exact g2,by rw[(LO hH hm hr hb hf k2).2];exact g3⟩
  simp only[ED] at hbn;split at hbn
  .rename_i hp;simp only[aVr,aV0,true_and] at hbn;subst hbn;exact wS y (.inl ⟨hp,rfl⟩)
  .obtain⟨y2,hy,hq⟩:=aDp hbn;simp only[aV0,true_and] at hq;subst hq;exact wS y2 (.inr hy)
theorem a1G {c k:Nat}{b0 b:qB}(hW:W[c]? =some (.tok k)) (hR:r.H[c]? =some b0) (hbk:AI k b0=some (k,b)):
  AM (uJ g g' base W (qH upd)) w' k b/\∀bb oo,sG (uJ g g' base W (qH upd)) k b bb oo->sG g' c b0 bb oo:=by
 obtain⟨hJ,hcur⟩:=aDr hH hm hr hb hf hW;have hblk:=hr.heap.blk c _ (by rw[y4];exact hR);cases b0 with
 |dead=>
  simp only[AI,aVr,aV0,true_and] at hbk;subst hbk;exact⟨trivial,fun _ _ h=>h.elim⟩
 |grow e m n=>
  simp only[AI,aVr,aV0,true_and] at hbk;subst hbk;obtain⟨u,xs,hv,h1,h2,h3⟩:=hblk;exact⟨⟨u,xs,by rw[hcur];exact hv,h1,fun m hm'=>by rw[hcur];exact h2 m hm',h3⟩,fun bb oo ⟨v',hv',hb'⟩=>⟨v',by rw[hcur] at hv';exact hv',hb'⟩⟩
 |row e t l n=>
  simp only[AI] at hbk;split at hbk
  .rename_i hp;simp only[aVr,aV0,true_and] at hbk;subst hbk;obtain⟨h0,u,xs,hv,h1,h4,h2,h3⟩:=hblk;exact⟨⟨h0,u,xs,by rw[hcur];exact hv,h1,DF (fun _ _ h=>wN (g:=g') (g':=uJ g g' base W (qH upd)) rfl hp h) h4,fun m hm'=>by rw[hcur];exact h2 m hm',h3⟩,fun bb oo ⟨v',hv',hb'⟩=>⟨v',by rw[hcur] at hv';exact hv',hb'⟩⟩
  .cases hbk
 |iter s n=>simp [AI] at hbk
 |map s v l=>
  simp only[AI] at hbk;split at hbk
  .rename_i hp;rw[aVG] at hp;simp only[aVr,aV0,true_and] at hbk;subst hbk;obtain⟨p,es,cl,hp1,hp0,hh,hM,hS⟩:=hblk;exact⟨⟨p,es,cl,by rw[hJ];exact hp1,hp0,hh,R7 (g:=g') (g':=uJ g g' base W (qH upd)) rfl hp.1 hp.2 hM,hS⟩,fun bb oo ⟨pp,hpp,e⟩=>⟨pp,by rw[hJ] at hpp;exact hpp,e⟩⟩
  .cases hbk
 |cells t y ts=>simp [AI] at hbk
theorem aNb {side:List Prop}{s:qC}{rds:pQ}{vv:pS}(hs:rX (uJ g g' base W (qH upd)) w' s vv):sI g w H ⟨side,s,upd,rds⟩ (uJ g g' base W (qH upd)) w' vv:=by
 have le:=aDs hH hm hr hb hf;have fr:=aNa hH hm hr hb hf;have gho: ∀i,i∉qH upd->(uJ g g' base W (qH upd)).J i=g.J i/\(uJ g g' base W (qH upd)).cur i=g.cur i:=fun i hi=>
  aDq hH hm hr hb hf (fun h=>hi h.2) (X8 fun c hc=>hi ((FX hH hm hr hb hf hc).1))
 have perm: ∀i blk b o,i∈qH upd->qE (qY upd H) i=some blk->sG (uJ g g' base W (qH upd)) i blk b o->w.heap.size<=b\/t8 g H (qH upd) b o:=by
  intro i blk b o hi hg ho;rcases XA hH hm hr hb hf hi hg with⟨c,i',u,x,toks,off,b0,h1,h2,h3,h4⟩ |⟨c,k,b0,h1,h2,h3,h4⟩ |⟨c,b0,h1,h2,h3,h4⟩
  .subst h2;obtain⟨_,k2,_⟩:=a1E hH hm hr hb hf h1 h3 h4;exact .inr ⟨i,_,hi,(k2 b o ho).2,(k2 b o ho).1⟩
  .subst h2;obtain⟨_,k2⟩:=a1G hH hm hr hb hf h1 h3 h4;exact(hr.perm c b0 b o h3 (k2 b o ho)).imp id fun h=>a1D hH hm hr hb hf h
  .rw[aV5] at h2 h4;subst h2;obtain⟨_,k2⟩:=a1F hH hm hr hb hf h3 h1 h4;exact(hr.perm c b0 b o h1 (k2 b o ho)).imp id fun h=>a1D hH hm hr hb hf h
 refine⟨le,hs,hH.upd le fr perm gho (fun i blk hi hg=> ?_) (fun i j bi bj b o hi hj hij hgi hgj hoi hoj=> ?_) (fun b o h=>hr.heap.sl b o h),fr,perm,gho,fun i u' y us h=> ?_⟩
 .rcases XA hH hm hr hb hf hi hg with⟨c,i',u,x,toks,off,b0,h1,h2,h3,h4⟩ |⟨c,k,b0,h1,h2,h3,h4⟩ |⟨c,b0,h1,h2,h3,h4⟩
  .subst h2;exact(a1E hH hm hr hb hf h1 h3 h4).1
  .subst h2;exact(a1G hH hm hr hb hf h1 h3 h4).1
  .rw[aV5] at h2 h4;subst h2;exact(a1F hH hm hr hb hf h3 h1 h4).1
 .have cls: ∀{i:Nat}{blk:qB},i∈qH upd->qE (qY upd H) i=some blk->sG (uJ g g' base W (qH upd)) i blk b o->
    (∃c u x toks off b0,W[c]? =some (.box i u x toks off)/\r.H[c]? =some b0/\sG g i (.cells u x toks) b o/\qE H i=some (.cells u x toks)/\(sG g' c b0 b o\/(b<w.heap.size/\¬yX (w5 g W) (qR 0 L) b o)))\/
    (∃c b0,B5 base r.H.length c W[c]? =some i/\r.H[c]? =some b0/\sG g' c b0 b o):=by
   intro i blk hi hg ho;rcases XA hH hm hr hb hf hi hg with⟨c,i',u,x,toks,off,b0,h1,h2,h3,h4⟩ |⟨c,k,b0,h1,h2,h3,h4⟩ |⟨c,b0,h1,h2,h3,h4⟩
   .subst h2;obtain⟨_,k2,k3⟩:=a1E hH hm hr hb hf h1 h3 h4;exact .inl ⟨c,u,x,toks,off,b0,h1,h3,(k2 b o ho).1,(k2 b o ho).2,k3 b o ho⟩
   .subst h2;obtain⟨_,k2⟩:=a1G hH hm hr hb hf h1 h3 h4;exact .inr ⟨c,b0,by rw[h1];rfl,h3,k2 b o ho⟩
   .rw[aV5] at h2 h4;subst h2;obtain⟨_,k2⟩:=a1F hH hm hr hb hf h3 h1 h4;exact .inr ⟨c,b0,by rw[h3];simp only[B5];rw[aVs (aVK.1 h1).1],h1,k2 b o ho⟩
  have cross: ∀{c c':Nat}{b0 b1:qB},c≠c'->r.H[c]? =some b0->r.H[c']? =some b1->sG g' c b0 b o->sG g' c' b1 b o->False:=fun hne h1 h2 o1 o2=>
   hr.heap.dis _ _ _ _ b o hne (by rw[y4];exact h1) (by rw[y4];exact h2) o1 o2
  rcases cls hi hgi hoi with⟨c,u,x,toks,off,b0,h1,h2,h3,h4,h5⟩ |⟨c,b0,h1,h3,h4⟩<;>rcases cls hj hgj hoj with⟨c',u',x',toks',off',b0',k1,k2,k3,k4,k5⟩ |⟨c',b0',k1,k3,k4⟩
  .exact hH.dis i j _ _ b o hij h4 k4 h3 k3
  .rcases h5 with h5|⟨h5,h6⟩
   .exact cross (fun e=>by subst e;rw[h1] at k1;cases k1) h2 k3 h5 k4
   .rcases hr.perm c' b0' b o k3 k4 with h|h
    .omega
    .exact h6 h
  .rcases k5 with k5|⟨k5,k6⟩
   .exact cross (fun e=>by subst e;rw[k1] at h1;cases h1) h3 k2 h4 k5
   .rcases hr.perm c b0 b o h3 h4 with h|h
    .omega
    .exact k6 h
  .exact cross (fun e=>by subst e;rw[h1] at k1;exact hij (aVx k1)) h3 k3 h4 k4
 .by_cases hi:i∈qH upd
  .rcases XA hH hm hr hb hf hi h with⟨c,i',u,x,toks,off,b0,h1,h2,h3,h4⟩ |⟨c,k,b0,h1,h2,h3,h4⟩ |⟨c,b0,h1,h2,h3,h4⟩
   .subst h2;obtain⟨_,_,bL,hL,hok⟩:=FX hH hm hr hb hf h1;cases b0 with
    |cells t y0 ts=>
     obtain⟨y2,z,_,hset,hq⟩:=a1B h4;simp only[aV0,qB.cells.injEq,true_and] at hq;obtain⟨rfl,_⟩:=hq;cases bL with
     |cells=>exact .inl ⟨x,toks,hok.1⟩
     |_=>exact hok.elim
    |grow=>simp [yH] at h4
    |row=>simp [yH] at h4
    |map=>simp [yH] at h4
    |iter=>simp [yH] at h4
    |dead=>simp [yH] at h4
   .cases b0 with
    |cells t y0 ts=>simp [AI] at h4
    |iter=>simp [AI] at h4
    |map=>simp only[AI] at h4;split at h4<;>simp at h4
    |row=>simp only[AI] at h4;split at h4<;>simp at h4
    |_=>simp [AI] at h4
   .rw[aV5] at h2;exact .inr (hf i hi pG)
  .exact .inl ⟨y,us,(CQ hi).symm.trans h⟩
end
section
variable {P:Program}{g:Gh}{w:pR}
def aNc (P:Program) (g:Gh) (w:pR) (d:Nat) (ty:Ty) (x y:ty.den):a05->Prop
 | .ty t=> ∀vx vy,tX g w ty x vx->tX g w ty y vy->∃b,CC ty x y=some b/\(Op.equalIn (d+1) t vx vy).run P w= .ok b w
 | .fs o l=> ∀px py cx cy,px.length=o->py.length=o->Rd g w ty x cx->Rd g w ty y cy->∃b,CC ty x y=some b/\(Op.eqFields (d+1) (px++cx).toArray (py++cy).toArray l).run P w= .ok b w
 | .el e i m=> ∀px py cx cy,px.length=i*P.cellsOf e->py.length=i*P.cellsOf e->Rd g w ty x cx->Rd g w ty y cy->∃b,CC ty x y=some b/\(Op.eqItems (d+1) e (P.cellsOf e) (px++cx).toArray (py++cy).toArray (List.range' i m)).run P w= .ok b w
theorem aNd {e:TypeId}{n:Nat}(h:(P.info? e).map (·.size)=some n):P.cellsOf e=n:=by
 obtain⟨i,h1,h2⟩:=aVA.1 h;simp [Program.cellsOf,h1,h2]
theorem zH.run {n:Nat}{ix:a05}{ty:Ty}(h:zH P n ix ty): ∀(d:Nat),n<=d->∀x y:ty.den,aNc P g w d ty x y ix:=by
 induction h with
 |bool hu=>
  intro d _ x y vx vy hx hy;obtain rfl:=wE hx;obtain rfl:=wE hy;exact⟨_,rfl,run_equalIn_bool' w d _ _ _ hu⟩
 |int hu=>
  intro d _ x y vx vy hx hy;obtain rfl:=wX hx;obtain rfl:=wX hy;refine⟨_,rfl,(run_equalIn_int w d _ _ _ _ _ hu).trans ?_⟩;congr 1
 |str hu=>
  intro d _ x y vx vy hx hy;obtain rfl:=xA hx;obtain rfl:=xA hy;refine⟨_,rfl,(run_equalIn_string w d _ _ _ hu).trans ?_⟩;congr 1;rw[ByteArray.toList_eq,ByteArray.toList_eq];exact RC _ _
 | @struct h0 t0 fs0 ty0 hr hu hs _ ih=>
  intro d hd x y vx vy hx hy;obtain⟨cx,rfl,rx⟩:=LM hr hx;obtain⟨cy,rfl,ry⟩:=LM hr hy;obtain⟨d,rfl⟩: ∃d',d=d'+1:=⟨d-1,pG⟩;obtain⟨b,h1,h2⟩:=ih d pG x y [] [] cx cy rfl rfl rx ry;refine⟨b,h1,?_⟩;have hf:P.fieldsOf t0=fs0:=by unfold Program.fieldsOf;rw[hu]
  rw[run_equalIn_struct w _ _ _ _ (by rw[hf];exact hu) hs,hf];simpa using h2
 |arr hr hu hi _ ih=>
  intro d hd x y vx vy hx hy;obtain⟨cx,rfl,rx⟩:=LM hr hx;obtain⟨cy,rfl,ry⟩:=LM hr hy;obtain⟨d,rfl⟩: ∃d',d=d'+1:=⟨d-1,pG⟩;obtain⟨b,h1,h2⟩:=ih d pG x y [] [] cx cy pI pI rx ry;refine⟨b,h1,?_⟩;obtain⟨i,hi⟩:=aVt.1 hi;rw[run_equalIn_array w _ _ _ hu hi,List.range_eq_range'];simpa using h2
 |nil=>
  intro d _ x y px py cx cy _ _ _ _;exact⟨true,rfl,by simp [Op.eqFields]⟩
 |anil=>
  intro d _ x y px py cx cy _ _ _ _;exact⟨true,rfl,by simp [Op.eqItems]⟩
 | @cons h o f r a b hn ho hsz hrow _ _ iha ihb=>
  intro d hd x y px py cx cy hpx hpy ⟨x1,x2,ex,rx1,rx2⟩ ⟨y1,y2,ey,ry1,ry2⟩;subst ex;subst ey;obtain⟨vx,p1,v1⟩:=RD (P:=P) (c1:=px) (c3:=x2) hsz hrow rx1;obtain⟨vy,p2,v2⟩:=RD (P:=P) (c1:=py) (c3:=y2) hsz hrow ry1;obtain⟨b1,e1,r1⟩:=iha d hd x.1 y.1 vx vy v1 v2;obtain⟨b2,e2,r2⟩:=ihb d hd x.2 y.2 (px++x1) (py++y1) x2 y2 (by rw[aVu,hpx,t7 rx1]) (by rw[aVu,hpy,t7 ry1]) rx2 ry2;refine⟨b1&&b2,by simp only[CC,e1,e2,CC.eqAnd],?_⟩;rw[aVy] at p1 p2 r2;rw[aVy] at r2;rw[hpx,<-ho] at p1;rw[hpy,<-ho] at p2;simp only[Op.eqFields,aVs hn,aVM,p1,p2,aVC,r1];cases b1
  .simp
  .simpa using r2
 | @acons h e i m a b hsz hrow _ _ iha ihb=>
  intro d hd x y px py cx cy hpx hpy ⟨x1,x2,ex,rx1,rx2⟩ ⟨y1,y2,ey,ry1,ry2⟩;subst ex;subst ey;have hc:=aNd hsz;obtain⟨vx,p1,v1⟩:=RD (P:=P) (c1:=px) (c3:=x2) hsz hrow rx1;obtain⟨vy,p2,v2⟩:=RD (P:=P) (c1:=py) (c3:=y2) hsz hrow ry1;obtain⟨b1,e1,r1⟩:=iha d hd x.1 y.1 vx vy v1 v2;obtain⟨b2,e2,r2⟩:=ihb d hd x.2 y.2 (px++x1) (py++y1) x2 y2 (by rw[aVu,hpx,t7 rx1,hc,aWz]) (by rw[aVu,hpy,t7 ry1,hc,aWz]) rx2 ry2;refine⟨b1&&b2,by simp only[CC,e1,e2,CC.eqAnd],?_⟩;rw[aVy] at p1 p2 r2;rw[aVy] at r2;rw[hpx] at p1;rw[hpy] at p2;simp only[aXB,Op.eqItems,aVM,p1,p2,aVC,r1];cases b1
  .simp
  .simpa using r2
variable {o:Oper}{a:Act}{H:sE}{T:sV}(hT:y3 P T) (hH:sL g w H)
include hT hH
theorem aNe {op:BinOp}{xt yt:TypeId}{x y:Operand}(ho:o.op= .binOp op xt x y yt) {sx sy:qC}(hx:rX g w sx (a.eval x)) (hy:rX g w sy (a.eval y)) {e:qT}
  (hr:B2 (a0h (rZ T xt) op sx sy)=some e):rN P o a g w H e:=by
 obtain⟨q,hq,rfl⟩:=JB hr;have go: ∀{u v:pS},a.eval x=u->a.eval y=v->(∃z,(do eqGuard op xt x y u v;Go.binOp op xt u v:Sem pS).run P w= .ok z w/\AL g w q.2 z)->rN P o a g w H ⟨q.1,(q.2,none),[],[]⟩:=by
  rintro u v rfl rfl ⟨z,hz,hd⟩;refine rN.pure hH (v:=z) ?_ hd;unfold execOp;rw[ho];simp only[aVM,aVU] at hz|-;rw[hz];rfl
 replace hx:=hx.1;replace hy:=hy.1;generalize hti:rZ T xt=oti at hq;unfold a0h at hq;split at hq
 .rename_i u el by' ar ls_ t l k k';have hd:=(tI hT hti).2;simp only[yV] at hd;obtain⟨ax,cx,ex,hle,hll⟩:=DG hx;have hnil:ax=none->l=[]:=fun h=>by
   rcases hll with h1|⟨b,o,h1,_⟩
   .exact h1
   .rw[h] at h1;cases h1
  have ey:a.eval y= .slice none 0 0:=hy;refine go ex ey ?_;unfold V1 at hq;split at hq
  .cases hq;have h1:(do eqGuard .eql xt x y (.slice ax (List.length l) cx) (.slice none 0 0);Go.binOp .eql xt (.slice ax (List.length l) cx) (.slice none 0 0):Sem pS).run P w= .ok (.bool ax.isNone) w:=by
    simp only[aVM];rw[show (eqGuard .eql xt x y (.slice ax (List.length l) cx) (.slice none 0 0)).run P w= .ok () w from by simp [eqGuard]];exact Lib.run_eql_slice_nil (P:=P) w xt _ ax (List.length l) cx 0 0 hd.1
   exact⟨_,h1,_,rfl,fun h=>hnil (by simpa using h),fun _=>trivial⟩
  .cases hq;have h1:(do eqGuard .neq xt x y (.slice ax (List.length l) cx) (.slice none 0 0);Go.binOp .neq xt (.slice ax (List.length l) cx) (.slice none 0 0):Sem pS).run P w= .ok (.bool (!ax.isNone)) w:=by
    simp only[aVM];rw[show (eqGuard .neq xt x y (.slice ax (List.length l) cx) (.slice none 0 0)).run P w= .ok () w from by simp [eqGuard]];exact run_neq_slice_nil_any (P:=P) w xt _ ax (List.length l) cx 0 0 hd.1
   exact⟨_,h1,_,rfl,fun _=>trivial,fun h=>hnil (by simpa using h)⟩
  .cases hq
 .rename_i u el by' ar ls_ k t l k';have hd:=(tI hT hti).2;simp only[yV] at hd;obtain⟨ay,cy,ey,hle,hll⟩:=DG hy;have hnil:ay=none->l=[]:=fun h=>by
   rcases hll with h1|⟨b,o,h1,_⟩
   .exact h1
   .rw[h] at h1;cases h1
  have ex:a.eval x= .slice none 0 0:=hx;refine go ex ey ?_;unfold V1 at hq;split at hq
  .cases hq;have h1:(do eqGuard .eql xt x y (.slice none 0 0) (.slice ay (List.length l) cy);Go.binOp .eql xt (.slice none 0 0) (.slice ay (List.length l) cy):Sem pS).run P w= .ok (.bool ay.isNone) w:=by
    simp only[aVM];rw[show (eqGuard .eql xt x y (.slice none 0 0) (.slice ay (List.length l) cy)).run P w= .ok () w from by simp [eqGuard]];exact run_eql_nil_slice (P:=P) w xt _ ay (List.length l) cy 0 0 hd.1
   exact⟨_,h1,_,rfl,fun h=>hnil (by simpa using h),fun _=>trivial⟩
  .cases hq;have h1:(do eqGuard .neq xt x y (.slice none 0 0) (.slice ay (List.length l) cy);Go.binOp .neq xt (.slice none 0 0) (.slice ay (List.length l) cy):Sem pS).run P w= .ok (.bool (!ay.isNone)) w:=by
    simp only[aVM];rw[show (eqGuard .neq xt x y (.slice none 0 0) (.slice ay (List.length l) cy)).run P w= .ok () w from by simp [eqGuard]];exact run_neq_nil_slice (P:=P) w xt _ ay (List.length l) cy 0 0 hd.1
   exact⟨_,h1,_,rfl,fun _=>trivial,fun h=>hnil (by simpa using h)⟩
  .cases hq
 .rename_i u el b ar ls_ t x' k t' y' k';unfold aBF at hq;split at hq
  .rename_i htt;subst htt;split at hq
   .rename_i hc;obtain⟨rfl,hc⟩:=hc;simp only[v8] at hq;obtain⟨r,hr1,hr2⟩: ∃r,CC t' x' y'=some r/\((op= .eql/\q=([],.val .bool r))\/(op= .neq/\q=([],.val .bool (!r)))):=by
     generalize hgen:CC t' x' y'=od at hq;unfold aBD at hq;split at hq
     .rename_i r;cases hq;exact⟨r,rfl,.inl ⟨rfl,rfl⟩⟩
     .rename_i r;cases hq;exact⟨r,rfl,.inr ⟨rfl,rfl⟩⟩
     .cases hq
    have hti':=tI hT hti;rcases hc with rfl|⟨hrow,rfl⟩
    .have hd:=hti'.2;simp only[yV] at hd;obtain hbx:=wE hx;obtain hby:=wE hy;refine go hbx hby ?_;have hrr:r=(x'==y'):=(aVx hr1).symm;subst hrr;have hrun:=run_equalIn_bool' (P:=P) w 9999 xt x' y' hd;rcases hr2 with⟨rfl,rfl⟩ |⟨rfl,rfl⟩
     .refine⟨.bool (x'==y'),?_,xB _ _ _⟩;simp only[aVM];rw[show (eqGuard .eql xt x y (.bool x') (.bool y')).run P w= .ok () w from by simp [eqGuard]];simp only[aVC,Go.binOp,Op.equal,Op.maxDepth,aVM,hrun,aVU]
     .refine⟨.bool (!(x'==y')),?_,xB _ _ _⟩;simp only[aVM];rw[show (eqGuard .neq xt x y (.bool x') (.bool y')).run P w= .ok () w from by simp [eqGuard]];simp only[aVC,Go.binOp,Op.equal,Op.maxDepth,aVM,hrun,aVU]
    .have h2:=hti'.2;have heq:P.eqGuardType P.depth xt=false/\∃h,h<9000/\zH P h (.ty xt) t':=by
      unfold yV at h2;cases t'<;>simp only[Ty.isRow,aXd] at hrow
      all_goals exact h2.2 rfl
     obtain⟨hg1,hh,hlt,hE⟩:=heq;obtain⟨cx,ex,rx⟩:=LM hrow hx;obtain⟨cy,ey,ry⟩:=LM hrow hy;obtain⟨b',hb1,hb2⟩:=hE.run (g:=g) (w:=w) 9999 pG x' y' _ _ hx hy;rw[hr1] at hb1;obtain rfl:=aVx hb1;rw[ex,ey] at hb2;refine go ex ey ?_;rcases hr2 with⟨rfl,rfl⟩ |⟨rfl,rfl⟩
     .refine⟨.bool r,?_,xB _ _ _⟩;simp only[aVM];rw[run_eqGuard_agg w _ _ _ _ _ _ hg1];simp only[aVC];rw[run_eql_struct,hb2];rfl
     .refine⟨.bool (!r),?_,xB _ _ _⟩;simp only[aVM];rw[run_eqGuard_agg w _ _ _ _ _ _ hg1];simp only[aVC];rw[run_neq_struct,hb2];rfl
   .cases hq
  .cases hq
 .cases hq
end
end Go.Proofs.YtkpflnijijccpaaGreatDoor.Vc
namespace Go.Proofs.YtkpflnijijccpaaGreatDoor.Vc
open Go.RowKit
theorem aNf (s:pD):Lib.strCells ⟨s.toArray⟩=s.map fun b=>Value.int .u8 b.toNat:=by
 simp [Lib.strCells]
theorem aNg {P:Program}(w:pR) (t u ty e:TypeId) (i:TypeInfo) (ht:P.underlying t=some (.slice e)) (hu:P.underlying u=some .string) (hi:P.info? e=some i) (hz:i.zero=some (.int .u8 0))
  (hsize:i.size=1) (hby:i.bytes=1) (v:pS) (n:Nat) (xs:pN) (hown:w.ownsRow 0 e 1 v n xs) (s:ByteArray) (hm:0<s.size)
  (h63:n+s.size<=maxLen) (hbytes:n+s.size<=140737488355328):
  ∃q cap w',(Builtin.append_ #[t,u] ty #[v,.string s]).run P w= .ok (.slice (some ⟨q,0,none⟩) (n+s.size) cap) w'/\w'.ownsRow 0 e 1 (.slice (some ⟨q,0,none⟩) (n+s.size) cap) (n+s.size) (xs++Lib.strCells s)/\
   (q=w.heap.size\/v.ownBlock=some q)/\w.grownBy w' v.ownBlock/\n+s.size<=cap/\
   ∀b o,b<w.heap.size->(v.ownBlock=some b->o<n*1)->w'.cell? ⟨b,o,none⟩=w.cell? ⟨b,o,none⟩:=by
 have hsmall:n+s.size<=9223372036854775807:=by simp only[maxLen] at h63;omega
 have hxl:xs.length=n:=by simpa using hown.1
 have hlen:(xs++Lib.strCells s).length=(n+s.size)*1:=by rw[aVu,hxl,Lib.strCells_length,aXg]
 have grown: ∀(old:Nat),old<n+s.size->∀(row:pP),
   (w.drew.alloc (.cells (xs.toArray++(Lib.strCells s).toArray++Builtin.zeroCells (Value.int .u8 0).cells (grownCap w (n+s.size) old e- (n+s.size))) e)).ownsRow 0 e 1
    (.slice (some ⟨w.heap.size,0,none⟩) (n+s.size) (grownCap w (n+s.size) old e)) (n+s.size) (xs++Lib.strCells s)/\
   w.grownBy (w.drew.alloc (.cells (xs.toArray++(Lib.strCells s).toArray++Builtin.zeroCells (Value.int .u8 0).cells (grownCap w (n+s.size) old e- (n+s.size))) e)) row/\n+s.size<=grownCap w (n+s.size) old e/\
   ∀b o,b<w.heap.size->(w.drew.alloc (.cells (xs.toArray++(Lib.strCells s).toArray++Builtin.zeroCells (Value.int .u8 0).cells (grownCap w (n+s.size) old e- (n+s.size))) e)).cell? ⟨b,o,none⟩=w.cell? ⟨b,o,none⟩:=by
  intro old ho row;have hge:=grownCap_ge w (n+s.size) old e;have hcm:grownCap w (n+s.size) old e<=maxLen:=grownCap_le_maxLen w (n+s.size) old e h63;refine⟨⟨hlen,.inr ⟨w.heap.size,_,_,rfl,aWC _,aXw w.drew _,hge,hcm,?_,?_⟩⟩,⟨rfl,rfl,rfl,by simp,fun k hk _=>aV3 w.drew _ k hk⟩,hge,fun b o hb=>aVT (w:=w) (a:=⟨b,o,none⟩) (aV3 w.drew _ b hb)⟩
  .have hz1:(Value.int IntKind.u8 0).cells.size=1:=rfl;simp only[aXj,aWn,size_zeroCells,hz1,hxl,Lib.strCells_length];omega
  .simp only[Array.toList_append,aVy];rw[<-aVy,<-hlen];exact aWs
 rcases hown.2 with⟨rfl,rfl⟩ |⟨g,cap,cur,rfl,hbg,hg,hnc,hcm,hcs,htake⟩
 .have hx:xs=[]:=aV2 hxl;subst hx;have hr:=run_append_nil_string (P:=P) w t u ty e i (.int .u8 0) ht hu hi hz s pG pG (by rw[hby];omega);have hgr:=grown 0 pG (Value.ownBlock (.slice none 0 0));simp only[aV5,List.nil_append,Array.empty_append] at hgr|-;have e1:(s.data.map fun b=>Value.int .u8 b.toNat)=(Lib.strCells s).toArray:=by
   apply Array.ext';simp [Lib.strCells]
  rw[e1] at hr;exact⟨_,_,_,hr,hgr.1,.inl rfl,hgr.2.1,hgr.2.2.1,fun b o hb _=>hgr.2.2.2 b o hb⟩
 .by_cases hroom:n+s.size<=cap
  .have hcs':cur.size=cap:=by simpa using hcs
   have hr:=Lib.run_append_room_string (P:=P) w t u ty e i ht hu hi hsize g n cap cur hg s hroom pG;refine⟨_,_,_,hr,⟨hlen,.inr ⟨g,cap,_,rfl,hbg,aXp w g cur _ e _ hg,hroom,hcm,?_,?_⟩⟩,.inr rfl,⟨rfl,rfl,rfl,by simp,fun k _ hk=>aW2 w g k _ (fun e=>hk (by simp [Value.ownBlock,e]))⟩,hroom,fun b o hb hso=> ?_⟩
   .simp only[aWn,aVu,aVQ,aVO,aV6,Lib.strCells_length];omega
   .have ht':cur.toList.take n=xs:=by simpa using htake
    rw[ht',<-hlen];exact aWs
   .by_cases hbg':b=g
    .subst hbg';have ho:=hso rfl;rw[cell_setRow_same w b o cur _ e _ hg,cell_of_row w b o cur e (0,0) hg];have hlt:o<(cur.toList.take n).length:=by rw[aVQ,aV6];omega
     have hlt2:o<cur.size:=by rw[aVQ,aV6] at hlt;omega
     simp only[List.getElem?_toArray,aVy];rw[aVN hlt,aWL,aVs pG];simp
    .exact aVT (a:=⟨b,o,none⟩) (aW2 w g b _ hbg')
  .have holds: ∀j u,xs[j]? =some u->w.cell? ((⟨g,0,none⟩:Addr).add j)=some u:=hown.cells (g:=g) rfl;have hr:=Lib.run_append_grow_string (P:=P) w t u ty e i (.int .u8 0) ht hu hi hz ⟨g,0,none⟩ n cap xs (by rw[hsize];simpa using hxl) holds s pG pG (by rw[hby];exact growslice_fits pG pG);have hgr:=grown cap pG (Value.ownBlock (.slice (some ⟨g,0,none⟩) n cap));exact⟨_,_,_,hr,hgr.1,.inl rfl,hgr.2.1,hgr.2.2.1,fun b o hb _=>hgr.2.2.2 b o hb⟩
theorem aNh {P:Program}(w:pR) (t u ty e:TypeId) (i:TypeInfo) (ht:P.underlying t=some (.slice e)) (hu:P.underlying u=some .string) (hi:P.info? e=some i) (hsize:i.size=1) (ad:Option Addr) (n c:Nat) (hle:n<=c):
  (Builtin.append_ #[t,u] ty #[.slice ad n c,.string ⟨#[]⟩]).run P w= .ok (.slice ad n c) w:=by
 have hf:=Lib.run_firstCells_string (P:=P) w 1 ⟨#[]⟩;have hm:(⟨#[]⟩:ByteArray).size=0:=rfl;rw[hm] at hf;cases ad<;>simp [Builtin.append_,aVP ht,aVP hu,sizeOf,typeInfo,hi,hsize,Builtin.lenOf,hm,hf,hle,Lib.strCells,storeCells]
theorem aDx (g:Gh) (w:pR): ∀s:pD,uE (Rd g w (.int .u8)) 1 (uY s) (s.map fun b=>Value.int .u8 b.toNat)
 |[]=>rfl
 |b::s=>⟨[.int .u8 b.toNat],_,rfl,rfl,rfl,aDx g w s⟩
section
variable {P:Program}{o:Oper}{a:Act}{g:Gh}{w:pR}{H:sE}{T:sV}(hT:y3 P T) (hH:sL g w H)
include hT hH
theorem aNi {t t':TypeId}{x:Operand}(ho:o.op= .convert t t' x) {sx:qC}(hx:rX g w sx (a.eval x)) {e:qT}
  (hr:B2 (a0k T (rZ T t) (rZ T t') sx)=some e):rN P o a g w H e:=by
 obtain⟨q,hq,rfl⟩:=JB hr;replace hx:=hx.1;generalize h1:rZ T t=o1 at hq;generalize h2:rZ T t'=o2 at hq;unfold a0k at hq;split at hq
 .rename_i e b1 a1 l1 e2 b2 a2 l2 l k;generalize h3:rZ T e=o3 at hq;unfold aBG at hq;split at hq
  .cases hq;have d1:=(tI hT h1).2;have d2:=(tI hT h2).2;have d3:=(tI hT h3).2;simp only[yV] at d1 d2 d3;obtain⟨ad,cap,hv,hle,hl⟩:=DG hx;refine rN.pure hH (v:= .string ⟨(uA l).toArray⟩) ?_ (BR _ _ _);simp only[execOp,ho,hv,aVM];have run:(convert t t' (.slice ad (List.length l) cap)).run P w= .ok (.string ⟨(uA l).toArray⟩) w:=by
    rcases hl with rfl|⟨b,off,rfl,hL⟩
    .rw[run_convert_bytes_string w t t' e ad _ cap d1.1 d3 d2];cases ad with
     |none=>simp [Conv.bytesToString,uA];rfl
     |some ad=>simp [Conv.bytesToString,loadCells,loadCellsFrom,uA];rfl
    .have:=run_convert_bytes_arg (P:=P) w t e d1.1 d3 b off (List.length l) cap l rfl (fun i hi=>by
      obtain⟨cs,_,c2,_,c4⟩:=O0 hL (aVF hi);have c5:cs=[.int .u8 (l[i]:Int)]:=c4;subst c5;have:=c2 0 _ rfl;have hcell:Ty.cells (.int .u8)=1:=rfl;rw[hcell,aXg,aWr] at this;rw[this,aVY,aVF hi];rfl) t' d2
     exact this
   rw[run];rfl
  .cases hq
 .cases hq
theorem aNj {args:Array Operand}{tys:Array TypeId}(ho:o.op= .call ⟨.builtin .append,args,tys⟩) {ρ:Operand->qC}(hρ: ∀x∈args.toList,rX g w (ρ x) (a.eval x)) {e:qT}
  (hr:W8 T H (wD ρ args.toList) tys.toList=some e) (hs: ∀p∈e.side,p):rN P o a g w H e:=by
 unfold W8 at hr;split at hr
 .rename_i t u htu;have htys:tys= #[t,u]:=by apply aWF.1;rw[htu]
  split at hr
  .rename_i e1;subst e1;exact aMD hT hH ho hρ htys hr hs
  .clear htu;subst htys;generalize hst:rZ T t=ot at hr;generalize hsu:rZ T u=ou at hr;generalize hss:wD ρ args.toList=ss at hr;unfold a0S at hr;split at hr
   .rename_i el ar ls_ e2 b2 a2 ls2 l k s k2;generalize hk:qE H k=ob at hr;unfold W7 at hr;split at hr
    .rename_i e' c n;split at hr
     .rename_i hec;obtain⟨rfl,rfl⟩:=hec;cases hr;rw[aVu];have hsl:List.length (uY s)=List.length s:=by simp [uY]
      rw[hsl];have hln:=hs _ (by simp:(List.length l=n)∈_);have hby:=hs _ (by simp:(List.length l+List.length s<=140737488355328)∈_);obtain⟨v,vr,hv,hs1,hs2⟩:=WU hT hH hρ hss;obtain⟨h2,h3,_⟩:=(tI hT hst).2;have hu:=(tI hT hsu).2;simp only[yV] at hu;obtain⟨ei,hei,hz⟩:=aVA.1 h3;simp only[aV0] at hz;obtain⟨cs,hx⟩:=HE (a:=a) hT hH ho;obtain⟨v0,xs,hv0,hown,hnone,hseal⟩:=hH.blk k _ hk;have hcur:g.cur k (List.length l)=some v:=hs1.2;rw[hln,hv0] at hcur;obtain rfl:=aVx hcur;obtain⟨adl,capl,hvl,hlel,hll⟩:=DG hs1.1;have hvr:=xA hs2.1;have hsz:(⟨List.toArray s⟩:ByteArray).size=List.length s:=by simp [ByteArray.size]
      by_cases hm:List.length s=0
      .obtain rfl:s=[]:=aV2 hm;have hget: ∀i,qE (qY [(k,qB.grow e' 1 (List.length l+List.length ([]:pD)))] H) i=qE H i:=by
        intro i;simp only[qY,qE];by_cases hi:k=i
        .subst hi;rw[aVs rfl,hk,hln];rfl
        .rw[aVv hi]
       have hkeep:sI g w H ⟨[List.length l=n,List.length l+List.length ([]:pD)<=140737488355328],(.val (.list (.int .u8)) (l++uY []),some k),[(k,.grow e' 1 (List.length l+List.length ([]:pD)))],[k]⟩ g w v0:=by
        refine⟨.refl _ _,?_,⟨fun i b h=>hH.blk i b ((hget i).symm.trans h),fun i j bi bj b o' hij h1 h2=>hH.dis i j bi bj b o' hij ((hget i).symm.trans h1) ((hget j).symm.trans h2),hH.sl,hH.tab.1,fun i blk b o' h ho'=>hH.tab.2 i blk b o' ((hget i).symm.trans h) ho'⟩,.refl _ _ _,fun i blk b o' hi hg ho'=> .inr ⟨i,blk,hi,(hget i).symm.trans hg,ho'⟩,fun _ _=>⟨rfl,rfl⟩,fun i u' y us h=> .inl ⟨y,us,(hget i).symm.trans h⟩⟩;rw[show l++uY []=l from by simp [uY]];exact hs1
       refine rN.value (v:=v0) (w':=w) ?_ hkeep;rw[hx,hv,hvr,hvl];have:=aNh (P:=P) w t u o.type e' ei h2 hu hei (by rw[hz.1];rfl) adl (List.length l) capl hlel;simp only[builtin,aVM];rw[this];simp only[aVC,aVU]
      .have hxs:uE (Rd g w (.int .u8)) 1 l xs:=by
        by_cases h0:List.length l=0
        .obtain rfl:l=[]:=aV2 h0;have:xs=[]:=aV2 (by rw[hown.1,<-hln];simp);exact this
        .rcases hll with rfl|⟨b0,off0,rfl,hL0⟩
         .exact absurd rfl h0
         .obtain⟨ls,hF0,hra0,_⟩:=O3 hL0;rcases hown.2 with⟨e1,e2⟩ |⟨q,cap,cur,e1,e2⟩
          .exact absurd (hln.trans e2) h0
          .rw[hvl] at e1;simp only[aXv,aVr,Addr.mk.injEq] at e1;obtain⟨⟨rfl,rfl,_⟩,_,rfl⟩:=e1;have hvn:v0= .slice (some ⟨b0,0,none⟩) n capl:=by rw[hvl,hln]
           have hrx:=a1k (hvn▸hown);have:ls=xs:=by
            have hl1:=JA hF0;have hl2:=hown.1;have hc1:Ty.cells (.int .u8)=1:=rfl;rw[hc1] at hl1;apply List.ext_getElem?;intro j;by_cases hj:j<ls.length
            .have h1:=hra0 j ls[j] (aVF hj);have hj':j<xs.length:=by rw[hl2,<-hln,<-hl1];exact hj
             have h2:=hrx j xs[j] (aVF hj');rw[h1] at h2;rw[aVF hj,aVF hj',aVx h2]
            .rw[aWY pG,aWY (by rw[hl2,<-hln,<-hl1];omega)]
           rw[<-this];exact hF0
       obtain⟨q,cap,w',hrun,hown',hq,hg,hcap,hcell⟩:=aNg (P:=P) w t u o.type e' ei h2 hu hei hz.2.2 hz.1 hz.2.1 v0 n xs hown ⟨List.toArray s⟩ (by rw[hsz];omega) (by rw[hsz];unfold maxLen;omega) (by rw[hsz];omega);rw[hsz] at hrun hown' hcap;rw[aNf] at hown';refine rN.value (v:= .slice (some ⟨q,0,none⟩) (n+List.length s) cap) (w':=w') ?_ (by
        have:=sI.append (side:=[List.length l=n,List.length l+List.length s<=140737488355328]) (rds:=[k]) (u:= .int .u8) (r:=uY s) hH hk (show (1:Nat)=Ty.cells (.int .u8) from rfl) hln hv0 hown hnone hseal hxs (aDx g w s) (by rw[hsl];omega) (by rw[hsl];exact hown') hq hg (by rw[hsl];exact hcap) hcell;rw[hsl] at this;rw[hln];rw[hln] at this;exact this)
       rw[hx,hv,hvr];simp only[builtin,aVM,hrun,aVC,aVU]
     .cases hr
    .cases hr
   .cases hr
 .cases hr
end
theorem aNk {g g':Gh}{w:pR}{f:qC→qC}(hf: ∀s u,rX g w s u→rX g' w (f s) u): ∀{l:List qC}{v:pS}{s:qC},RJ g w l v→NK (l.map f)=some s→rX g' w s v:=by
  have un: ∀{l:List qC}{vs:pN}{q},vS g w l vs→H6 (l.map f)=some q→NW g' w q vs:=by
    intro l
    induction l with
    | nil=>
      intro vs q h hq;simp only[List.map_nil,H6,aVr] at hq;subst hq;exact h
    | cons s l ih=>
      rintro vs q ⟨v,vs',rfl,h1,h2⟩ hq;have h1':=hf s v h1;simp only[aWy] at hq;generalize f s=fs at hq h1';obtain⟨d,k⟩:=fs;cases d with
      | val t x=>
        simp only[H6] at hq;obtain⟨q',hq',rfl⟩:=aVA.1 hq;refine⟨v,vs',rfl,h1'.1,?_,ih h2 hq'⟩;cases k with
        |none=>trivial
        |some k=>exact h1'.2
      | own k' n=>
        simp only[H6] at hq;obtain⟨q',hq',rfl⟩:=aVA.1 hq;exact⟨v,vs',rfl,.inr ⟨rfl,v,h1'.1.1,rfl,h1'.1.2⟩,trivial,ih h2 hq'⟩
      |_=>simp [H6] at hq
  intro l v s h hs
  match l,h,hs with
  | [],⟨vs,e,h⟩,hs=>
    simp only[List.map_nil,NK,aVr] at hs;subst hs;rw[show vs=[] from h] at e;exact⟨⟨[],e,rfl⟩,trivial⟩
  | [x],h,hs=>
    simp only[aWy,List.map_nil,NK,aVr] at hs;subst hs;exact hf x v h
  | x::y::l,⟨vs,e,h⟩,hs=>
    simp only[aWy,NK,aVr] at hs;subst hs;cases hq:H6 (f x::f y::l.map f) with
    |none=>exact⟨trivial,trivial⟩
    |some q=>exact⟨⟨vs,e,un (l:=x::y::l) h (by simpa using hq)⟩,trivial⟩
theorem aDy {base n:Nat}{W:List rV}: ∀l:List qC,QM base n W l=l.map (VA base n W)
  |[]=>rfl
  |s::l=>by simp [QM,aDy l]
theorem aDz {P:Program}{f:FuncId}{sg:qW}(hcon:xR P f sg.C) {g:Gh}{w:pR}{H:sE}(hH:sL g w H) {args:List qC}{vals:pN}(hargs:vS g w args vals) {base:Nat}{e:qT}
    (hr:H7 H base args (some sg)=some e) (hs: ∀p∈e.side,p) (hfr:zO g base e):Calls P f vals.toArray w (fun en w'=> ∃v g',en= .returned v∧sI g w H e g' w' v):=by
  simp only[H7] at hr;cases hp0:yG H sg.ps args (some ⟨[],[],[],0⟩) with
  |none=>rw[hp0] at hr;cases hgs:sg.gs<;>(rw[hgs] at hr;simp [QN,BO] at hr)
  |some q0=>
   rw[hp0] at hr;cases hp:BO H sg.gs (some q0) with
   |none=>rw[hp] at hr;simp [QN] at hr
   |some q=>
    rw[hp] at hr;simp only[QN,aDo,List.append_nil] at hr;have hpo0:=aDj hH (BT.nil g w H) hargs hp0;rw[List.nil_append] at hpo0;have hpo:=aDl hH hpo0 hp;cases hcl:IZ q.ws.reverse q.H.reverse with
    |none=>rw[hcl] at hr;simp [VD] at hr
    |some L=>
    rw[hcl] at hr;simp only[VD] at hr;have hm:=hpo.m.ren hcl;cases hc:sg.C q.args.reverse L with
    |none=>rw[hc] at hr;simp [VC] at hr
    | some r=>
      rw[hc] at hr;simp only[VC,aDn] at hr;cases hbh:BP base r.H.length q.ws.reverse 0 q.ws.reverse r.H with
      |none=>rw[hbh] at hr;simp [QL] at hr
      | some upd=>
        rw[hbh] at hr;cases hrs:NK (QM base r.H.length q.ws.reverse r.ret) with
        |none=>rw[hrs] at hr;simp [QL] at hr
        | some s=>
          rw[hrs] at hr;simp only[QL,aVr] at hr;subst hr;refine(hcon.2 (w5 g q.ws.reverse) w q.args.reverse _ L r (aMV hH hm) hpo.args hc hs).mono ?_;rintro en w' ⟨v,g',rfl,hret⟩;refine⟨v,_,rfl,aNb hH hm hret hbh hfr ?_⟩;rw[aDy] at hrs;exact aNk (fun s u h=>aM9 hH hm hret hbh hfr h) hret.ret hrs
theorem RM {g g':Gh}{w w':pR}: ∀{t:Ty}{x:t.den}{cs:pN},J0 t=true→Rd g w t x cs→Rd g' w' t x cs
  | .bool,_,_,_,r=>r
  | .int _,_,_,_,r=>r
  | .str,_,_,_,r=>r
  | .unit,_,_,_,r=>r
  | .fn,_,_,_,r=>r
  | .pair a b,_,_,h,⟨c1,c2,e,r1,r2⟩=>by
    simp only[J0,aVG] at h;exact⟨c1,c2,e,RM h.1 r1,RM h.2 r2⟩
  | .list _,_,_,h,_=>by cases h
  | .ref,_,_,h,_=>by cases h
  | .clo,_,_,h,_=>by cases h
  | .mp,_,_,h,_=>by cases h
  | .rl _ _,_,_,h,_=>by cases h
  | .mref,_,_,h,_=>by cases h
theorem aDA {g g':Gh}{w:pR}{k n:Nat}{t:Ty}{l:List t.den}(le:Le g w g' w) (hk: ∀u,g.cur k n=some u→((u= .slice none 0 0∧n=0)∨∃b cap,u= .slice (some ⟨b,0,none⟩) n cap∧n≤cap)→tX g' w (.list t) l u):
    ∀{args:List qC}{vals:pN},vS g w args vals→(∀p∈L7 k n args,p)→vS g' w (QP k t l args) vals
  |[],_,h,_=>h
  | s::ss,_,⟨v,vs,rfl,h1,h2⟩,hp=>by
    refine⟨v,vs,rfl,?_,aDA le hk h2 (fun p hp'=>hp p ?_)⟩
    · obtain⟨d,x⟩:=s
      cases d with
      | own j m=>
        simp only[aBP];split
        · rename_i e
          subst e;have hm:m=n:=hp (j=j→m=n) (by simp only[L7];exact aVz) rfl;subst hm;exact⟨hk _ h1.1.1 h1.1.2,trivial⟩
        .exact DE le h1
      |_=>exact DE le h1
    · obtain⟨d,x⟩:=s
      cases d with
      |own j m=>simp only[L7];exact aVB _ hp'
      |_=>exact hp'
theorem aNl {P:Program}{f:FuncId}{sg:qW}(hcon:xR P f sg.C) {g:Gh}{w:pR}{H:sE}(hH:sL g w H) {args:List qC}{vals:pN}(hargs:vS g w args vals) {base:Nat}{e:qT}{k:Nat}
    (hr:QQ H base args sg k (qE H k)=some e) (hs: ∀p∈e.side,p) (hfr:zO g base e):Calls P f vals.toArray w (fun en w'=> ∃v g',en= .returned v∧sI g w H e g' w' v):=by
  cases hk:qE H k with
  |none=>rw[hk] at hr;cases hr
  | some b=>
    rw[hk] at hr;cases b with
    | row e0 t l m=>
      simp only[QQ] at hr;cases hi:H7 ((k,.dead)::H) base (QP k t l args) (some sg) with
      |none=>rw[hi] at hr;cases hr
      | some e1=>
        rw[hi] at hr;unfold a0p at hr;split at hr
        · rename_i side t' x kk U rds heq
          simp only[aVr] at heq;subst heq;split at hr
          · rename_i hnl
            simp only[aVG,aVV] at hnl;obtain⟨⟨hnl,hU⟩,hkU⟩:=hnl;have hkU':k∉qH U:=fun h=>by rw[JD.2 h] at hkU;cases hkU
            cases hr;obtain⟨hl,v,xs,hv,hown,hF,hnone,hseal⟩:=hH.blk k _ hk
            let g':Gh:={g with S:=fun b o=>g.S b o∨(v.ownBlock=some b∧o<m*t.cells)}
            have le:Le g w g' w:=⟨fun _ _ h=> .inl h,fun _ _ _=>rfl,fun _ _ h=>h,fun _ _ _ h=>h⟩;have hown2: ∀b,v.ownBlock=some b→∀o,sG g k (.row e0 t l m) b o:=fun b hb o=>⟨v,hv,hb⟩
            have hlist: ∀u,g.cur k m=some u→((u= .slice none 0 0∧m=0)∨∃b cap,u= .slice (some ⟨b,0,none⟩) m cap∧m≤cap)→tX g' w (.list t) l u:=by
              intro u hu hshape;rw[hv] at hu;obtain rfl:=aVx hu;rcases hshape with⟨rfl,h0⟩ |⟨b,cap,rfl,hcap⟩
              · have:l=[]:=aV2 (by rw[hl,h0])
                subst this;exact .inr ⟨rfl,none,0,rfl,aVR _,.inl rfl⟩
              · refine .inr ⟨rfl,some ⟨b,0,none⟩,cap,by rw[hl],by rw[hl];exact hcap,.inr ⟨b,0,rfl,O1 (DF (fun _ _ h=>xZ le h) hF) (fun j u hu=> ?_) (fun j hj=> ?_)⟩⟩
                · have:=hown.cells (g:=b) rfl j u hu
                  rwa [aWS] at this
                · right
                  exact⟨rfl,by rw[hl] at hj;omega⟩
            have hget: ∀i b,qE ((k,qB.dead)::H) i=some b→(i=k∧b= .dead)∨(i≠k∧qE H i=some b):=by
              intro i b hb;simp only[qE] at hb;split at hb
              .rename_i e1;exact .inl ⟨e1.symm,(aVx hb).symm⟩
              .rename_i e1;exact .inr ⟨Ne.symm e1,hb⟩
            have hH':sL g' w ((k,qB.dead)::H):=by
              refine⟨fun i b hb=> ?_,fun i j bi bj b o hij h1 h2 o1 o2=> ?_,fun b o hS=> ?_,hH.tab.1,fun i b bb oo hb ho=> ?_⟩
              · rcases hget i b hb with⟨rfl,rfl⟩ |⟨hne,h1⟩
                .trivial
                .exact NY (hH.blk i b h1) le rfl rfl (fun _ _ _=>⟨rfl,rfl⟩) (fun _ _=>rfl) (fun bb o ho hS=>by
                    rcases hS with hS|hS
                    .exact hS
                    .exact absurd (hown2 bb hS.1 o) (fun h5=>hH.dis i k b _ bb o hne h1 hk ho h5)) (fun _ _ _ _ h=>h)
              · rcases hget i bi h1 with⟨_,rfl⟩ |⟨_,h1⟩
                .exact o1.elim
                · rcases hget j bj h2 with⟨_,rfl⟩ |⟨_,h2⟩
                  .exact o2.elim
                  .exact hH.dis i j bi bj b o hij h1 h2 ((A5 (g':=g') (g:=g) rfl rfl).1 o1) ((A5 (g':=g') (g:=g) rfl rfl).1 o2)
              · rcases hS with hS|hS
                .exact hH.sl b o hS
                .exact RA hown hS.1
              · rcases hget i b hb with⟨_,rfl⟩ |⟨_,h1⟩
                .exact ho.elim
                .exact hH.tab.2 i b bb oo h1 ((A5 (g':=g') (g:=g) rfl rfl).1 ho)
            have hsp: ∀p,p∈L7 k m args∨p∈side→p:=fun p hp=>hs p (RI.2 hp)
            have hget2: ∀i,i≠k→qE ((k,qB.dead)::H) i=qE H i:=fun i hi=>by
              simp only[qE];rw[aVv (Ne.symm hi)]
            have hin: ∀{i},i∈qH U→i≠k:=fun h e=>hkU' (e▸h)
            have hup: ∀{i blk},i∈qH U→qE (qY U H) i=some blk→qE (qY U ((k,qB.dead)::H)) i=some blk:=by
              intro i blk hi h
              have: ∀{U:List (Nat×qB)},i∈qH U→qE (qY U ((k,qB.dead)::H)) i=qE (qY U H) i:=by
                intro U
                induction U with
                |nil=>intro h;cases h
                | cons q U ih=>
                  intro h;obtain⟨j,b⟩:=q;simp only[qY,qE];split
                  .rfl
                  · rename_i hne
                    simp only[qH,aVH] at h;exact ih (h.resolve_left (fun e=>hne e.symm))
              rw[this hi];exact h
            have hcells: ∀{i blk},i∈qH U→qE (qY U H) i=some blk→∃t y,blk= .cells t y []∧J0 t=true:=by
              intro i blk hi h
              have: ∀{U:List (Nat×qB)},NL U=true→i∈qH U→qE (qY U H) i=some blk→∃t y,blk= .cells t y []∧J0 t=true:=by
                intro U
                induction U with
                |nil=>intro _ h;cases h
                | cons q U ih=>
                  intro hU hi h;obtain⟨j,b⟩:=q;cases b with
                  | cells t y ts=>
                    cases ts with
                    |cons _ _=>simp [NL] at hU
                    | nil=>
                      simp only[NL,aVG] at hU;simp only[qY,qE] at h;split at h
                      · obtain rfl:=aVx h
                        exact⟨t,y,rfl,hU.1⟩
                      · rename_i hne
                        simp only[qH,aVH] at hi;exact ih hU.2 (hi.resolve_left (fun e=>hne e.symm)) h
                  |_=>simp [NL] at hU
              exact this hU hi h
            have hownI: ∀b o,t8 g' ((k,qB.dead)::H) (qH U) b o→t8 g H (qH U) b o:=fun b o ⟨i,blk,hi,h1,h2⟩=>⟨i,blk,hi,(hget2 i (hin hi)).symm.trans h1,(A5 (g':=g') (g:=g) rfl rfl).1 h2⟩;refine(aDz hcon hH' (aDA le hlist hargs (fun p hp=>hsp p (.inl hp))) hi (fun p hp=>hsp p (.inr hp)) (fun i hi' hb=>hfr i hi' hb)).mono ?_;rintro en w' ⟨v1,g1,rfl,hE⟩
            let g2:Gh:={g1 with S:=g.S}
            have hle:Le g w g2 w':=⟨fun _ _ h=>h,fun b o h=>hE.le.cell b o (.inl h),fun i p h=>hE.le.J i p h,fun i n u h=>hE.le.cur i n u h⟩
            have hfr2:Fr (t8 g H (qH U)) w w' g.S g2.S:=
              ⟨hE.fr.os,hE.fr.tape,hE.fr.output,hE.fr.size,fun b hb hno=>hE.fr.blk b hb (fun o h=>hno o (hownI b o h)),fun b o hb hno=>hE.fr.cell b o hb (fun h=>hno (hownI b o h)),fun _ _ h=> .inl h,fun b s h=>(hE.fr.shape b s h).imp id fun h o=>hownI b o (h o)⟩
            have hgho: ∀i,i∉qH U→g2.J i=g.J i∧g2.cur i=g.cur i:=fun i hi=>hE.gho i hi
            have hperm: ∀i blk b o,i∈qH U→qE (qY U H) i=some blk→sG g2 i blk b o→w.heap.size≤b∨t8 g H (qH U) b o:=fun i blk b o hi hg ho=>
              (hE.perm i blk b o hi (hup hi hg) ((A5 (g':=g2) (g:=g1) rfl rfl).1 ho)).imp id (hownI b o)
            refine⟨v1,g2,rfl,hle,⟨?_,trivial⟩,hH.upd hle hfr2 hperm hgho (fun i blk hi hg=> ?_) (fun i j bi bj b o hi hj hij hgi hgj hoi hoj=> ?_) (fun b o h=>aV7 (hH.sl b o h) hE.fr.size),hfr2,hperm,hgho,fun i u y us h=> ?_⟩
            .exact hE.slot.1.imp (fun⟨a,cs,e,q⟩=>⟨a,cs,e,RM hnl q⟩) (fun⟨a,q⟩=>⟨a,RM hnl q⟩)
            · obtain⟨t2,y2,rfl,hn2⟩:=hcells hi hg
              obtain⟨p,cs,q1,q2,q3,q4,q5,_⟩:=hE.heap.blk i _ (hup hi hg);exact⟨p,cs,q1,RM hn2 q2,q3,q4,fun j hj hS=>q5 j hj (hE.le.S _ _ (.inl hS)),fun _ _ hm=>by cases hm⟩
            .exact hE.heap.dis i j bi bj b o hij (hup hi hgi) (hup hj hgj) ((A5 (g':=g2) (g:=g1) rfl rfl).1 hoi) ((A5 (g':=g2) (g:=g1) rfl rfl).1 hoj)
            · by_cases hiU:i∈qH U
              · rcases hE.ty i u y us (hup hiU h) with⟨x',ts',q⟩ |q
                .exact .inl ⟨x',ts',(hget2 i (hin hiU)).symm.trans q⟩
                .exact .inr q
              .exact .inl ⟨y,us,(CQ hiU).symm.trans h⟩
          .cases hr
        .cases hr
    |_=>cases hr
theorem aNm {P:Program}{f:FuncId}{F:(t:Ty)→List t.den→Option (List t.den)}(hF:WY P f F) {g:Gh}{w:pR}{H:sE}(hH:sL g w H) {args:List qC}{vals:pN}(hargs:vS g w args vals) {e:qT}
    (hr:VE H F args=some e) (hs: ∀p∈e.side,p):Calls P f vals.toArray w (fun en w'=> ∃v g',en= .returned v∧sI g w H e g' w' v):=by
  unfold VE at hr;split at hr
  · rename_i k n x
    obtain⟨v,vs,rfl,ha,hv⟩:=hargs;rw[show vs=[] from hv];cases hk:qE H k with
    |none=>rw[hk] at hr;cases hr
    | some b=>
      rw[hk] at hr;cases b with
      | row e0 t l m=>
        simp only[a0q] at hr;cases hf:F t l with
        |none=>rw[hf] at hr;cases hr
        | some l'=>
          rw[hf] at hr;cases hr;have hnm:n=m:=hs _ aVz;subst hnm;obtain⟨hl,v0,xs,hv0,hown,hFx,hnone,hseal⟩:=hH.blk k _ hk;have h1:=ha.1.1;rw[hv0] at h1;obtain rfl:=aVx h1;refine(hF g w e0 t l l' v0 n xs hH.tab.1 hown hFx hl (hs _ pI) hf).mono ?_;rintro en w' ⟨rfl,hl',xs',k1,k2,k3⟩;have hownk: ∀b,v0.ownBlock=some b→∀o,t8 g H [k] b o:=fun b hb o=>⟨k,_,by simp,hk,v0,hv0,hb⟩;refine⟨_,_,rfl,sI.row (v:=v0) (xs:=xs') hH hl' k1 k2 hnone (fun u hu=>by rw[hv0] at hu;exact(aVx hu).symm) (.inr ⟨v0.ownBlock,k3,hownk⟩) (fun b o hS=> ?_) hseal (fun b hb=> .inr (hownk b hb)) ⟨⟨[],rfl,rfl⟩,trivial⟩⟩;have hne:v0.ownBlock≠some b:=fun e=>hseal b e o hS;exact aVT (a:=⟨b,o,none⟩) (k3.block b (hH.sl b o hS) (fun e=>hne e.symm))
      |_=>cases hr
  .cases hr
section
variable {P:Program}{o:Oper}{a:Act}{g:Gh}{w:pR}{H:sE}{T:sV}{Γ:uH}(hT:y3 P T) (hΓ:EM P Γ) (hH:sL g w H)
include hT hΓ hH
theorem aDB {f:FuncId}{args:List qC}{vals:pN}(hargs:vS g w args vals) {base:Nat}{e:qT}(hr:LC H base args (QV Γ f)=some e) (hs: ∀p∈e.side,p) (hfr:zO g base e):
    (∀args w,(callFunc f args).run P w= .ok (.enter f args) w)∧Calls P f vals.toArray w (fun en w'=> ∃v g',en= .returned v∧sI g w H e g' w' v):=by
  cases hg:QV Γ f with
  |none=>rw[hg] at hr;cases hr
  | some sg=>
    rw[hg] at hr
    obtain⟨hlt,hg⟩:f<1000000000∧Γ f=some sg:=by
      unfold QV at hg;split at hg
      .rename_i h;exact⟨h,hg⟩
      .cases hg
    obtain⟨hcon,hrow⟩:=hΓ f sg hlt hg;refine⟨hcon.1,?_⟩;simp only[LC] at hr;cases hF:sg.row with
    | some F=>
      rw[hF] at hr;exact aNm (hrow F hF) hH hargs hr hs
    | none=>
      rw[hF] at hr;simp only[W5] at hr;cases hn:QO sg.ps args with
      | some k=>
        rw[hn] at hr;exact aNl hcon hH hargs hr hs hfr
      | none=>
        rw[hn] at hr;exact aDz hcon hH hargs hr hs hfr
theorem aNn {fop:Operand}{args:Array Operand}{tys:Array TypeId}(ho:o.op= .call ⟨.value fop,args,tys⟩) {ρ:Operand→qC}(hf:rX g w (ρ fop) (a.eval fop)) (hρ: ∀x∈args.toList,rX g w (ρ x) (a.eval x)) {base:Nat}{e:qT}
    (hr:NN Γ H base (H9 T ρ args.toList tys.toList) (ρ fop)=some e) (hs: ∀p∈e.side,p) (hfr:zO g base e) (hlen:args.size=tys.size):rN P o a g w H e:=by
  have hargs:=aC4 (a:=a) (ρ:=ρ) hT hΓ hH (xs:=args.toList) (ts:=tys.toList) (by simpa using hlen) hρ;unfold NN at hr;split at hr
  · rename_i f caps k heq
    rw[heq] at hf
    obtain⟨vs,hcv,hfv⟩: ∃vs,yU g caps vs∧a.eval fop= .func (.func f) #[] vs.toArray:=by
      rcases hf.1 with⟨h1,_⟩ |⟨_,vs,h2,h3⟩
      .cases h1
      · simp only[aWp,and_true] at h3
        exact⟨vs,h2,h3⟩
    obtain⟨hen,hc⟩:=aDB hT hΓ hH (aMO hT hΓ hH hargs (aC5 hT hΓ hH hcv)) hr hs hfr;intro K Q hK;refine aC6 ho hfv hen (hc.mono ?_);rintro en w' ⟨v,g',rfl,hE⟩;exact⟨v,rfl,hK _ w' v hE.w⟩
  · rename_i f k heq
    rw[heq] at hf
    have hfv:a.eval fop= .func (.func f) #[] ([]:pN).toArray:=by
      rcases hf.1 with⟨h1,_⟩ |⟨_,h2⟩
      .cases h1
      .simpa[Rd,aCm] using h2
    obtain⟨hen,hc⟩:=aDB hT hΓ hH hargs hr hs hfr;intro K Q hK;refine aC6 ho hfv hen ?_;rw[List.append_nil];refine hc.mono ?_;rintro en w' ⟨v,g',rfl,hE⟩;exact⟨v,rfl,hK _ w' v hE.w⟩
  .cases hr
theorem aDC: ∀{xs:List Operand}{ts:List TypeId},LD xs ts=true→xs.length=ts.length
  |[],[],_=>rfl
  |_::xs,_::ts,h=>by simp only[LD] at h;simp [aDC h]
  |[],_::_,h=>by cases h
  |_::_,[],h=>by cases h
theorem a1H {op:Op}(ho:o.op=op) {ρ:Operand→qC}(hρ: ∀x∈sR op,rX g w (ρ x) (a.eval x)) {base:Nat}{e:qT}(hr:vB T Γ o.type ρ base H op=some e) (hs: ∀p∈e.side,p) (hf:zO g base e):rN P o a g w H e:=by
  unfold vB at hr;split at hr
  · rename_i x
    exact aCM hT hH (.inl ho) (hρ x (by simp [sR])) hr hf
  · rename_i x
    exact aCM hT hH (.inr ho) (hρ x (by simp [sR])) hr hf
  .exact aMw hT hH ho hr hf
  · rename_i t x
    exact aMx hT hH ho (hρ x (by simp [sR])) (fun _=>a1v hT hΓ hH (hρ x (by simp [sR]))) hr hf
  · rename_i t ps
    exact aMb hT hH ho (ρ:=ρ) (fun q hq=>hρ q.2 (by
      simp only[sR];generalize ps.toList=l at hq
      induction l with
      |nil=>cases hq
      |cons p l ih=>rcases aVH.1 hq with rfl|h<;>simp_all [sR.parts])) hr
  · rename_i t n ps
    exact aMC hT hH ho (ρ:=ρ) (fun q hq=>hρ q.2 (by
      simp only[sR];generalize ps.toList=l at hq
      induction l with
      |nil=>cases hq
      |cons p l ih=>rcases aVH.1 hq with rfl|h<;>simp_all [sR.parts])) hr hf
  · rename_i t x
    exact aMo hT hH ho (hρ x (by simp [sR])) hr hs
  · rename_i t x y
    exact aMB hT hH ho (hρ x (by simp [sR])) (a1v hT hΓ hH (hρ y (by simp [sR]))) hr hs hf
  · rename_i x
    exact aL5 hT hH ho (hρ x (by simp [sR])) hr
  · rename_i op t x y t'
    cases hw:V0 op (rZ T t) (ρ x) (ρ y) with
    | some r=>
      rw[hw] at hr;exact aLW hH ho (hρ x (by simp [sR])) (hρ y (by simp [sR])) (by rw[hw];exact hr)
    |none=>
    rw[hw] at hr;cases hb:UZ op (ρ x) (ρ y) with
    | some r=>
      rw[hb] at hr;exact aLV hH ho (hρ x (by simp [sR])) (hρ y (by simp [sR])) (by rw[hb];exact hr) hs
    | none=>
      rw[hb] at hr;exact aNe hT hH ho (hρ x (by simp [sR])) (hρ y (by simp [sR])) hr
  · rename_i op t x
    exact aLX hH ho (hρ x (by simp [sR])) hr hs
  · rename_i t t' x
    cases hb:V2 (rZ T t) (rZ T t') (ρ x) with
    | some r=>
      rw[hb] at hr;exact aLY hT hH ho (hρ x (by simp [sR])) (by rw[hb];exact hr)
    | none=>
      rw[hb] at hr;exact aNi hT hH ho (hρ x (by simp [sR])) hr
  · rename_i f first caps
    have hfi:first= #[]:=by
      cases hl:first.toList with
      |nil=>apply aWF.1;simpa using hl
      |cons x l=>rw[hl] at hr;cases hr
    subst hfi;exact aMf hT hH ho (ρ:=ρ) (fun x hx=>hρ x (by simpa[sR] using hx)) hr
  · rename_i t x lo hi
    refine aMp hT hH ho (ρ:=ρ) (hρ x (by simp [sR])) (fun y hy=>hρ y ?_) (fun y hy=>hρ y ?_) hr hs
    · cases lo with
      |none=>simp at hy
      |some l=>simp at hy;subst hy;simp [sR,sR.opt,qY]
    · cases hi with
      |none=>simp at hy
      |some l=>simp at hy;subst hy;cases lo<;>simp [sR,sR.opt,qY]
  · rename_i t x f
    exact aL3 hT hH ho (hρ x (by simp [sR])) hr
  · rename_i t x f
    exact aL2 hT hH ho (hρ x (by simp [sR])) hr
  · rename_i t x ix
    exact aL7 hT hH ho (hρ x (by simp [sR])) (hρ ix (by simp [sR])) hr hs
  · rename_i t x ix
    exact aL6 hT hH ho (hρ x (by simp [sR])) (hρ ix (by simp [sR])) hr hs
  · rename_i x i
    exact aL4 hT hH ho (hρ x (by simp [sR])) hr hs
  · rename_i t r
    exact aMF hT hH ho hr hf
  · rename_i t x
    exact aML hT hH ho (hρ x (by simp [sR])) hr hf
  · rename_i x b
    exact aMM hT hH ho (hρ x (by simp [sR])) hr
  · rename_i t x i ok
    exact aMI hT hH ho (hρ x (by simp [sR])) (hρ i (by simp [sR])) hr
  · rename_i t m k x
    exact aC1 hT hH (.inl ho) (hρ m (by simp [sR])) (hρ k (by simp [sR])) (aC0 (hρ x (by simp [sR]))) hr
  · rename_i t m k x
    exact aC1 hT hH (.inr ho) (hρ m (by simp [sR])) (hρ k (by simp [sR])) (aC0 (hρ x (by simp [sR]))) hr
  · rename_i c
    obtain⟨cal,args,tys⟩:=c;simp only at hr;unfold LE at hr;split at hr
    .exact aMe hT hH ho (ρ:=ρ) (fun x hx=>hρ x (by simpa[sR] using hx)) hr
    .exact aNj hT hH ho (ρ:=ρ) (fun x hx=>hρ x (by simpa[sR] using hx)) hr hs
    .exact aCC (mx:=true) hT hH ho (ρ:=ρ) (fun x hx=>hρ x (by simpa[sR] using hx)) hr
    .exact aCC (mx:=false) hT hH ho (ρ:=ρ) (fun x hx=>hρ x (by simpa[sR] using hx)) hr
    · rename_i f
      cases hsl:LD args.toList tys.toList with
      |false=>rw[hsl] at hr;cases hr
      | true=>
        rw[hsl] at hr;simp only[a0T] at hr;exact aNn hT hΓ hH ho (hρ f (by simp [sR])) (fun x hx=>hρ x (by simp [sR];right;simpa using hx)) hr hs hf (by simpa using aDC hT hΓ hH hsl)
    .cases hr
  .cases hr
end
def BA (g:Gh) (w:pR) (env:List (Nat×qC)) (tmps:Array pS):Prop:= ∀t,rX g w (lk env t) (tmps.getD t undef)
def A7 (B:Nat) (w:pR) (ds:List Deferred):Prop:=ds.Nodup/\∀d∈ds,∃D,d={target:= .collected D,args:= #[]}/\B<=D/\NG<=D/\w.heap[D]? =some (.deferred (some []))
theorem aDD (B:Nat) (w:pR):A7 B w []:=⟨List.nodup_nil,fun d hd=>by cases hd⟩
theorem A7.same {B:Nat}{w w':pR}{ds:List Deferred}(h:A7 B w ds) (hb: ∀D:Nat,w.heap[D]? =some (Obj.deferred (some []))->w'.heap[D]? =some (Obj.deferred (some []))):A7 B w' ds:=
 ⟨h.1,fun d hd=>by obtain⟨D,h1,h2,h0,h3⟩:=h.2 d hd;exact⟨D,h1,h2,h0,hb D h3⟩⟩
def HH:Obj->Bool
 | .deferred _=>true
 | .loop _=>true
 |_=>false
theorem a1I {w:pR}{b:Nat}{ob:Obj}(hd:w.heap[b]? =some ob) (hm:HH ob=true) (o:Nat):w.cell? ⟨b,o,none⟩=none:=by
 unfold World.cell?;simp only[hd];cases ob<;>first|rfl|cases hm
theorem XB {g:Gh}{w:pR}{i:Nat}{blk:qB}(h:AM g w i blk) {b o:Nat}(ho:sG g i blk b o) {ob:Obj}(hd:w.heap[b]? =some ob) (hm:HH ob=true):False:=by
 have hrow: ∀{e:TypeId}{c n:Nat}{v:pS}{xs:pN},w.ownsRow 0 e c v n xs->v.ownBlock=some b->False:=by
  intro e c n v xs hr hb;rcases hr.2 with⟨rfl,_⟩ |⟨g',cap,cur,rfl,_,h3,_⟩
  .cases hb
  .simp only[Value.ownBlock,aVr] at hb;subst hb;rw[hd] at h3;cases h3;cases hm
 cases blk with
 |cells t x toks=>
  obtain⟨p,cs,hp,_,_,ht,_⟩:=h;obtain⟨q,hq,rfl,h1,h2⟩:=ho;rw[hp] at hq;obtain rfl:=aVx hq;have:=(ht.1 (o-p.2) pG).1;rw[a1I hd hm] at this;cases this
 |grow e c n=>
  obtain⟨v,xs,hv,hr,_⟩:=h;obtain⟨v',hv',hb⟩:=ho;rw[hv] at hv';obtain rfl:=aVx hv';exact hrow hr hb
 |row e t l n=>
  obtain⟨_,v,xs,hv,hr,_⟩:=h;obtain⟨v',hv',hb⟩:=ho;rw[hv] at hv';obtain rfl:=aVx hv';exact hrow hr hb
 |map k v l=>
  obtain⟨p,es,cl,hp,h0,h2,_⟩:=h;obtain⟨q,hq,h1⟩:=ho;rw[hp] at hq;obtain rfl:=aVx hq;rw[show b=p.1 from h1] at hd;rw[h2] at hd;cases hd;cases hm
 |iter s n=>
  obtain⟨p,hp,h0,h2,_⟩:=h;obtain⟨q,hq,h1⟩:=ho;rw[hp] at hq;obtain rfl:=aVx hq;rw[show b=p.1 from h1] at hd;rw[h2] at hd;cases hd;cases hm
 |dead=>exact ho.elim
theorem A7.eff {B:Nat}{g g':Gh}{w w':pR}{H:sE}{e:qT}{v:pS}{ds:List Deferred}(h:A7 B w ds) (hH:sL g w H) (k:A4 g w H e g' w' v):A7 B w' ds:=
 h.same fun D hD=>by
  rw[k.fr.blk D (aVW.1 hD).1 (fun o ⟨i,blk,_,h1,h2⟩=>XB (hH.blk i blk h1) h2 hD rfl)];exact hD
structure w6 (B:Nat) (g:Gh) (w:pR) (s:St) (a:Act):Prop where
 env:BA g w s.env a.tmps
 heap:sL g w s.H
 size:a.tmps.size=s.N
 nb: ∀i,s.nb<=i->g.J i=none/\∀n,g.cur i n=none
 def_:A7 B w a.defers
 np:s.np<=s.nb
theorem aNo (g:Gh) (w:pR) (v:pS):AL g w (a0d v) v:=by
 unfold a0d;split
 .exact xB _ _ _
 .exact wY _ _ _ _
 .rename_i s;have:=BR g w s.data.toList;rw[aWZ] at this;exact this
 .exact rfl
 .exact .inr ⟨rfl,rfl⟩
 .exact .inr ⟨rfl,rfl⟩
 .exact .inr ⟨rfl,rfl⟩
 .exact trivial
theorem AP {g:Gh}{w:pR}{env:List (Nat×qC)}{a:Act}(h:BA g w env a.tmps) (x:Operand):rX g w (uO env x) (a.eval x):=by
 cases x with
 |tmp t=>exact h t
 |const v=>exact⟨aNo g w v,trivial⟩
 |func f=>exact⟨.inr ⟨rfl,[],rfl,rfl⟩,trivial⟩
 |global i=>exact⟨trivial,trivial⟩
theorem OA {g:Gh}{w:pR}{G:Bool}(hG:G=true): ∀{ss:List qC}{s:qC}{v:pS},s∈ss->(∀p∈zN G ss,p)->rX g w s v->rX g w (yI s) v
 |x::ss,s,v,hm,hn,hs=>by
  have hcase: ∀{s:qC},(∀p∈zN G [s],p)->rX g w s v->rX g w (yI s) v:=by
   intro s hn hs;obtain⟨d,k⟩:=s;cases d with
   |cond p d=>
    refine⟨hs.1.1 (hn (G=true->p=true) (by simp [zN]) hG),?_⟩;simp only[yI]
   |_=>exact hs
  have hsplit: ∀p,p∈zN G [x]->p∈zN G (x::ss):=by
   intro p hp;unfold zN at hp|-;split at hp
   .cases hp
   .rename_i heq;simp only[aWp] at heq;obtain⟨rfl,rfl⟩:=heq;rcases aVH.1 hp with h|h
    .exact h▸aVz
    .cases h
   .rename_i h0 heq;simp only[aWp] at heq;obtain⟨_,rfl⟩:=heq;cases hp
  have hsplit2: ∀p,p∈zN G ss->p∈zN G (x::ss):=by
   intro p hp;generalize hL:zN G ss=L at hp;unfold zN;split
   .rename_i h;cases h
   .rename_i heq;simp only[aWp] at heq;obtain⟨_,rfl⟩:=heq;rw[hL];exact aVB _ hp
   .rename_i heq;simp only[aWp] at heq;obtain⟨_,rfl⟩:=heq;rw[hL];exact hp
  rcases aVH.1 hm with rfl|hm
  .exact hcase (fun p hp=>hn p (hsplit p hp)) hs
  .exact OA hG hm (fun p hp=>hn p (hsplit2 p hp)) hs
theorem XC {env:List (Nat×qC)}: ∀{xs:List Operand}{x:Operand},x∈xs->uO env x∈CL env xs
 |y::xs,x,h=>by
  simp only[CL];rcases aVH.1 h with rfl|h
  .exact aVz
  .exact aVB _ (XC h)
theorem RN: ∀(ops:List Oper) (j:Nat),AJ ops j=(ops[j]?).bind (·.dst)
 |[],j=>by simp [AJ]
 |o::_,0=>rfl
 |_::r,j+1=>by simpa[AJ] using RN r j
section
variable {P:Program}{g:Gh}{w:pR}{T:sV}{Γ:uH}(hT:y3 P T) (hΓ:EM P Γ)
include hT hΓ
theorem aNp {ops:List Oper}{o:Oper}{a:Act}{env:List (Nat×qC)}(henv:BA g w env a.tmps) {j:Nat}{b:Bool}(hg:o.guard=some (j,b)) {G:Bool}(h:HB env b (AJ ops j)=some G):Region.wanted o (yielded ops.toArray a.tmps)=G:=by
 rw[RN] at h;unfold Region.wanted;rw[hg];simp only;cases hd:(ops[j]?).bind (·.dst) with
 |none=>rw[hd] at h;cases h
 |some t=>
  rw[hd] at h;simp only[HB] at h;have hy:yielded ops.toArray a.tmps j=match a.tmps[t]? with|some (.bool b)=>some b|_=>none:=by
   unfold yielded;have:(ops.toArray[j]?).bind (·.dst)=some t:=by simpa using hd
   rw[this];rfl
  have hv:=henv t;generalize hl:lk env t=s at h hv;unfold aB8 at h;have hb: ∀c,a.tmps.getD t undef= .bool c->a.tmps[t]? =some (.bool c):=by
   intro c hc;rw[aVZ] at hc;cases hq:a.tmps[t]? with
   |none=>rw[hq] at hc;simp [undef] at hc
   |some v=>rw[hq] at hc;simp at hc;rw[hc]
  split at h
  .rename_i c k;simp only[aVr] at h;have:=hb _ (wE hv.1);rw[hy,this,<-h];cases c<;>cases b<;>rfl
  .rename_i p c k;simp only[aVr] at h;subst h;cases p with
   |true=>
    have:=hb _ (wE (hv.1.1 rfl));rw[hy,this];cases c<;>cases b<;>rfl
   |false=>
    have hu:=hv.1.2 rfl;have: ∀c,a.tmps[t]? ≠some (.bool c):=by
     intro c hc;rw[aVZ,hc] at hu;simp [undef] at hu
    rw[hy];cases hq:a.tmps[t]? with
    |none=>cases b<;>rfl
    |some v=>cases v<;>first|(exact absurd hq (this _)) |(cases b<;>rfl)
  .cases h
theorem aNq {ops:List Oper}{o:Oper}{a:Act}{env:List (Nat×qC)}(henv:BA g w env a.tmps) {j:Nat}{b:Bool}(hg:o.guard=some (j,b)) (h:LF env b (AJ ops j)=false):Region.wanted o (yielded ops.toArray a.tmps)=false:=by
 rw[RN] at h;unfold Region.wanted;rw[hg];simp only;cases hd:(ops[j]?).bind (·.dst) with
 |none=>rw[hd] at h;cases h
 |some t=>
  rw[hd] at h;simp only[LF] at h;have hy:yielded ops.toArray a.tmps j=match a.tmps[t]? with|some (.bool b)=>some b|_=>none:=by
   unfold yielded;have:(ops.toArray[j]?).bind (·.dst)=some t:=by simpa using hd
   rw[this];rfl
  have hv:=henv t;generalize hl:lk env t=s at h hv;have hb: ∀c,a.tmps.getD t undef= .bool c->a.tmps[t]? =some (.bool c):=by
   intro c hc;rw[aVZ] at hc;cases hq:a.tmps[t]? with
   |none=>rw[hq] at hc;simp [undef] at hc
   |some v=>rw[hq] at hc;simp at hc;rw[hc]
  have hun:a.tmps.getD t undef=undef->(yielded ops.toArray a.tmps j==some b)=false:=by
   intro hu;have: ∀c,a.tmps[t]? ≠some (.bool c):=by
    intro c hc;rw[aVZ,hc] at hu;simp [undef] at hu
   rw[hy];cases hq:a.tmps[t]? with
   |none=>cases b<;>rfl
   |some v=>cases v<;>first|(exact absurd hq (this _)) |(cases b<;>rfl)
  unfold aB9 at h;split at h
  .rename_i c k;have:=hb _ (wE hv.1);rw[hy,this];cases c<;>cases b<;>first|rfl|cases h
  .rename_i p c k;cases p with
   |true=>
    have:=hb _ (wE (hv.1.1 rfl));rw[hy,this];cases c<;>cases b<;>first|rfl|cases h
   |false=>exact hun (hv.1.2 rfl)
  .rename_i p k;subst h;exact hun (hv.1.2 rfl)
  .cases h
theorem RO {G:Bool}{p:Prop}: ∀{l:List Prop},p∈l->(G=true->p)∈QX G l
 |q::l,h=>by
  simp only[QX];rcases aVH.1 h with rfl|h
  .exact aVz
  .exact aVB _ (RO h)
theorem a1J {o:Oper}{a:Act}{H:sE}(hH:sL g w H) {c x y:Operand}(hop:o.op= .pick c x y) {sc sx sy:qC}(hc:rX g w sc (a.eval c)) (hx:rX g w sx (a.eval x)) (hy:rX g w sy (a.eval y)) {e:qT}(hr:QW sc sx sy=some e) (hs: ∀p∈e.side,p):rN P o a g w H e:=by
 intro K Q hK;unfold QW at hr;split at hr
 .rename_i z k;have hz:=wE hc.1;have run:(execOp a.eval o).run P w= .ok (.value (if z then a.eval x else a.eval y)) w:=by
   unfold execOp;rw[hop];simp [hz,asBool]
  have wS: ∀{v:Bool}{side:List Prop},(if z then a.eval x else a.eval y)= .bool v->e=⟨side,(.val .bool v,none),[],[]⟩->o.wp P a w K Q:=by
   intro v side hv he;subst he;refine rN.value (v:= .bool v) (g':=g) (w':=w) (H:=H) (by rw[run,hv]) (.pure hH (s:=(.val .bool v,none)) ⟨(xB g w v:AL g w (.val .bool v) (.bool v)),trivial⟩) K Q hK
  unfold aCa at hr;split at hr
  .rename_i m1 _ m2 _;simp only[aVr] at hr;refine wS (v:=cond z m1 m2) ?_ hr.symm;cases z
   .exact wE hy.1
   .exact wE hx.1
  .rename_i p m1 _ m2 _;simp only[aVr] at hr;refine wS (v:=cond z m1 m2) ?_ hr.symm;cases z
   .exact wE hy.1
   .exact wE (hx.1.1 (hs (true=true->p=true) (by rw[<-hr];simp) rfl))
  .rename_i m1 _ p m2 _;simp only[aVr] at hr;refine wS (v:=cond z m1 m2) ?_ hr.symm;cases z
   .exact wE (hy.1.1 (hs (false=false->p=true) (by rw[<-hr];simp) rfl))
   .exact wE hx.1
  .rename_i q m1 _ p m2 _;simp only[aVr] at hr;refine wS (v:=cond z m1 m2) ?_ hr.symm;cases z
   .exact wE (hy.1.1 (hs (false=false->p=true) (by rw[<-hr];simp) rfl))
   .exact wE (hx.1.1 (hs (true=true->q=true) (by rw[<-hr];simp) rfl))
  .rename_i m1 _ p _;simp only[aVr] at hr;have hz1:z=true:=hs _ (by rw[<-hr];simp);refine wS (v:=m1) ?_ hr.symm;rw[hz1];exact wE hx.1
  .rename_i q m1 _ p _;simp only[aVr] at hr;have hz1:z=true:=hs (z=true) (by rw[<-hr];simp);refine wS (v:=m1) ?_ hr.symm;rw[hz1];exact wE (hx.1.1 (hs (q=true) (by rw[<-hr];simp)))
  .rename_i p _ m2 _;simp only[aVr] at hr;have hz1:z=false:=hs _ (by rw[<-hr];simp);refine wS (v:=m2) ?_ hr.symm;rw[hz1];exact wE hy.1
  .rename_i p _ q m2 _;simp only[aVr] at hr;have hz1:z=false:=hs (z=false) (by rw[<-hr];simp);refine wS (v:=m2) ?_ hr.symm;rw[hz1];exact wE (hy.1.1 (hs (q=true) (by rw[<-hr];simp)))
  .cases hr
 .cases hr
omit hT hΓ in
theorem RP {np:Nat}{x:Option qT}{e:qT}(h:a0Z np x=some e):x=some e/\(IX e.rds=true->J4 np e.upd=true):=by
 cases x with
 |none=>cases h
 |some q=>
  simp only[a0Z] at h;cases hq:IX q.rds with
  |false=>
   rw[hq] at h;cases h;exact⟨rfl,fun h=>by rw[hq] at h;cases h⟩
  |true=>
   rw[hq] at h;simp only[aCd] at h;split at h
   .rename_i hc;cases h;exact⟨rfl,fun _=>hc⟩
   .cases h
omit hT hΓ in
theorem aDE {np:Nat}{H:sE}: ∀{U:List (Nat×qB)},J4 np U=true->∀{i:Nat}{u:Ty}{y:u.den}{us:pL},i<np->qE (qY U H) i=some (.cells u y us)->qE H i=some (.cells u y us)
 |[],_,i,u,y,us,_,h=>h
 |(j,b)::U,h,i,u,y,us,hi,hg=>by
  simp only[qY,qE] at hg;split at hg
  .rename_i e;subst e;simp only[aVr] at hg;subst hg;simp only[J4] at h;split at h
   .omega
   .cases h
  .refine aDE ?_ hi hg;unfold J4 at h;split at h
   .rename_i heq;cases heq
   .rename_i heq;cases heq;split at h
    .exact h
    .cases h
   .rename_i heq;cases heq;exact h
theorem aDF {ops:List Oper}{o:Oper}{a:Act}{s:St}{e:qT}(henv:BA g w s.env a.tmps) (hH:sL g w s.H) (hr:zF T Γ ops o s=some e) (hs: ∀p∈e.side,p) (hf:zO g s.nb e) {K:Act->pR->Prop}{Q:Exit->Act->pR->Prop}
  (hK: ∀g' w' v,A4 g w s.H e g' w' v->K (a.put o.dst v) w'):
  if Region.wanted o (yielded ops.toArray a.tmps) then o.wp P a w K Q else K (a.put o.dst undef) w:=by
 replace hr:=(RP hr).1;unfold NT at hr;cases hgd:o.guard with
 |none=>
  rw[hgd] at hr;simp only at hr;have hw:Region.wanted o (yielded ops.toArray a.tmps)=true:=by unfold Region.wanted;rw[hgd]
  rw[aVs hw];cases hop:o.op with
  |pick c x y=>
   rw[hop] at hr;simp only[NS] at hr;exact a1J hT hΓ hH hop (AP henv c) (AP henv x) (AP henv y) hr hs K Q hK
  |_=>
   rw[hop] at hr;simp only[NS] at hr;rw[<-hop] at hr;generalize hpl:vB T Γ o.type (fun x=>yI (uO s.env x)) s.nb s.H o.op=op at hr;cases op with
   |none=>cases hr
   |some e0=>
    simp only[NQ,aVr] at hr;subst hr;refine a1H hT hΓ hH rfl (ρ:=fun x=>yI (uO s.env x)) (fun x hx=> ?_) hpl (fun p hp=>hs p (xS.2 (.inr hp))) hf K Q (fun g' w' v h=>hK g' w' v ⟨h.le,h.slot,h.heap,h.fr,h.perm,h.gho,h.ty⟩);exact OA rfl (XC hx) (fun p hp=>hs p (xS.2 (.inl hp))) (AP henv x)
 |some jb=>
  obtain⟨j,b⟩:=jb;rw[hgd] at hr;simp only at hr;cases hsk:Γ (WE j b) with
  |some sg=>
   rw[hsk] at hr;simp only[QY] at hr;cases hdf:aCb o.op with
   |true=>rw[hdf] at hr;cases hr
   |false=>
   rw[hdf] at hr;simp only[aCc,aVr] at hr;subst hr;have hup:LF s.env b (AJ ops j)=false:=hs _ aVz;rw[aNq hT hΓ henv hgd hup,aVv pH];exact hK g w undef (A4.pure hH ⟨⟨fun hc=>(by cases hc),fun _=>rfl⟩,trivial⟩)
  |none=>
  rw[hsk] at hr;simp only[QY] at hr;generalize hG:HB s.env b (AJ ops j)=oG at hr;cases oG with
  |none=>cases hr
  |some G=>
   have hw:=aNp hT hΓ henv hgd hG;rw[hw];by_cases hpk: ∃c x y,o.op= .pick c x y
   .obtain⟨c,x,y,hop⟩:=hpk;rw[hop] at hr;simp only[NR] at hr;generalize hpl:QW (yI (uO s.env c)) (uO s.env x) (uO s.env y)=op at hr;cases op with
    |none=>cases hr
    |some e0=>
     unfold J3 at hr;split at hr
     .rename_i side d k rds heq;simp only[aVr] at hr heq;subst hr;subst heq;by_cases hGt:G=true
      .rw[aVs hGt];refine a1J hT hΓ hH hop (OA hGt (ss:=[uO s.env c]) pI (fun p hp=>hs p (xS.2 (.inl hp))) (AP henv c)) (AP henv x) (AP henv y) hpl (fun p hp=>hs (G=true->p) (xS.2 (.inr (RO hT hΓ hp))) hGt) K Q (fun g' w' v h=>hK g' w' v ⟨h.le,⟨⟨fun _=>h.slot.1,fun hc=>by rw[hGt] at hc;cases hc⟩,trivial⟩,h.heap,h.fr,h.perm,h.gho,h.ty⟩)
      .rw[aVv hGt];exact hK g w undef (A4.pure hH ⟨⟨fun hc=>absurd hc hGt,fun _=>rfl⟩,trivial⟩)
     .rename_i side sl u us rds heq;simp only[aVr] at hr heq;subst hr;subst heq;have hGt:G=true:=hs _ aVz;rw[aVs hGt];exact a1J hT hΓ hH hop (OA hGt (ss:=[uO s.env c]) pI (fun p hp=>hs p (aVB _ (xS.2 (.inl hp)))) (AP henv c)) (AP henv x) (AP henv y) hpl (fun p hp=>hs (G=true->p) (aVB _ (xS.2 (.inr (RO hT hΓ hp)))) hGt) K Q (fun g' w' v h=>hK g' w' v ⟨h.le,h.slot,h.heap,h.fr,h.perm,h.gho,h.ty⟩)
     .cases hr
   .have e1:NR T Γ o s (some G) o.op=J3 G (zN G (CL s.env (sR o.op))) (vB T Γ o.type (fun x=>yI (uO s.env x)) s.nb s.H o.op):=by
     cases ho:o.op<;>first|rfl|(exact absurd ⟨_,_,_,ho⟩ hpk)
    rw[e1] at hr;generalize hpl:vB T Γ o.type (fun x=>yI (uO s.env x)) s.nb s.H o.op=op at hr;cases op with
    |none=>cases hr
    |some e0=>
     unfold J3 at hr;split at hr
     .rename_i side d k rds heq;simp only[aVr] at hr heq;subst hr;subst heq;by_cases hGt:G=true
      .rw[aVs hGt];refine a1H hT hΓ hH rfl (ρ:=fun x=>yI (uO s.env x)) (fun x hx=> ?_) hpl (fun p hp=>hs (G=true->p) (xS.2 (.inr (RO hT hΓ hp))) hGt) (fun i hi=>by cases hi) K Q (fun g' w' v h=>hK g' w' v ⟨h.le,⟨⟨fun _=>h.slot.1,fun hc=>by rw[hGt] at hc;cases hc⟩,trivial⟩,h.heap,h.fr,h.perm,h.gho,h.ty⟩);exact OA hGt (XC hx) (fun p hp=>hs p (xS.2 (.inl hp))) (AP henv x)
      .rw[aVv hGt];exact hK g w undef (A4.pure hH ⟨⟨fun hc=>absurd hc hGt,fun _=>rfl⟩,trivial⟩)
     .rename_i side sl u us rds heq;simp only[aVr] at hr heq;subst hr;subst heq;have hGt:G=true:=hs _ aVz;rw[aVs hGt];refine a1H hT hΓ hH rfl (ρ:=fun x=>yI (uO s.env x)) (fun x hx=> ?_) hpl (fun p hp=>hs (G=true->p) (aVB _ (xS.2 (.inr (RO hT hΓ hp)))) hGt) hf K Q (fun g' w' v h=>hK g' w' v ⟨h.le,h.slot,h.heap,h.fr,h.perm,h.gho,h.ty⟩);exact OA hGt (XC hx) (fun p hp=>hs p (aVB _ (xS.2 (.inl hp)))) (AP henv x)
     .cases hr
end
structure uB (A:Nat->Nat->Prop) (L:List qB) (g0:Gh) (w0:pR) (g:Gh) (w:pR) (H:sE):Prop where
 shut: ∀b o,g0.S b o->g.S b o/\w.cell? ⟨b,o,none⟩=w0.cell? ⟨b,o,none⟩
 fr:Fr A w0 w g0.S g.S
 perm: ∀i blk b o,qE H i=some blk->sG g i blk b o->w0.heap.size<=b\/A b o
 J: ∀i p,i<L.length->g0.J i=some p->g.J i=some p
 live: ∀i,i<L.length->(∃p,g.J i=some p)\/(∃n v,g.cur i n=some v)
 ty: ∀i u y us,i<L.length->qE H i=some (.cells u y us)->∃x ts,L[i]? =some (.cells u x ts)
 cur: ∀i n v,i<L.length->g0.cur i n=some v->g.cur i n=some v
theorem uB.eff {A:Nat->Nat->Prop}{L:List qB}{g0 g g':Gh}{w0 w w':pR}{H:sE}{e:qT}{v:pS}(h:uB A L g0 w0 g w H) (k:A4 g w H e g' w' v) (hc:IX e.rds=true->J4 L.length e.upd=true):uB A L g0 w0 g' w' (qY e.upd H):=by
 have hown: ∀b o,t8 g H (qH e.upd) b o->w0.heap.size<=b\/A b o:=fun b o ⟨i,blk,_,h2,h3⟩=>h.perm i blk b o h2 h3;refine⟨fun b o hs=> ?_,h.fr.trans k.fr hown,fun i blk b o hg ho=> ?_,fun i p hi hp=>k.le.J _ _ (h.J i p hi hp),fun i hi=> ?_,fun i u y us hi hg=> ?_,fun i n u hi hu=>k.le.cur _ _ _ (h.cur i n u hi hu)⟩
 .obtain⟨h1,h2⟩:=h.shut b o hs;exact⟨k.le.S b o h1,(k.le.cell b o h1).trans h2⟩
 .by_cases hi:i∈qH e.upd
  .rcases k.perm i blk b o hi hg ho with h1|h1
   .exact .inl (aWx h.fr.size h1)
   .exact hown b o h1
  .exact h.perm i blk b o ((CQ hi).symm.trans hg) ((A5 (k.gho i hi).1 (k.gho i hi).2).1 ho)
 .rcases h.live i hi with⟨p,hp⟩ |⟨n,u,hu⟩
  .exact .inl ⟨p,k.le.J _ _ hp⟩
  .exact .inr ⟨n,u,k.le.cur _ _ _ hu⟩
 .cases hre:IX e.rds with
  |true=>exact h.ty i u y us hi (aDE (hc hre) hi hg)
  |false=>
   rcases k.ty hre i u y us hg with⟨x,ts,h1⟩ |⟨h1,h2⟩
   .exact h.ty i u x ts hi h1
   .rcases h.live i hi with⟨p,hp⟩ |⟨n,u,hu⟩
    .rw[h1] at hp;cases hp
    .rw[h2] at hu;cases hu
def A8:pL->Nat->pP
 |[],_=>none
 |(n,o)::r,k=>if n=k then some o else A8 r k
def vD (g:Gh) (np:Nat) (m:pL):Gh:=
 ⟨g.S,fun i=>if i<np then g.J i else(A8 m i).bind g.J,fun i n=>if i<np then g.cur i n else(A8 m i).bind fun o=>g.cur o n⟩
theorem XD {n o:Nat}: ∀{m:pL},NV n o m=false->∀n' o',(n',o')∈m->n'≠n/\o'≠o
 |[],_,_,_,h=>by cases h
 |(a,b)::m,h,n',o',hm=>by
  simp only[NV,aWf,aWb] at h;rcases aVH.1 hm with h1|h1
  .cases h1;exact h.1
  .exact XD h.2 n' o' h1
theorem a1K {np:Nat}: ∀{m:pL},xQ np m=true->∀{n o:Nat},(n,o)∈m->A8 m n=some o/\(n<np->o=n)
 |[],_,_,_,h=>by cases h
 |(a,b)::m,hk,n,o,h=>by
  simp only[xQ,aVG,aVV,aWv,aVE] at hk;obtain⟨⟨h1,h2⟩,h3⟩:=hk;simp only[A8];rcases aVH.1 h with h4|h4
  .cases h4;rw[aVs rfl];exact⟨rfl,fun h5=>by rcases h1 with h1|h1<;>omega⟩
  .have h5:=XD h2 n o h4;rw[aVv (Ne.symm h5.1)];exact a1K h3 h4
theorem DH: ∀{m:pL}{k j:Nat},xP m k=some j->(j,k)∈m
 |[],_,_,h=>by cases h
 |(a,b)::m,k,j,h=>by
  simp only[xP] at h;split at h
  .rename_i e;subst e;simp only[aVr] at h;subst h;exact aVz
  .exact aVB _ (DH h)
theorem BB {g:Gh}{np:Nat}{m:pL}(hk:xQ np m=true) {n o:Nat}(h:(n,o)∈m):(vD g np m).J n=g.J o/\(vD g np m).cur n=g.cur o:=by
 obtain⟨h1,h2⟩:=a1K hk h;refine⟨?_,?_⟩
 .show (if n<np then g.J n else(A8 m n).bind g.J)=_;by_cases hn:n<np
  .rw[aVs hn,h2 hn]
  .rw[aVv hn,h1];rfl
 .funext q;show (if n<np then g.cur n q else(A8 m n).bind fun o=>g.cur o q)=_;by_cases hn:n<np
  .rw[aVs hn,h2 hn]
  .rw[aVv hn,h1];rfl
theorem a1L {g:Gh}{np:Nat}{m:pL}(hk:xQ np m=true): ∀(l l':pL) (vs:pN),yU g l vs->CN m l=some l'->yU (vD g np m) l' vs
 |[],l',vs,h,hr=>by simp only[CN,aVr] at hr;subst hr;exact h
 |(i,o)::l,l',vs,⟨p,vs',h1,h2,h3⟩,hr=>by
  simp only[CN] at hr;cases hi:xP m i with
  |none=>rw[hi] at hr;cases hr2:CN m l<;>rw[hr2] at hr<;>cases hr
  |some j=>
   rw[hi] at hr;cases hr2:CN m l with
   |none=>rw[hr2] at hr;cases hr
   |some l2=>
    rw[hr2] at hr;simp only[CN.renCons,aVr] at hr;subst hr;exact⟨p,vs',by rw[(BB hk (DH hi)).1];exact h1,h2,a1L hk l l2 vs' h3 hr2⟩
theorem aNr {m:pL}{u t:Ty}{x y:t.den}{o:Nat}{l:List u.den}(h:A3 m t x=some y) (hg:rK (.list u) t x o=some l):rK (.list u) t y o=some l:=
 a1y (A3 m) (fun _ _ _=>rfl) (fun _ _=>rfl) h hg
theorem RQ {g:Gh}{w:pR}{np:Nat}{m:pL}(hk:xQ np m=true): ∀{t:Ty}{x y:t.den}{cs:pN},Rd g w t x cs->A3 m t x=some y->Rd (vD g np m) w t y cs
 | .bool,_,_,_,r,h=>by cases h;exact r
 | .int _,_,_,_,r,h=>by cases h;exact r
 | .str,_,_,_,r,h=>by cases h;exact r
 | .unit,_,_,_,r,h=>by cases h;exact r
 | .list t,x,y,_,r,h=>by
  simp only[A3] at h;split at h
  .rename_i hp;cases h;exact wN (g:=g) (g':=vD g np m) rfl (t:= .list t) (by simpa[Ty.pure] using hp) r
  .cases h
 | .ref,none,y,_,r,h=>by cases h;exact r
 | .ref,some (i,o),y,_,⟨p,h1,h2⟩,h=>by
  simp only[A3,WJ] at h;cases hi:xP m i with
  |none=>rw[hi] at h;cases h
  |some j=>
   rw[hi] at h;cases h;exact⟨p,by rw[(BB hk (DH hi)).1];exact h1,h2⟩
 | .clo,none,y,_,r,h=>by cases h;exact r
 | .clo,some (f,l),y,_,⟨vs,h1,h2⟩,h=>by
  simp only[A3,aCh] at h;cases hi:CN m l with
  |none=>rw[hi] at h;cases h
  |some l'=>
   rw[hi] at h;cases h;exact⟨vs,a1L hk l l' vs h1 hi,h2⟩
 | .fn,_,_,_,r,h=>by cases h;exact r
 | .rl _ _,none,y,_,r,h=>by cases h;exact r
 | .rl _ _,some (k,n),y,_,⟨v,h1,h2⟩,h=>by
  simp only[A3,aCj] at h;cases hi:xP m k with
  |none=>rw[hi] at h;cases h
  |some j=>
   rw[hi] at h;cases h;exact⟨v,by rw[(BB hk (DH hi)).2];exact h1,h2⟩
 | .mref,none,y,_,r,h=>by cases h;exact r
 | .mref,some (i,o),y,_,⟨p,h1,h2⟩,h=>by
  simp only[A3,WJ] at h;cases hi:xP m i with
  |none=>rw[hi] at h;cases h
  |some j=>
   rw[hi] at h;cases h;exact⟨p,by rw[(BB hk (DH hi)).1];exact h1,h2⟩
 | .mp,none,y,_,r,h=>by cases h;exact r
 | .mp,some i,y,_,⟨p,h1,h2⟩,h=>by
  simp only[A3,aCi] at h;cases hi:xP m i with
  |none=>rw[hi] at h;cases h
  |some j=>
   rw[hi] at h;cases h;exact⟨p,by rw[(BB hk (DH hi)).1];exact h1,h2⟩
 | .pair a b,x,y,_,⟨c1,c2,e,r1,r2⟩,h=>by
  simp only[A3] at h;obtain⟨h1,h2⟩:=a1x h;refine⟨c1,c2,e,?_,?_⟩
  .split at h1
   .rename_i hp;exact(aVx h1)▸wN (g:=g) (g':=vD g np m) rfl hp r1
   .exact RQ hk r1 h1
  .split at h2
   .rename_i hp;exact(aVx h2)▸wN (g:=g) (g':=vD g np m) rfl hp r2
   .exact RQ hk r2 h2
theorem XE {g:Gh}{w:pR}{np:Nat}{m:pL}(hk:xQ np m=true) {s:qC}{v:pS}(h:rX g w s v):rX (vD g np m) w (AK m s) v:=by
 have caps: ∀(l l':pL) (vs:pN),yU g l vs->CN m l=some l'->yU (vD g np m) l' vs:=a1L hk;unfold AK;split
 .rename_i k n k';cases hi:xP m k with
  |none=>exact⟨trivial,trivial⟩
  |some j=>
   obtain⟨h1,h2⟩:=h.1;exact⟨⟨by rw[(BB hk (DH hi)).2];exact h1,h2⟩,trivial⟩
 .obtain h1:=h.1;refine⟨?_,trivial⟩;rcases h1 with⟨h1,_⟩ |⟨_,h2⟩
  .cases h1
  .exact .inr ⟨rfl,h2⟩
 .rename_i p k;obtain⟨i,o⟩:=p;simp only[aCf];cases hi:xP m i with
  |none=>exact⟨trivial,trivial⟩
  |some j=>
   simp only[Option.map_some,AK.refSlot];obtain⟨q,hq,hv⟩:=A6 h.1;exact⟨.inr ⟨rfl,q,by rw[(BB hk (DH hi)).1];exact hq,by rw[hv]⟩,trivial⟩
 .rename_i f l k;cases hl:CN m l with
  |none=>exact⟨trivial,trivial⟩
  |some l'=>
   simp only[AK.cloSlot];rcases h.1 with⟨h1,_⟩ |⟨_,vs,h2,h3⟩
   .cases h1
   .exact⟨.inr ⟨rfl,vs,caps l l' vs h2 hl,h3⟩,trivial⟩
 .rename_i i k;cases hi:xP m i with
  |none=>exact⟨trivial,trivial⟩
  |some j=>
   simp only[AK.mpSlot];rcases h.1 with⟨h1,_⟩ |⟨_,p,h2,h3⟩
   .cases h1
   .exact⟨.inr ⟨rfl,p,by rw[(BB hk (DH hi)).1];exact h2,h3⟩,trivial⟩
 .rename_i t x k _ _ _ _;split
  .rename_i hp;have hv:tX (vD g np m) w t x v:=h.1.imp (fun⟨a,cs,e,q⟩=>⟨a,cs,e,wN (g:=g) (g':=vD g np m) rfl hp q⟩) (fun⟨a,q⟩=>⟨a,wN (g:=g) (g':=vD g np m) rfl hp q⟩);refine⟨hv,?_⟩;replace h:=aC3 h;generalize htk:FQ t k=k' at h|-;cases k' with
   |none=>trivial
   |some k=>
    simp only[aCg];cases hj:xP m k with
    |none=>trivial
    |some j=>
     have h2:=h.2;cases t with
     |list u=>
      show (vD g np m).cur j _=_;rw[(BB hk (DH hj)).2];exact h2
     |pair a b=>cases htk
     |_=>exact h2.elim
  .cases hy:A3 m t x with
   |none=>exact⟨trivial,trivial⟩
   |some y=>
    simp only[AK.valSlot];exact⟨h.1.imp (fun⟨a,cs,e,q⟩=>⟨a,cs,e,RQ hk q hy⟩) (fun⟨a,q⟩=>⟨a,RQ hk q hy⟩),trivial⟩
 .rename_i t x k;split
  .rename_i hp;obtain⟨b,o,cs,h1,h2,h3,h4⟩:=h.1;exact⟨⟨b,o,cs,h1,h2,h3,wN (g:=g) (g':=vD g np m) rfl hp h4⟩,trivial⟩
  .exact⟨trivial,trivial⟩
 .exact⟨h.1,trivial⟩
 .exact⟨trivial,trivial⟩
theorem aDG {q j:Nat}{x:Nat×Nat}: ∀{r:pL},x∈WK q j r->x=(q,j)\/x∈r
 |[],h=> .inl (aVJ.1 h)
 |(a,b)::r,h=>by
  simp only[WK] at h;split at h
  .exact aVH.1 h
  .rcases aVH.1 h with h|h
   .exact .inr (by rw[h];exact aVz)
   .exact(aDG h).imp id (aVB _)
theorem XF {m:pL}: ∀{ts:pL}{q j:Nat},(q,j)∈LJ m ts->∃k,(q,k)∈ts/\xP m k=some j
 |[],_,_,h=>by cases h
 |(a,b)::ts,q,j,h=>by
  simp only[LJ] at h;cases hb:xP m b with
  |none=>
   rw[hb] at h;obtain⟨k,h1,h2⟩:=XF h;exact⟨k,aVB _ h1,h2⟩
  |some j'=>
   rw[hb] at h;simp only[LJ.renTok1] at h;rcases aDG h with h1|h1
   .cases h1;exact⟨b,aVz,hb⟩
   .obtain⟨k,h1,h2⟩:=XF h1;exact⟨k,aVB _ h1,h2⟩
theorem LP {g:Gh}{w:pR}{np:Nat}{m:pL}(hk:xQ np m=true) {n o:Nat}(hm:(n,o)∈m) {b:Option qB}(h: ∀c,b=some c->AM g w o c):
  AM (vD g np m) w n (J8 m b)/\∀bb oo,sG (vD g np m) n (J8 m b) bb oo->∃c,b=some c/\sG g o c bb oo:=by
 obtain⟨hJ,hcur⟩:=BB (g:=g) hk hm;unfold J8;split
 .rename_i t x toks;split
  .rename_i hp;obtain⟨p,cs,h1,h2,h3,h4,h5,h6⟩:=h _ rfl;refine⟨⟨p,cs,by rw[hJ];exact h1,wN (g:=g) (g':=vD g np m) rfl hp h2,h3,h4,h5,fun q j hmem=> ?_⟩,fun bb oo ⟨pp,e1,e2⟩=>⟨_,rfl,pp,by rw[hJ] at e1;exact e1,e2⟩⟩;obtain⟨k,k1,k2⟩:=XF hmem;obtain⟨u,l,v,g1,g2,g3⟩:=h6 q k k1;exact⟨u,l,v,g1,g2,by rw[(BB hk (DH k2)).2];exact g3⟩
  .cases hy:A3 m t x with
   |none=>exact⟨trivial,fun _ _ h=>h.elim⟩
   |some y=>
    obtain⟨p,cs,h1,h2,h3,h4,h5,h6⟩:=h _ rfl;simp only[a00];refine⟨⟨p,cs,by rw[hJ];exact h1,RQ hk h2 hy,h3,h4,h5,fun q j hmem=> ?_⟩,fun bb oo ⟨pp,e1,e2⟩=>⟨_,rfl,pp,by rw[hJ] at e1;exact e1,e2⟩⟩;obtain⟨k,k1,k2⟩:=XF hmem;obtain⟨u,l,v,g1,g2,g3⟩:=h6 q k k1;exact⟨u,l,v,aNr hy g1,g2,by rw[(BB hk (DH k2)).2];exact g3⟩
 .rename_i e c k;obtain⟨v,xs,h1,h2,h3,h4⟩:=h _ rfl;exact⟨⟨v,xs,by rw[hcur];exact h1,h2,fun q hq=>by rw[hcur];exact h3 q hq,h4⟩,fun bb oo ⟨v',e1,e2⟩=>⟨_,rfl,v',by rw[hcur] at e1;exact e1,e2⟩⟩
 .rename_i e t l n;split
  .rename_i hp;obtain⟨h0,v,xs,h1,h2,h5,h3,h4⟩:=h _ rfl;exact⟨⟨h0,v,xs,by rw[hcur];exact h1,h2,DF (fun _ _ h=>wN (g:=g) (g':=vD g np m) rfl hp h) h5,fun q hq=>by rw[hcur];exact h3 q hq,h4⟩,fun bb oo ⟨v',e1,e2⟩=>⟨_,rfl,v',by rw[hcur] at e1;exact e1,e2⟩⟩
  .exact⟨trivial,fun _ _ h=>h.elim⟩
 .rename_i k v l;split
  .rename_i hp;rw[aVG] at hp;obtain⟨p,es,cl,h1,h0,h2,h3,h4⟩:=h _ rfl;exact⟨⟨p,es,cl,by rw[hJ];exact h1,h0,h2,R7 (g:=g) (g':=vD g np m) rfl hp.1 hp.2 h3,h4⟩,fun bb oo ⟨pp,e1,e2⟩=>⟨_,rfl,pp,by rw[hJ] at e1;exact e1,e2⟩⟩
  .exact⟨trivial,fun _ _ h=>h.elim⟩
 .obtain⟨p,h1,h0,h2,h4⟩:=h _ rfl;exact⟨⟨p,by rw[hJ];exact h1,h0,h2,h4⟩,fun bb oo ⟨pp,e1,e2⟩=>⟨_,rfl,pp,by rw[hJ] at e1;exact e1,e2⟩⟩
 .exact⟨trivial,fun _ _ h=>h.elim⟩
theorem JF {m:pL}{H:sE}: ∀{l:pL}{n:Nat}{b:qB},qE (WL m H l) n=some b->∃o,(n,o)∈l/\b=J8 m (qE H o)
 |[],_,_,h=>by cases h
 |(a,c)::l,n,b,h=>by
  simp only[WL,qE] at h;split at h
  .rename_i e;subst e;exact⟨c,aVz,(aVx h).symm⟩
  .obtain⟨o,h1,h2⟩:=JF h;exact⟨o,aVB _ h1,h2⟩
theorem aDH {m:pL}{env:List (Nat×qC)}: ∀(l:pQ) (t:Nat),lk (R1 m env l) t=(.any,none)\/lk (R1 m env l) t=AK m (lk env t)
 |[],_=> .inl rfl
 |a::l,t=>by
  simp only[R1,lk];split
  .rename_i e;subst e;exact .inr rfl
  .exact aDH l t
theorem aDI: ∀{m:pL}{n o:Nat},(n,o)∈m->n<WM m
 |(a,b)::m,n,o,h=>by
  simp only[WM];rcases aVH.1 h with h1|h1
  .cases h1;omega
  .have:=aDI h1;omega
theorem a1M: ∀{m:pL}{n o:Nat},A8 m n=some o->(n,o)∈m
 |[],_,_,h=>by cases h
 |(a,b)::m,n,o,h=>by
  simp only[A8] at h;split at h
  .rename_i e;subst e;simp only[aVr] at h;subst h;exact aVz
  .exact aVB _ (a1M h)
theorem a1N {B:Nat}{A:Nat->Nat->Prop}{L:List qB}{g0 g:Gh}{w0 w:pR}{s:St}{a:Act}(h:w6 B g w s a) (hg:uB A L g0 w0 g w s.H) (hnp:s.np=L.length) (k:wV) (hk:xQ s.np k.ids=true):
  w6 B (vD g s.np k.ids) w (s.keep k) a/\uB A L g0 w0 (vD g s.np k.ids) w (s.keep k).H/\(s.keep k).np=L.length/\(s.keep k).N=s.N:=by
 unfold St.keep;rw[hk];refine⟨⟨fun t=> ?_,⟨fun i b hb=> ?_,fun i j bi bj b o hij h1 h2 o1 o2=> ?_,h.heap.sl,h.heap.tab.1,fun i b bb oo hb ho=>by
   obtain⟨o,h1,rfl⟩:=JF hb;obtain⟨c1,e1,o1'⟩:=(LP hk h1 fun c hc=>h.heap.blk o c hc).2 bb oo ho;exact h.heap.tab.2 o c1 bb oo e1 o1'⟩,h.size,fun i hi=> ?_,h.def_,Nat.le_max_left _ _⟩,⟨hg.shut,hg.fr,fun i blk b o hb ho=> ?_,fun i p hi hp=> ?_,fun i hi=> ?_,fun i u y us hi hb=> ?_,fun i n u hi hu=>(by
   show (if i<s.np then g.cur i n else _)=_;rw[aVs pG];exact hg.cur i n u hi hu)⟩,hnp,rfl⟩
 .rcases aDH (m:=k.ids) (env:=s.env) k.slots t with e|e
  .exact⟨by rw[show lk (R2 s k true).env t=_ from e];trivial,by rw[show lk (R2 s k true).env t=_ from e];trivial⟩
  .have:=XE hk (h.env t);rw[show lk (R2 s k true).env t=_ from e];exact this
 .obtain⟨o,h1,rfl⟩:=JF hb;exact(LP hk h1 fun c hc=>h.heap.blk o c hc).1
 .obtain⟨p,k1,rfl⟩:=JF h1;obtain⟨q,k2,rfl⟩:=JF h2;obtain⟨c1,e1,o1'⟩:=(LP hk k1 fun c hc=>h.heap.blk p c hc).2 b o o1;obtain⟨c2,e2,o2'⟩:=(LP hk k2 fun c hc=>h.heap.blk q c hc).2 b o o2;refine h.heap.dis p q c1 c2 b o (fun e=> ?_) e1 e2 o1' o2';subst e;have inj: ∀{m:pL},xQ s.np m=true->∀{i j o:Nat},(i,o)∈m->(j,o)∈m->i=j:=by
   intro m
   induction m with
   |nil=>intro _ _ _ _ h;cases h
   |cons z m ih=>
    obtain⟨z1,z2⟩:=z;intro hk i j o h1 h2;simp only[xQ,aVG,aVV] at hk;rcases aVH.1 h1 with h1|h1<;>rcases aVH.1 h2 with h2|h2
    .cases h1;cases h2;rfl
    .cases h1;exact absurd rfl (XD hk.1.2 _ _ h2).2
    .cases h2;exact absurd rfl (XD hk.1.2 _ _ h1).2
    .exact ih hk.2 h1 h2
  exact hij (inj hk k1 k2)
 .have hi': ¬i<s.np:=by have:=aWx (Nat.le_max_left _ _) hi;omega
  have hold:A8 k.ids i=none:=by
   cases ho:A8 k.ids i with
   |none=>rfl
   |some o=>
    have:=aDI (a1M ho);have:=aWx (Nat.le_max_right _ _) hi;omega
  refine⟨?_,fun n=> ?_⟩
  .show (if i<s.np then g.J i else(A8 k.ids i).bind g.J)=none;rw[aVv hi',hold];rfl
  .show (if i<s.np then g.cur i n else(A8 k.ids i).bind fun o=>g.cur o n)=none;rw[aVv hi',hold];rfl
 .obtain⟨p,h1,rfl⟩:=JF hb;obtain⟨c,e1,e2⟩:=(LP hk h1 fun c hc=>h.heap.blk p c hc).2 b o ho;exact hg.perm p c b o e1 e2
 .show (if i<s.np then g.J i else _)=_;rw[aVs pG];exact hg.J i p hi hp
 .rcases hg.live i hi with⟨p,hp⟩ |⟨n,v,hv⟩
  .left;refine⟨p,?_⟩;show (if i<s.np then g.J i else _)=_;rw[aVs pG];exact hp
  .right;refine⟨n,v,?_⟩;show (if i<s.np then g.cur i n else _)=_;rw[aVs pG];exact hv
 .obtain⟨o,h1,h2⟩:=JF hb;have ho:=(a1K hk h1).2 pG;subst ho;unfold J8 at h2;split at h2
  .rename_i t x toks heq;split at h2
   .simp only[qB.cells.injEq] at h2;obtain⟨rfl,_⟩:=h2;exact hg.ty o u x toks hi heq
   .cases hy:A3 k.ids t x with
    |none=>rw[hy] at h2;cases h2
    |some y=>
     rw[hy] at h2;simp only[a00,qB.cells.injEq] at h2;obtain⟨rfl,_⟩:=h2;exact hg.ty o u x toks hi heq
  .cases h2
  .split at h2<;>cases h2
  .split at h2<;>cases h2
  .cases h2
  .cases h2
theorem HI {B:Nat}{A:Nat->Nat->Prop}{L:List qB}{g0 g:Gh}{w0 w:pR}{s:St}{a:Act}(h:w6 B g w s a) (hg:uB A L g0 w0 g w s.H) (hnp:s.np=L.length) (k:wV):
  ∃g',w6 B g' w (s.keep k) a/\uB A L g0 w0 g' w (s.keep k).H/\(s.keep k).np=L.length/\(s.keep k).N=s.N:=by
 unfold St.keep;cases hk:xQ s.np k.ids with
 |false=>
  refine⟨g,⟨fun t=>⟨trivial,trivial⟩,⟨(fun i b h=>by cases h),(fun i j bi bj b o _ h=>by cases h),h.heap.sl,h.heap.tab.1,(fun i b bb oo h=>by cases h)⟩,h.size,h.nb,h.def_,h.np⟩,⟨hg.shut,hg.fr,(fun i blk b o h=>by cases h),hg.J,hg.live,(fun i u y us _ h=>by cases h),hg.cur⟩,hnp,rfl⟩
 |true=>
  have:=a1N h hg hnp k hk;unfold St.keep at this;rw[hk] at this;exact⟨_,this⟩
theorem a1O {g g':Gh}{w w':pR}{env:List (Nat×qC)}{a:Act}{o:Oper}{sl:qC}{v:pS}(h:BA g w env a.tmps) (le:Le g w g' w') (hs:rX g' w' sl v) {N:Nat}(hN:a.tmps.size=N) (hd:J5 N o.dst=true):BA g' w' (uI o.dst sl env) (a.put o.dst v).tmps:=by
  intro t;cases ho:o.dst with
  |none=>exact DE le (h t)
  | some d=>
    rw[ho] at hd;simp only[J5,aVE] at hd;simp only[uI,lk,Act.put];by_cases hdt:d=t
    · subst hdt
      rw[aVs rfl];have hlt:d<a.tmps.size:=by rw[hN];exact hd
      have:(a.tmps.setIfInBounds d v).getD d undef=v:=by
        rw[aVZ,Array.getElem?_setIfInBounds_self_of_lt hlt];rfl
      rw[this];exact hs
    · rw[aVv hdt]
      have:(a.tmps.setIfInBounds d v).getD t undef=a.tmps.getD t undef:=by
        rw[aVZ,aWV hdt,←aVZ]
      rw[this];exact DE le (h t)
theorem RR {n:Nat}: ∀{u:List (Nat×qB)},J6 n u=true→∀{i:Nat},i∈qH u→i<n
  | (k,b)::u,h,i,hi=>by
    simp only[J6,aVG,aVE] at h;simp only[qH,aVH] at hi;rcases hi with rfl|hi
    .exact h.1
    .exact RR h.2 hi
theorem aDJ (a:Act) (d:Option Tmp) (v:pS):(a.put d v).tmps.size=a.tmps.size:=by
  cases d<;>simp [Act.put]
theorem aDK (a:Act) (d:Option Tmp) (v:pS):(a.put d v).defers=a.defers:=by
  cases d<;>simp [Act.put]
theorem w6.step {B:Nat}{g g':Gh}{w w':pR}{s:St}{a:Act}{o:Oper}{e:qT}{v:pS}(h:w6 B g w s a) (k:A4 g w s.H e g' w' v) (hd:J5 s.N o.dst=true) (hi:J6 (s.nb+32) e.upd=true):
    w6 B g' w' ⟨uI o.dst e.slot s.env,qY e.upd s.H,s.nb+32,s.N,s.np⟩ (a.put o.dst v):=by
  refine⟨a1O h.env k.le k.slot h.size hd,k.heap,(aDJ _ _ _).trans h.size,fun i hn=> ?_,by rw[aDK];exact h.def_.eff h.heap k,aWx h.np (Nat.le_add_right _ _)⟩;have:i∉qH e.upd:=fun hm=>by have:=RR hi hm;simp only at hn;omega
  have hk:=k.gho i this;have hb:=h.nb i (by simp only at hn;omega);exact⟨hk.1.trans hb.1,fun n=>by rw[hk.2];exact hb.2 n⟩
theorem aDL {T:sV}{Γ:uH}{ops:List Oper}: ∀(l:List Oper),vC T Γ ops l none=none
  |[]=>rfl
  |_::_=>rfl
theorem a1P {T:sV}{Γ:uH}{ops:List Oper}{o:Oper}{l:List Oper}{x y:w9}(h:vC T Γ ops (o::l) (some x)=some y):
    ∃ e,zF T Γ ops o x.s=some e∧J5 x.s.N o.dst=true∧J6 (x.s.nb+32) e.upd=true∧
      vC T Γ ops l (some ⟨⟨uI o.dst e.slot x.s.env,qY e.upd x.s.H,x.s.nb+32,x.s.N,x.s.np⟩,qY x.side (qY (LG x.s.H e.upd e.rds e.upd) e.side),e::x.es⟩)=some y:=by
  simp only[vC] at h;cases he:zF T Γ ops o x.s with
  |none=>rw[he] at h;simp only[WF] at h;rw[aDL] at h;cases h
  | some e=>
    rw[he] at h;simp only[WF] at h;by_cases hc:(J5 x.s.N o.dst&&J6 (x.s.nb+32) e.upd)=true
    · rw[aVs hc] at h
      simp only[aVG] at hc;exact⟨e,rfl,hc.1,hc.2,h⟩
    .rw[aVv hc,aDL] at h;cases h
theorem FY {T:sV}{Γ:uH}{ops:List Oper}: ∀{l:List Oper}{x y:w9},vC T Γ ops l (some x)=some y→(∀p∈x.side,p∈y.side)∧y.s.N=x.s.N∧y.s.np=x.s.np
  | [],x,y,h=>by
    simp only[vC,aVr] at h;subst h;exact⟨fun _ h=>h,rfl,rfl⟩
  | o::l,x,y,h=>by
    obtain⟨e,_,_,_,h4⟩:=a1P h;obtain⟨h5,h6,h7⟩:=FY h4;exact⟨fun p hp=>h5 p (xS.2 (.inl hp)),h6,h7⟩
def FZ (ro:pP):Fence:={Fence.wide with round:=ro}
theorem aDM {ro:pP}{n:Nat}{P:Program}{f:FuncId}{args:Array pS}{w:pR}{R:Ending→pR→Prop}(h:Calls P f args w R):CallsIn (FZ ro) n P f args w R:=callsIn_wide.2 h
section
variable {B:Nat}{P:Program}{T:sV}{Γ:uH}(hT:y3 P T) (hΓ:EM P Γ) {A:Nat→Nat→Prop}{L:List qB}{g0:Gh}{w0:pR}{Q:Exit→Act→pR→Prop}
include hT hΓ
theorem aNs {g:Gh}{w:pR}{s:St}{a:Act}(h:w6 B g w s a) (e:qT):zO g s.nb e:=fun i _ hb=>h.nb i hb
omit hT hΓ in
theorem aDN {ops:List Oper}{o:Oper}{s:St}{e:qT}(h:zF T Γ ops o s=some e): ∀c,o.op≠.defer c:=by
  intro c hc;replace h:=(RP h).1;unfold NT at h;cases hg:o.guard with
  |none=>rw[hg,hc] at h;simp [NS,vB,NQ] at h
  | some jb=>
    rw[hg,hc] at h;simp only at h;cases hk:Γ (WE jb.1 jb.2) with
    |some _=>rw[hk] at h;cases h
    | none=>
      rw[hk] at h;simp only[QY] at h;cases hG:HB s.env jb.2 (AJ ops jb.1)<;>rw[hG] at h<;>simp [NR,vB,J3] at h
omit hT hΓ in
theorem aDO {ro:pP}{o:Oper}{a:Act}{w:pR}{K:Act→pR→Prop}(hd: ∀c,o.op≠.defer c) (h:o.wp P a w K Q):o.wpIn (FZ ro) 0 P a w K Q:=by
  refine⟨fun _ _=>trivial,?_⟩;rw[Oper.semAt_eq _ _ _ hd];unfold Oper.wp at h;generalize (execOp a.eval o).run P w=r at h|-;unfold Oper.upon at h;unfold Oper.uponIn;split at h
  .exact h
  .exact h
  .exact h
  .exact⟨fun h0=>(by cases h0),aDM h⟩
  .exact⟨fun h0=>(by cases h0),fun c cs _=>let ⟨v,w',r,s⟩:=h c cs;⟨v,w',r,stepsIn_wide.2 s⟩⟩
  .exact h
  .exact h.elim
theorem aDP {ro:pP}{ops:Array Oper}: ∀{l:List Oper}{x y:w9}{a:Act}{w:pR}{g:Gh},vC T Γ ops.toList l (some x)=some y→(∀p∈y.side,p)→w6 B g w x.s a→uB A L g0 w0 g w x.s.H→L.length=x.s.np→
    (∀g' a' w',w6 B g' w' y.s a'→uB A L g0 w0 g' w' y.s.H→Q .normal a' w')→wpListIn (FZ ro) 0 P ops Q l a w
  | [],x,y,a,w,g,h,hs,hr,hg,hn,hQ=>by
    simp only[vC,aVr] at h;subst h;exact hQ g a w hr hg
  | o::l,x,y,a,w,g,h,hs,hr,hg,hn,hQ=>by
    obtain⟨e,h1,h2,h3,h4⟩:=a1P h;have hside: ∀p∈e.side,p:=fun p hp=>hs p ((FY h4).1 p (xS.2 (.inr (xS.2 (.inr hp)))));have key:=aDF hT hΓ (ops:=ops.toList) (o:=o) (a:=a) (K:=wpListIn (FZ ro) 0 P ops Q l) (Q:=Q) hr.env hr.heap h1 hside (aNs hT hΓ hr e) (fun g' w' v k=>aDP h4 hs (hr.step k h2 h3) (hg.eff k (hn▸(RP h1).2)) hn hQ);simp only[aWZ] at key;unfold wpListIn;split at key
    .rename_i hw;rw[aVs hw];exact aDO (aDN h1) key
    .rename_i hw;rw[aVv hw];exact⟨fun _ _=>trivial,key⟩
theorem aNt {ro:pP}{id:Nat}{ops:Array Oper}{s:St}{y:w9}{a:Act}{w:pR}{g:Gh}(h:vC T Γ ops.toList ops.toList (some ⟨s,[],[]⟩)=some y) (hs: ∀p∈y.side,p) (hr:w6 B g w s a) (hg:uB A L g0 w0 g w s.H) (hn:L.length=s.np)
    (hQ: ∀g' a' w',w6 B g' w' y.s a'→uB A L g0 w0 g' w' y.s.H→Q .normal a' w'):(Code.region id ops false).wpIn (FZ ro) 0 P Q a w:=
  wpIn_region_list (aDP hT hΓ h hs hr hg hn hQ)
end
theorem aNu {H H':List (Nat×qB)}{t:Ty}{i off:Nat}{e:qT}(h:J2 H t i off (qE H i)=some e) (hl: ∀id∈e.rds,qE H' id=qE H id):i∈e.rds∧J2 H' t i off (qE H' i)=some e:=by
  have key: ∃k n v x ts,qE H i=some (.cells v x ts)∧BQ v x=some (k,n)∧VL t i off k n v x (qE H k)=some e∧e.rds=[1000000000,i,k]:=by
    unfold J2 at h;split at h
    case h_2=>cases h
    rename_i v x ts hb;cases hf:BQ v x with
    |none=>rw[hf] at h;cases h
    | some q=>
      obtain⟨k,n⟩:=q;rw[hf] at h;refine⟨k,n,v,x,ts,hb,hf,h,?_⟩;simp only[VM] at h;unfold VL at h;split at h
      case h_2=>cases h
      generalize A1 _ _ _ _=z at h;cases z with
      |none=>cases h
      | some z=>
        obtain⟨v',x'⟩:=z;simp only[a0F] at h;unfold a0E at h;split at h
        .simp only[aVr] at h;rw[←h]
        .cases h
  obtain⟨k,n,v,x,ts,h1,h2,h3,h4⟩:=key;refine⟨by rw[h4];simp,?_⟩;rw[hl i (by rw[h4];simp),h1];simp only[J2,h2,VM];rw[hl k (by rw[h4];simp)];exact h3
theorem a1Q {ρ ρ':Operand→qC}: ∀{xs:List Operand},(∀x∈xs,ρ' x=ρ x)→wD ρ' xs=wD ρ xs
  |[],_=>rfl
  |x::xs,h=>by simp only[wD,h x pI,a1Q (fun y hy=>h y (aVB _ hy))]
theorem a1R {ρ ρ':Operand→qC}: ∀{xs:List (Nat×Operand)},(∀x∈xs,ρ' x.2=ρ x.2)→vA ρ' xs=vA ρ xs
  |[],_=>rfl
  |(i,x)::xs,h=>by simp only[vA,h (i,x) pI,a1R (fun y hy=>h y (aVB _ hy))]
theorem aDQ {T:sV}{ρ ρ':Operand→qC}: ∀{xs:List Operand}{ts:List TypeId},(∀x∈xs,ρ' x=ρ x)→H9 T ρ' xs ts=H9 T ρ xs ts
  |[],_,_=>by simp [H9]
  |_::_,[],_=>by simp [H9]
  |x::xs,t::ts,h=>by simp only[H9,h x pI,aDQ (fun y hy=>h y (aVB _ hy))]
theorem aNv {T:sV}{Γ:uH}{ty:TypeId}{ρ ρ':Operand→qC}{base:Nat}{H:List (Nat×qB)}(op:Op) (h: ∀x∈op.operands,ρ' x=ρ x):vB T Γ ty ρ' base H op=vB T Γ ty ρ base H op:=by
  cases op
  case slice t x lo hi mx=>
    cases mx with
    |some m=>rfl
    | none=>
      have h1:=h x (by simp [Op.operands])
      have h2:A2 ρ' lo=A2 ρ lo:=by
        cases lo with
        |none=>rfl
        |some l=>simp only[A2,h l (by simp [Op.operands])]
      have h3:A2 ρ' hi=A2 ρ hi:=by
        cases hi with
        |none=>rfl
        |some l=>simp only[A2,h l (by simp [Op.operands])]
      simp only[vB,h1,h2,h3]
  case call c=>
    obtain⟨callee,args,tys⟩:=c
    have ha: ∀x∈args.toList,ρ' x=ρ x:=fun x hx=>h x (by
      have:x∈args:=by simpa using hx
      simp only[Op.operands,Call.operands];split<;>simp [this])
    cases callee with
    |builtin b=>cases b<;>simp only[vB,LE,a1Q ha]
    | value f=>
      have hf:=h f (by simp [Op.operands,Call.operands]);simp only[vB,LE,hf];cases LD args.toList tys.toList with
      |false=>rfl
      |true=>simp only[a0T,aDQ ha]
    |_=>rfl
  case build t ps=>simp only[vB,a1R (fun x hx=>h x.2 (by simp only[Op.operands,aXo];exact List.mem_map_of_mem hx))]
  case buildSlice t n ps=>simp only[vB,a1R (fun x hx=>h x.2 (by simp only[Op.operands,aXo];exact List.mem_map_of_mem hx))]
  case makeFunc f first caps=>
    cases f with
    | func f=>
      have hc: ∀x∈caps.toList,ρ' x=ρ x:=fun x hx=>h x (by
        have:x∈caps:=by simpa using hx
        simp [Op.operands,this])
      simp only[vB,a1Q hc]
    |_=>rfl
  all_goals first
    |rfl
    |(simp only[Op.operands,aXo,aVH,aW4,or_false,forall_eq,forall_eq_or_imp] at h;simp only[vB,h])
    |(simp [Op.operands] at h;simp only[vB,h])
theorem a1S: ∀{l acc:List rV}{i:Nat},i∈sK (zZ l acc)↔i∈sK l∨i∈sK acc
  |[],_,_=>by simp [zZ,sK]
  | w::l,acc,i=>by
    simp only[zZ,a1S,sK,aVH];constructor
    · rintro(h|h|h)
      .exact .inl (.inr h)
      .exact .inl (.inl h)
      .exact .inr h
    · rintro((h|h) |h)
      .exact .inr (.inl h)
      .exact .inl h
      .exact .inr (.inr h)
section
variable {H H':List (Nat×qB)}
theorem aNw {k:pP}{a b:tD}(h:A0 H k (some a)=some b):(∀i,i∈sK a.ws→i∈sK b.ws)∧((∀i,i∈sK b.ws→qE H' i=qE H i)→A0 H' k (some a)=some b):=by
  cases k with
  | none=>
    have h:none=some b:=h;cases h
  | some k=>
    simp only[A0] at h|-
    have:(∃e c m,qE H k=some (.grow e c m)):=by
      cases hg:qE H k with
      |none=>rw[hg] at h;cases h
      | some bl=>cases bl with
        |grow e c m=>exact⟨_,_,_,rfl⟩
        |_=>rw[hg] at h;cases h
    obtain⟨e,c,m,hg⟩:=this;rw[hg] at h;simp only[CE] at h;split at h
    .cases h
    · rename_i hm
      simp only[aVr] at h;subst h;refine⟨fun i hi=>by simp only[sK,aVH];exact .inr hi,fun hl=> ?_⟩;rw[hl k (by simp [sK,rV.id]),hg];simp only[CE];rw[aVv hm]
theorem aNx (H:List (Nat×qB)) (k:pP):A0 H k none=none:=by
  cases k with
  |none=>rfl
  | some k=>
    simp only[A0];cases qE H k with
    |none=>rfl
    |some bl=>cases bl<;>rfl
theorem aDR (H:List (Nat×qB)) (toks:pL) (o:Nat): ∀(qs:pQ),zE H toks o qs none=none
  |[]=>rfl
  |q::qs=>by simp only[zE,aNx,aDR H toks o qs]
theorem aDS {H H':List (Nat×qB)}{toks:pL}{o:Nat}: ∀{qs:pQ}{a b:tD},zE H toks o qs (some a)=some b→(∀i,i∈sK a.ws→i∈sK b.ws)∧((∀i,i∈sK b.ws→qE H' i=qE H i)→zE H' toks o qs (some a)=some b)
  |[],a,b,h=>by simp only[zE,aVr] at h;subst h;exact⟨fun _ h=>h,fun _=>rfl⟩
  | q::qs,a,b,h=>by
    simp only[zE] at h|-;cases hm:A0 H (xX toks (o+q)) (some a) with
    |none=>rw[hm,aDR] at h;cases h
    | some m=>
      rw[hm] at h;obtain⟨h1,h2⟩:=aNw (H':=H') hm;obtain⟨h3,h4⟩:=aDS (H':=H') h;exact⟨fun i hi=>h3 i (h1 i hi),fun hl=>by rw[h2 (fun i hi=>hl i (h3 i hi))];exact h4 hl⟩
theorem aNy (H H':List (Nat×qB)) (a:tD) (s:qC):yS H' a .v s=yS H a .v s:=by
  obtain⟨d,k⟩:=s;cases d with
  | val t x=>
    cases t with
    | clo=>
      cases x with
      |none=>rfl
      |some q=>obtain⟨f,l⟩:=q;cases l<;>rfl
    |_=>rfl
  |_=>rfl
theorem aDT {H H':List (Nat×qB)}{t:Ty}{os:pQ}{i o:Nat}{a b:tD}(h:wM H t os i o a (qE H i)=some b):(∀i,i∈sK a.ws→i∈sK b.ws)∧((∀i,i∈sK b.ws→qE H' i=qE H i)→wM H' t os i o a (qE H' i)=some b):=by
  cases hg:qE H i with
  |none=>rw[hg] at h;simp [wM] at h
  | some bl=>
    rw[hg] at h;cases bl with
    | cells u x toks=>
      simp only[wM] at h;cases hy:rK t u x o with
      |none=>rw[hy] at h;simp [FR] at h
      | some y=>
        rw[hy] at h;simp only[FR] at h;split at h
        · rename_i hc
          obtain⟨h3,h4⟩:=aDS (H':=H') h;refine⟨fun j hj=>h3 j (by simp only[sK,aVH];exact .inr hj),fun hl=> ?_⟩;rw[hl i (h3 i (by simp [sK,rV.id])),hg];simp only[wM,hy,FR];rw[aVs hc];exact h4 hl
        .cases h
    |_=>simp [wM] at h
theorem aNz (H:List (Nat×qB)) (f:FuncId) (args:List qC) (ks:List (Ty×pQ)) (cs ids:pL):yF H f args ks cs ids none=none:=by cases ks<;>cases cs<;>rfl
theorem aDU {H H':List (Nat×qB)}{f:FuncId}{args:List qC}: ∀{ks:List (Ty×pQ)}{cs ids:pL}{a b:tD},yF H f args ks cs ids (some a)=some b→(∀i,i∈sK a.ws→i∈sK b.ws)∧((∀i,i∈sK b.ws→qE H' i=qE H i)→yF H' f args ks cs ids (some a)=some b)
  | [],[],ids,a,b,h=>by
    simp only[yF,aVr] at h|-;subst h;exact⟨fun _ h=>h,fun _=>rfl⟩
  |[],_::_,_,_,_,h=>by simp [yF] at h
  |_::_,[],_,_,_,h=>by simp [yF] at h
  | (t,os)::ks,(i,o)::cs,ids,a,b,h=>by
    simp only[yF] at h|-;cases hb:wM H t os i o a (qE H i) with
    |none=>rw[hb,aNz] at h;cases h
    | some m=>
      rw[hb] at h;obtain⟨h1,h2⟩:=aDT (H':=H') hb;obtain⟨h3,h4⟩:=aDU (H':=H') h;exact⟨fun i hi=>h3 i (h1 i hi),fun hl=>by rw[h2 (fun i hi=>hl i (h3 i hi))];exact h4 hl⟩
theorem aDV {p:PK}{s:qC}{a b:tD}(h:yS H a p s=some b):(∀i,i∈sK a.ws→i∈sK b.ws)∧((∀i,i∈sK b.ws→qE H' i=qE H i)→yS H' a p s=some b):=by
  by_cases hpv:p= .v
  · subst hpv
    refine⟨?_,fun _=>by rw[aNy H H'];exact h⟩;unfold yS at h;split at h
    .simp only[V6,aVr] at h;subst h;exact fun _ h=>h
    · simp only[V5] at h
      split at h
      .simp only[aVr] at h;subst h;exact fun _ h=>h
      .cases h
    .simp only[V7,aVr] at h;subst h;exact fun _ h=>h
    .rename_i h1;cases h1
    .rename_i h1;cases h1
    .rename_i h1;cases h1
    .rename_i h1;cases h1
    .rename_i h1;cases h1
    .cases h
  unfold yS at h;split at h
  .exact absurd rfl hpv
  .exact absurd rfl hpv
  .exact absurd rfl hpv
  · rename_i t x k
    simp only[yS];cases hg:qE H k with
    |none=>rw[hg] at h;simp [CF] at h
    | some bl=>
      rw[hg] at h;cases bl with
      | grow e c m=>
        simp only[CF] at h;split at h
        · rename_i hc
          simp only[aVr] at h;subst h;refine⟨fun i hi=>by simp only[sK,aVH];exact .inr hi,fun hl=> ?_⟩;rw[hl k (by simp [sK,rV.id]),hg];simp only[CF];rw[aVs hc]
        .cases h
      |_=>simp [CF] at h
  · rename_i t os i o k
    simp only[yS];exact aDT h
  · rename_i i k
    simp only[yS];cases hg:qE H i with
    |none=>rw[hg] at h;simp [CG] at h
    | some bl=>
      rw[hg] at h;cases bl with
      | map s t l=>
        simp only[CG] at h;split at h
        · rename_i hc
          simp only[aVr] at h;subst h;refine⟨fun j hj=>by simp only[sK,aVH];exact .inr hj,fun hl=> ?_⟩;rw[hl i (by simp [sK,rV.id]),hg];simp only[CG];rw[aVs hc]
        .cases h
      |_=>simp [CG] at h
  · rename_i k n k'
    simp only[yS];cases hg:qE H k with
    |none=>rw[hg] at h;simp [CH] at h
    | some bl=>
      rw[hg] at h;cases bl with
      | row e t l m=>
        simp only[CH] at h;split at h
        · rename_i hc
          simp only[aVr] at h;subst h;refine⟨fun j hj=>by simp only[sK,aVH];exact .inr hj,fun hl=> ?_⟩;rw[hl k (by simp [sK,rV.id]),hg];simp only[CH];rw[aVs hc]
        .cases h
      |_=>simp [CH] at h
  · simp only[yS]
    exact aDU h
  .cases h
theorem aDW (H:List (Nat×qB)) (gs:List (Nat×Nat×PK)):BO H gs none=none:=by cases gs<;>rfl
theorem aDX {H H':List (Nat×qB)}: ∀{gs:List (Nat×Nat×PK)}{a b:tD},BO H gs (some a)=some b→(∀i,i∈sK a.ws→i∈sK b.ws)∧((∀i,i∈sK b.ws→qE H' i=qE H i)→BO H' gs (some a)=some b)
  |[],a,b,h=>by simp only[BO,aVr] at h;subst h;exact⟨fun _ h=>h,fun _=>rfl⟩
  | (c,q,pk)::gs,a,b,h=>by
    simp only[BO] at h|-;cases hm:yS H a pk (L3 q pk (IY a.H (a.n-1-c))) with
    |none=>rw[hm] at h;simp only[NH,aDW] at h;cases h
    | some m=>
      rw[hm] at h;simp only[NH] at h;obtain⟨h1,h2⟩:=aDV (H':=H') hm;obtain⟨h3,h4⟩:=aDX (H':=H') h;exact⟨fun i hi=>h3 i (h1 i hi),fun hl=>by rw[h2 (fun i hi=>hl i (h3 i hi))];simp only[NH];exact h4 hl⟩
theorem aNA (H:List (Nat×qB)): ∀(ps:List PK) (ss:List qC),yG H ps ss none=none
  |[],[]=>rfl
  |[],_::_=>rfl
  |_::_,[]=>rfl
  |_::_,_::_=>rfl
theorem aDY {H H':List (Nat×qB)}: ∀{ps:List PK}{ss:List qC}{a b:tD},yG H ps ss (some a)=some b→(∀i,i∈sK a.ws→i∈sK b.ws)∧((∀i,i∈sK b.ws→qE H' i=qE H i)→yG H' ps ss (some a)=some b)
  |[],[],a,b,h=>by simp only[yG,aVr] at h;subst h;exact⟨fun _ h=>h,fun _=>rfl⟩
  |[],_::_,a,b,h=>by simp [yG] at h
  |_::_,[],a,b,h=>by simp [yG] at h
  | p::ps,s::ss,a,b,h=>by
    simp only[yG] at h|-;cases hm:yS H a p s with
    |none=>rw[hm,aNA] at h;cases h
    | some m=>
      rw[hm] at h;obtain⟨h1,h2⟩:=aDV (H':=H') hm;obtain⟨h3,h4⟩:=aDY (H':=H') h;exact⟨fun i hi=>h3 i (h1 i hi),fun hl=>by rw[h2 (fun i hi=>hl i (h3 i hi))];exact h4 hl⟩
theorem aDZ {H H':List (Nat×qB)}{base:Nat}{args:List qC}{s:qW}{e:qT}(h:H7 H base args (some s)=some e) (hl: ∀i∈e.rds,qE H' i=qE H i):H7 H' base args (some s)=some e:=by
  simp only[H7] at h|-;cases hp0:yG H s.ps args (some ⟨[],[],[],0⟩) with
  |none=>rw[hp0,aDW] at h;cases h
  |some a0=>
   rw[hp0] at h;cases hp:BO H s.gs (some a0) with
   |none=>rw[hp] at h;cases h
   |some a=>
    rw[hp] at h
    have hrd: ∀i,i∈sK (zZ a.ws [])→i∈e.rds:=by
      simp only[QN] at h;cases hcl:IZ (zZ a.ws []) (zZ a.H []) with
      |none=>rw[hcl] at h;cases h
      |some L=>
      rw[hcl] at h;simp only[VD] at h;cases hc:s.C (zZ a.args []) L with
      |none=>rw[hc] at h;cases h
      | some r=>
        rw[hc] at h;simp only[VC] at h;unfold QL at h;split at h
        · simp only[aVr] at h
          rw[←h];exact fun i hi=>xS.2 (.inl hi)
        .cases h
    obtain⟨g1,g2⟩:=aDX (H':=H') hp;rw[(aDY (H':=H') hp0).2 (fun i hi=>hl i (hrd i (a1S.2 (.inl (g1 i hi))))),g2 (fun i hi=>hl i (hrd i (a1S.2 (.inl hi))))];exact h
theorem aD0 {H H':List (Nat×qB)}{base:Nat}{args:List qC}{s:Option qW}{e:qT}(h:LC H base args s=some e) (hl: ∀i∈e.rds,qE H' i=qE H i):LC H' base args s=some e:=by
  cases s with
  |none=>cases h
  | some s=>
    simp only[LC] at h|-;cases hr:s.row with
    | some F=>
      rw[hr] at h;simp only[W5] at h|-;unfold VE at h|-;split at h
      · rename_i k n x
        cases hg:qE H k with
        |none=>rw[hg] at h;cases h
        | some b=>
          have hk:k∈e.rds:=by
            rw[hg] at h;cases b with
            | row e0 t l m=>
              simp only[a0q] at h;unfold aBR at h;split at h
              .simp only[aVr] at h;rw[←h];simp
              .cases h
            |_=>cases h
          rw[hl k hk];exact h
      .cases h
    | none=>
      rw[hr] at h;simp only[W5] at h|-;cases hn:QO s.ps args with
      |none=>rw[hn] at h;exact aDZ h hl
      | some k=>
        rw[hn] at h;simp only[aBQ] at h|-;cases hg:qE H k with
        |none=>rw[hg] at h;cases h
        | some b=>
          rw[hg] at h;cases b with
          | row e0 t l m=>
            simp only[QQ] at h;cases hi:H7 ((k,.dead)::H) base (QP k t l args) (some s) with
            |none=>rw[hi] at h;cases h
            | some e1=>
              rw[hi] at h
              have hk:k∈e.rds∧∀i∈e1.rds,i∈e.rds:=by
                unfold a0p at h;split at h
                · rename_i heq
                  simp only[aVr] at heq;subst heq;split at h
                  · simp only[aVr] at h
                    rw[←h];exact⟨by simp,fun i hi=>aVB _ hi⟩
                  .cases h
                .cases h
              rw[hl k hk.1,hg];simp only[QQ]
              rw[aDZ hi (fun i hi'=>by
                simp only[qE];split
                .rfl
                .exact hl i (hk.2 i hi'))]
              exact h
          |_=>cases h
theorem aNB {Γ:uH}{base:Nat}{args:List qC}{f:qC}{e:qT}(h:NN Γ H base args f=some e) (hl: ∀i∈e.rds,qE H' i=qE H i):NN Γ H' base args f=some e:=by
  unfold NN at h|-;split at h
  .exact aD0 h hl
  .exact aD0 h hl
  .cases h
theorem aNC {T:sV}{Γ:uH}{ty:TypeId}{ρ:Operand→qC}{base:Nat}{op:Op}{e:qT}(h:vB T Γ ty ρ base H op=some e) (hl: ∀i∈e.rds,qE H' i=qE H i):vB T Γ ty ρ base H' op=some e:=by
  cases op
  case load t x=>
    simp only[vB] at h|-;unfold VN at h|-;split at h
    · rename_i ti k n c i o' _ e1 e2
      unfold QU at h;split at h
      · rename_i e' t' l m hg
        split at h
        · rename_i hc
          have:e.rds=[k]:=by
            unfold aBX at h;split at h
            .simp only[aVr] at h;rw[←h]
            .cases h
          rw[hl k (by rw[this];simp),hg];simp only[QU];rw[aVs hc];exact h
        .cases h
      .cases h
    .exact h
    · rename_i ti i off k e1 e2
      rcases aCH h with h1|⟨h0,h1⟩
      · have hi:i∈e.rds:=by
          rcases aCG h1 with h|h
          · unfold QT at h
            split at h
            · unfold aBW at h;split at h
              .simp only[aVr] at h;rw[←h];simp
              .cases h
            .cases h
          · unfold VK at h
            split at h
            · unfold a0B at h;split at h
              .simp only[aVr] at h;rw[←h];simp
              .cases h
            .cases h
        rw[hl i hi,h1];rfl
      · obtain⟨hi,h2⟩:=aNu h1 hl
        rw[hl i hi,h0];rw[hl i hi] at h2;exact h2
    .cases h
  case store t x y=>
    simp only[vB] at h|-;unfold VT at h|-;split at h
    · rename_i ti i off k kk n k' e1 e2 e3
      have hi:i∈e.rds:=by
        unfold a0J at h;split at h
        · rcases aCX h with h|h
          · unfold VO at h;split at h
            .simp only[aVr] at h;rw[←h];simp
            .cases h
          · unfold a0I at h;split at h
            .simp only[aVr] at h;rw[←h];simp
            .cases h
        .cases h
      rw[hl i hi];exact h
    · rename_i ti k n c i o' _ t y k' e1 e2 e3
      split at h
      · rename_i ht
        rw[aVs ht];unfold VS at h;split at h
        · rename_i e' t' l m hg
          split at h
          · rename_i hc
            have:e.rds=[k]:=by
              unfold aB0 at h;split at h
              .simp only[aVr] at h;rw[←h]
              .cases h
            rw[hl k (by rw[this];simp),hg];simp only[VS];rw[aVs hc];exact h
          .cases h
        .cases h
      .cases h
    · rename_i ti i off k t y k' e1 e2 e3
      split at h
      · rename_i ht
        have hi:e.rds=[i]:=by
          unfold VR at h;split at h
          · unfold VQ at h
            split at h
            · unfold aBZ at h;split at h
              .simp only[aVr] at h;rw[←h]
              .cases h
            .cases h
          · unfold VP at h
            split at h
            · unfold VO at h;split at h
              .simp only[aVr] at h;rw[←h]
              .cases h
            .cases h
        rw[hl i (by rw[hi];simp)];simp only[aVs ht];exact h
      .cases h
    .cases h
  case call c=>
    obtain⟨callee,args,tys⟩:=c;cases callee with
    | builtin b=>
      cases b
      case append=>
        simp only[vB,LE] at h|-;unfold W8 at h|-;split at h
        · split at h
          · rename_i hu
            rw[aVs hu];unfold W3 at h|-;split at h
            · split at h
              · rename_i hbu
                rw[aVs hbu];unfold VZ at h;split at h
                · rename_i hg
                  split at h
                  · rename_i hbt
                    split at h
                    · rename_i hc
                      simp only[aVr] at h;subst h;rw[hl _ (aVz),hg];simp only[VZ];rw[aXz hbt,aVs hc]
                    .cases h
                  .cases h
                .cases h
              .cases h
            · split at h
              · rename_i hba
                rw[aXz hba];unfold VY at h;split at h
                · rename_i hg
                  split at h
                  · rename_i hc
                    simp only[aVr] at h;subst h;rw[hl _ (aVz),hg];simp only[VY];rw[aVs hc]
                  .cases h
                .cases h
              .cases h
            .cases h
          · rename_i hu
            rw[aVv hu];unfold a0S at h|-;split at h
            · unfold W7 at h
              split at h
              · rename_i hg
                split at h
                · rename_i hc
                  simp only[aVr] at h;subst h;rw[hl _ (aVz),hg];simp only[W7];rw[aVs hc]
                .cases h
              .cases h
            .cases h
        .cases h
      case len=>
        simp only[vB,LE] at h|-;unfold W6 at h|-;split at h
        · unfold a0Q at h|-
          split at h
          · unfold VX at h
            split at h
            · rename_i hg
              simp only[aVr] at h;subst h;rw[hl _ (aVz),hg];simp only[VX]
            .cases h
          all_goals exact h
        .cases h
      all_goals exact h
    | value f=>
      simp only[vB,LE] at h|-;cases hsl:LD args.toList tys.toList with
      |false=>rw[hsl] at h;cases h
      |true=>rw[hsl] at h;exact aNB h hl
    |_=>exact h
  case makeFunc f first caps=>
    cases f with
    |func f=>exact h
    |_=>exact h
  case slice t x lo hi mx=>
    cases mx with
    |none=>exact h
    |some m=>exact h
  case next x b=>
    simp only[vB] at h|-;unfold WD at h|-;split at h
    · rename_i i k e1
      unfold a0Y at h;split at h
      · rename_i hg
        have:e.rds=[i]:=by
          simp only[aVr] at h;rw[←h]
        rw[hl i (by rw[this];simp),hg];exact h
      .cases h
    .cases h
  case lookup xt x ix ok=>
    simp only[vB] at h|-;unfold WA at h|-;split at h
    · rename_i el fl ar ls_ i kk e1 e2
      unfold a0V at h|-;split at h
      · rename_i kt vt k a _
        split at h
        · rename_i hk
          rw[aVs hk];unfold W9 at h;split at h
          · rename_i hg
            split at h
            · rename_i hkv
              split at h
              · rename_i hkey
                have:e.rds=[i]:=by
                  cases ok<;>(simp only[aVr] at h;rw[←h])
                rw[hl i (by rw[this];simp),hg];simp only[W9];rw[aXz hkv,aVs hkey];exact h
              .cases h
            .cases h
          .cases h
        .cases h
      .cases h
    .exact h
    .cases h
  case mapUpdate mt m x y=>
    simp only[vB] at h|-;unfold NP at h|-;split at h
    · rename_i el fl ar ls_ i kk e1 e2
      unfold WB at h|-;split at h
      · rename_i kt k a _ u b _
        split at h
        · rename_i hk
          rw[aVs hk];unfold NO at h;split at h
          · rename_i hg
            split at h
            · rename_i hkv
              split at h
              · rename_i hkey
                have:e.rds=[i]:=by
                  simp only[aVr] at h;rw[←h]
                rw[hl i (by rw[this];simp),hg];simp only[NO];rw[aXz hkv,aVs hkey];exact h
              .cases h
            .cases h
          .cases h
        .cases h
      .cases h
    .cases h
  case insert mt m x y=>
    simp only[vB] at h|-;unfold NP at h|-;split at h
    · rename_i el fl ar ls_ i kk e1 e2
      unfold WB at h|-;split at h
      · rename_i kt k a _ u b _
        split at h
        · rename_i hk
          rw[aVs hk];unfold NO at h;split at h
          · rename_i hg
            split at h
            · rename_i hkv
              split at h
              · rename_i hkey
                have:e.rds=[i]:=by
                  simp only[aVr] at h;rw[←h]
                rw[hl i (by rw[this];simp),hg];simp only[NO];rw[aXz hkv,aVs hkey];exact h
              .cases h
            .cases h
          .cases h
        .cases h
      .cases h
    .cases h
  all_goals exact h
end
theorem aND {T:sV}{Γ:uH}{ops:Array Oper}{o:Oper}{s s':St}{e:qT}(h:NT T Γ ops.toList o s=some e) (ht: ∀t∈o.looksAt ops,lk s'.env t=lk s.env t) (hH: ∀i∈e.rds,qE s'.H i=qE s.H i) (hn:s'.nb=s.nb):NT T Γ ops.toList o s'=some e:=by
 have hop: ∀x∈o.op.operands,uO s'.env x=uO s.env x:=fun x hx=>by
  cases x with
  |tmp t=>exact ht t (by simp only[Oper.looksAt,aWd,List.mem_filterMap];exact .inl ⟨.tmp t,by simpa using hx,rfl⟩)
  |_=>rfl
 have hops:CL s'.env (sR o.op)=CL s.env (sR o.op):=by
  have hsub: ∀x∈sR o.op,x∈o.op.operands:=by
   have hp: ∀(l:List (Nat×Operand)) x,x∈sR.parts l->x∈l.map (·.2):=by
    intro l
    induction l with
    |nil=>intro x h;exact h
    |cons q l ih=>
     intro x h;obtain⟨i,y⟩:=q;simp only[sR.parts,aVH] at h;rcases h with rfl|h
     .simp
     .simp only[aWy,aVH];exact .inr (ih x h)
   have ho: ∀(y:Option Operand) x,x∈sR.opt y->y=some x:=by
    intro y x h;cases y with
    |none=>cases h
    |some y=>simp only[sR.opt,aVJ] at h;rw[h]
   intro x hx;cases hop:o.op
   case call c=>
    rw[hop] at hx;obtain⟨callee,args,tys⟩:=c;cases callee<;>simp_all [sR,Op.operands,Call.operands]
   case slice t y lo hi mx=>
    rw[hop] at hx;simp only[sR,aVH,xS] at hx;simp only[Op.operands,Array.mem_append];rcases hx with rfl|hx|hx
    .simp
    .have:=ho _ _ hx;subst this;simp
    .have:=ho _ _ hx;subst this;simp
   case build t ps=>rw[hop] at hx;simp only[Op.operands,aXo];exact hp _ _ hx
   case buildSlice t n ps=>rw[hop] at hx;simp only[Op.operands,aXo];exact hp _ _ hx
   all_goals (rw[hop] at hx;simp_all [sR,Op.operands])
  have: ∀(l:List Operand),(∀x∈l,x∈o.op.operands)->CL s'.env l=CL s.env l:=by
   intro l
   induction l with
   |nil=>intro _;rfl
   |cons x l ih=>intro h;simp only[CL,hop x (h x pI),ih (fun y hy=>h y (aVB _ hy))]
  exact this _ hsub
 have hpl: ∀{e0:qT},vB T Γ o.type (fun x=>yI (uO s.env x)) s.nb s.H o.op=some e0->e0.rds=e.rds->vB T Γ o.type (fun x=>yI (uO s'.env x)) s'.nb s'.H o.op=some e0:=by
  intro e0 h1 h2;rw[aNv (ρ:=fun x=>yI (uO s.env x)) (ρ':=fun x=>yI (uO s'.env x)) o.op (fun x hx=>by simp only[hop x hx]),hn];exact aNC h1 (by rw[h2];exact hH)
 unfold NT at h|-;cases hg:o.guard with
 |none=>
  rw[hg] at h;simp only at h|-;by_cases hpk: ∃c x y,o.op= .pick c x y
  .obtain⟨c,x,y,hp⟩:=hpk;rw[hp] at h|-;simp only[NS] at h|-;rw[hop c (by rw[hp];simp [Op.operands]),hop x (by rw[hp];simp [Op.operands]),hop y (by rw[hp];simp [Op.operands])];exact h
  .have e1: ∀s,NS T Γ o s o.op=NQ (zN true (CL s.env (sR o.op))) (vB T Γ o.type (fun x=>yI (uO s.env x)) s.nb s.H o.op):=by
    intro s;cases ho:o.op<;>first|rfl|(exact absurd ⟨_,_,_,ho⟩ hpk)
   rw[e1] at h|-;rw[hops];cases hp0:vB T Γ o.type (fun x=>yI (uO s.env x)) s.nb s.H o.op with
   |none=>rw[hp0] at h;cases h
   |some e0=>
    rw[hp0] at h;simp only[NQ,aVr] at h;rw[hpl hp0 (by rw[<-h])];simp only[NQ,h]
 |some jb=>
  obtain⟨j,b⟩:=jb;rw[hg] at h;simp only at h|-;have hgu:HB s'.env b (AJ ops.toList j)=HB s.env b (AJ ops.toList j):=by
   rw[RN];cases hd:(ops.toList[j]?).bind (·.dst) with
   |none=>rfl
   |some t=>
    simp only[HB];rw[ht t (by
     simp only[Oper.looksAt,hg,aWd];right;have:(ops[j]?).bind (·.dst)=some t:=by simpa using hd
     rw[this];simp)]
  have hup:LF s'.env b (AJ ops.toList j)=LF s.env b (AJ ops.toList j):=by
   rw[RN];cases hd:(ops.toList[j]?).bind (·.dst) with
   |none=>rfl
   |some t=>
    simp only[LF];rw[ht t (by
     simp only[Oper.looksAt,hg,aWd];right;have:(ops[j]?).bind (·.dst)=some t:=by simpa using hd
     rw[this];simp)]
  rw[hgu,hup];cases hsk:Γ (WE j b) with
  |some sg=>rw[hsk] at h;exact h
  |none=>
  rw[hsk] at h;simp only[QY] at h|-;cases hG:HB s.env b (AJ ops.toList j) with
  |none=>rw[hG] at h;cases h
  |some G=>
   rw[hG] at h;by_cases hpk: ∃c x y,o.op= .pick c x y
   .obtain⟨c,x,y,hp⟩:=hpk;rw[hp] at h|-;simp only[NR] at h|-;rw[hop c (by rw[hp];simp [Op.operands]),hop x (by rw[hp];simp [Op.operands]),hop y (by rw[hp];simp [Op.operands])];exact h
   have e1: ∀s,NR T Γ o s (some G) o.op=J3 G (zN G (CL s.env (sR o.op))) (vB T Γ o.type (fun x=>yI (uO s.env x)) s.nb s.H o.op):=by
    intro s;cases ho:o.op<;>first|rfl|(exact absurd ⟨_,_,_,ho⟩ hpk)
   rw[e1] at h|-;rw[hops];cases hp0:vB T Γ o.type (fun x=>yI (uO s.env x)) s.nb s.H o.op with
   |none=>rw[hp0] at h;cases h
   |some e0=>
    rw[hp0] at h;have hrd:e0.rds=e.rds:=by
     unfold J3 at h;split at h
     .rename_i heq;simp only[aVr] at h heq;subst heq;rw[<-h]
     .rename_i heq;simp only[aVr] at h heq;subst heq;rw[<-h]
     .cases h
    rw[hpl hp0 hrd];exact h
theorem a1T {T:sV}{Γ:uH}{ops:Array Oper}{o:Oper}{s s':St}{e:qT}(h:zF T Γ ops.toList o s=some e) (ht: ∀t∈o.looksAt ops,lk s'.env t=lk s.env t) (hH: ∀i∈e.rds,qE s'.H i=qE s.H i) (hn:s'.nb=s.nb) (hp:s'.np=s.np):zF T Γ ops.toList o s'=some e:=by
 obtain⟨h1,h2⟩:=RP h;unfold zF at h|-;rw[h1] at h;rw[aND h1 ht hH hn,hp];exact h
def vO {α:Type}(p:Nat->Bool) (wr:Nat->Option α) (b:α):Nat->α
 |0=>b
 |k+1=>if p k=true then(wr k).getD (vO p wr b k) else vO p wr b k
theorem LQ {α:Type}{p q:Nat->Bool}{wr:Nat->Option α}{b:α}: ∀{n:Nat},(∀j,j<n->wr j≠none->p j=q j)->vO p wr b n=vO q wr b n
 |0,_=>rfl
 |n+1,h=>by
  simp only[vO];have ih:=LQ (p:=p) (q:=q) (wr:=wr) (b:=b) (n:=n) (fun j hj=>h j pG);cases hw:wr n with
  |none=>simp [ih]
  |some v=>rw[h n pG (by rw[hw];simp),ih]
theorem a1U {α:Type}{wr:Nat->Option α}{b:α}{i:Nat}: ∀{n:Nat},i<=n->vO (fun j=>decide (j<i)) wr b n=vO (fun _=>true) wr b i
 |0,h=>by
  have:i=0:=by omega
  subst this;rfl
 |n+1,h=>by
  by_cases hi:i=n+1
  .subst hi;exact LQ (fun j hj _=>by simp [hj])
  .have: ¬n<i:=by omega
   simp only[vO];rw[aVv (by simp [this])];exact a1U pG
theorem XG {α:Type}{p q:Nat->Bool}{wr:Nat->Option α}{b:α}{i:Nat}(hi:p i=false) (hq: ∀j,q j=if j=i then true else p j): ∀{n:Nat},i<n->(∀j,i<j->j<n->p j=true->wr j=none\/wr i=none)->vO q wr b n=(wr i).getD (vO p wr b n)
 |0,h,_=>by omega
 |n+1,h,hd=>by
  simp only[vO];by_cases hn:n=i
  .subst hn;rw[aVs (by rw[hq];simp),aVv (by simp [hi])];rw[LQ (p:=q) (q:=p) (fun j hj _=>by rw[hq,aVv pG])]
  .have ih:=XG (b:=b) hi hq (n:=n) pG (fun j h1 h2=>hd j h1 pG);rw[hq,aVv hn,ih];by_cases hp:p n=true
   .rw[aVs hp,aVs hp];rcases hd n pG pG hp with h1|h1
    .rw[h1];rfl
    .rw[h1];rfl
   .rw[aVv hp,aVv hp]
theorem a1V {α:Type}{p:Nat->Bool}{wr:Nat->Option α}{b:α}: ∀(k:Nat),vO p wr b (k+1)=vO (fun j=>p (j+1)) (fun j=>wr (j+1)) (if p 0=true then(wr 0).getD b else b) k
 |0=>rfl
 |k+1=>by
  rw[vO,a1V k];rfl
theorem a1W {rds:pQ}{i:Nat}: ∀{u:List (Nat×qB)},i∈qH (J7 rds u)↔i∈qH u/\CM i rds=false
 |[]=>by simp [J7,qH]
 |(j,b)::u=>by
  simp only[J7];cases h:CM j rds with
  |true=>
   rw[aVs rfl,a1W (u:=u)];simp only[qH,aVH];constructor
   .rintro⟨h1,h2⟩;exact⟨.inr h1,h2⟩
   .rintro⟨rfl|h1,h2⟩
    .rw[h] at h2;cases h2
    .exact⟨h1,h2⟩
  |false=>
   rw[aVv pI];simp only[qH,aVH,a1W (u:=u)];constructor
   .rintro(rfl|⟨h1,h2⟩)
    .exact⟨.inl rfl,h⟩
    .exact⟨.inr h1,h2⟩
   .rintro⟨rfl|h1,h2⟩
    .exact .inl rfl
    .exact .inr ⟨h1,h2⟩
theorem OB {e:qT}{i:Nat}:i∈qH (xO e)↔i∈qH e.upd/\CM i e.rds=false:=a1W
theorem aD1 {i:Nat}: ∀{l:pQ},CM i l=true->i∈l
 |[],h=>by cases h
 |j::l,h=>by
  simp only[CM] at h;split at h
  .rename_i e;subst e;exact aVz
  .exact aVB _ (aD1 h)
theorem aD2 {H U:List (Nat×qB)}{rds:pQ}{i:Nat}(h:CM i rds=true): ∀{u:List (Nat×qB)},i∈qH u->(qE U i=qE H i)∈LG H U rds u
 |[],hi=>by cases hi
 |(j,b)::u,hi=>by
  simp only[LG];simp only[qH,aVH] at hi;rcases hi with rfl|hi
  .rw[aVs h];exact aVz
  .have:=aD2 (H:=H) (U:=U) h hi;split
   .exact aVB _ this
   .exact this
theorem aNE {H:List (Nat×qB)}{e:qT}(hs: ∀p∈LG H e.upd e.rds e.upd,p) {i:Nat}(h1:i∈qH e.upd) (h2:i∉qH (xO e)):qE e.upd i=qE H i/\i∈e.rds:=by
 have h:CM i e.rds=true:=by
  cases h3:CM i e.rds with
  |true=>rfl
  |false=>exact absurd (OB.2 ⟨h1,h3⟩) h2
 exact⟨hs _ (aD2 h h1),aD1 h⟩
def BC (os:List Oper) (es:List qT) (t j:Nat):Option qC:=
 match os[j]?,es[j]? with
 |some o,some e=>if o.dst=some t then some e.slot else none
 |_,_=>none
def yK (es:List qT) (id j:Nat):Option (Option qB):=
 match es[j]? with
 |some e=>if id∈qH (xO e) then some (qE e.upd id) else none
 |none=>none
theorem OC {id:Nat}{H:sE}: ∀{u:List (Nat×qB)},qE (qY u H) id=if id∈qH u then qE u id else qE H id
 |[]=>by simp [qY,qH]
 |(k,b)::u=>by
  simp only[qY,qE,qH,aVH];by_cases h:k=id
  .subst h;simp
  .rw[aVv h,aVv h,OC (u:=u)];have:(id=k\/id∈qH u)↔id∈qH u:=⟨fun h'=>h'.resolve_left (Ne.symm h),.inr⟩;simp only[this]
theorem aD3 {d:Option Tmp}{s:qC}{env:List (Nat×qC)}{t:Nat}:lk (uI d s env) t=if d=some t then s else lk env t:=by
 cases d with
 |none=>simp [uI]
 |some d=>simp only[uI,lk,aVr]
structure a1X (T:sV) (Γ:uH) (ops:List Oper) (os:List Oper) (es:List qT) (s:St) (y:w9) (k:Nat) (o:Oper) (e:qT) (sk:St):Prop where
 ev:zF T Γ ops o sk=some e
 nb:sk.nb=s.nb+32*k
 dst:J5 s.N o.dst=true
 ids:J6 (s.nb+32*k+32) e.upd=true
 np:sk.np=s.np
 side: ∀p∈e.side,p∈y.side
 env: ∀t,lk sk.env t=vO (fun _=>true) (BC os es t) (lk s.env t) k
 heap: ∀id,qE sk.H id=vO (fun _=>true) (yK es id) (qE s.H id) k
 same: ∀id,id∈qH e.upd->id∉qH (xO e)->qE e.upd id=qE sk.H id/\id∈e.rds
structure a1Y (T:sV) (Γ:uH) (ops:List Oper) (os:List Oper) (es:List qT) (s:St) (y:w9):Prop where
 len:es.length=os.length
 nb:y.s.nb=s.nb+32*os.length
 step: ∀k o e,os[k]? =some o->es[k]? =some e->∃sk,a1X T Γ ops os es s y k o e sk
 env: ∀t,lk y.s.env t=vO (fun _=>true) (BC os es t) (lk s.env t) os.length
 heap: ∀id,qE y.s.H id=vO (fun _=>true) (yK es id) (qE s.H id) os.length
theorem XH {T:sV}{Γ:uH}{ops:List Oper}: ∀{l:List Oper}{x y:w9},vC T Γ ops l (some x)=some y->(∀p∈y.side,p)->∃es:List qT,y.es=es.reverse++x.es/\a1Y T Γ ops l es x.s y
 |[],x,y,h,_=>by
  simp only[vC,aVr] at h;subst h;exact⟨[],rfl,rfl,rfl,fun k o e h=>by simp at h,fun _=>rfl,fun _=>rfl⟩
 |o::l,x,y,h,hsy=>by
  obtain⟨e,h1,h2,h3,h4⟩:=a1P h;obtain⟨es,h5,h6⟩:=XH h4 hsy;have hsame: ∀{i:Nat},i∈qH e.upd->i∉qH (xO e)->qE e.upd i=qE x.s.H i/\i∈e.rds:=fun h1 h2=>aNE (fun p hp=>hsy p ((FY h4).1 p (xS.2 (.inr (xS.2 (.inl hp)))))) h1 h2;have envs: ∀t k,vO (fun _=>true) (BC (o::l) (e::es) t) (lk x.s.env t) (k+1)=vO (fun _=>true) (BC l es t) (lk (uI o.dst e.slot x.s.env) t) k:=fun t k=>by
   rw[a1V,aVs rfl,aD3];have:(BC (o::l) (e::es) t 0).getD (lk x.s.env t)=if o.dst=some t then e.slot else lk x.s.env t:=by
    simp only[BC,aV1];split<;>rfl
   rw[this];rfl
  have heaps: ∀id k,vO (fun _=>true) (yK (e::es) id) (qE x.s.H id) (k+1)=vO (fun _=>true) (yK es id) (qE (qY e.upd x.s.H) id) k:=fun id k=>by
   rw[a1V,aVs rfl,OC];have:(yK (e::es) id 0).getD (qE x.s.H id)=if id∈qH e.upd then qE e.upd id else qE x.s.H id:=by
    simp only[yK,aV1];by_cases h7:id∈qH (xO e)
    .rw[aVs h7,aVs (OB.1 h7).1];rfl
    .rw[aVv h7];by_cases h8:id∈qH e.upd
     .rw[aVs h8,(hsame h8 h7).1];rfl
     .rw[aVv h8];rfl
   rw[this];rfl
  refine⟨e::es,by rw[h5];simp,by simp [h6.len],?_,?_,fun t=> ?_,fun id=> ?_⟩
  .have:=h6.nb;simp only at this;rw[this];simp only[aVw];omega
  .intro k o' e' ho he;cases k with
   |zero=>
    simp only[aV1,aVr] at ho he;subst ho;subst he;exact⟨x.s,h1,rfl,h2,h3,rfl,fun p hp=>(FY h4).1 p (xS.2 (.inr (xS.2 (.inr hp)))),fun _=>rfl,fun _=>rfl,fun id=>hsame⟩
   |succ k=>
    simp only[aWe] at ho he;obtain⟨sk,q⟩:=h6.step k o' e' ho he;refine⟨sk,q.ev,by rw[q.nb];simp only;omega,q.dst,?_,q.np,q.side,fun t=>by rw[q.env t,envs],fun id=>by rw[q.heap id,heaps],q.same⟩;have:=q.ids;simp only at this;rw[show x.s.nb+32*(k+1)+32=x.s.nb+32+32*k+32 by omega];exact this
  .rw[aVw,envs];exact h6.env t
  .rw[aVw,heaps];exact h6.heap id
theorem aD4 {i0 j0:Nat}{ops:Array Oper}{bs:pQ}{nb i:Nat}{o:Oper}{e:qT}: ∀{ps:List Oper}{fs:List qT}{j:Nat},WG i0 j0 ops bs nb i o e ps fs j=true->∀k p f,ps[k]? =some p->fs[k]? =some f->
  (bs.getD (j+k) 0).testBit i=true\/(o.apart ops p=true/\(HC e f=true\/(i=i0/\j+k=j0))/\LH (nb+32*i) f.upd=true)
 |p::ps,f::fs,j,h,k,p',f',hp,hf=>by
  simp only[WG,aVG,aWv,aVE] at h;cases k with
  |zero=>
   simp only[aV1,aVr] at hp hf;subst hp;subst hf;exact h.1.imp id (fun h=>⟨h.1.1,h.1.2,h.2⟩)
  |succ k=>
   simp only[aWe] at hp hf;have:=aD4 h.2 k p' f' hp hf;rw[show j+(k+1)=j+1+k by omega];exact this
 |[],_,_,_,_,_,_,hp,_=>by simp at hp
 |_::_,[],_,_,_,_,_,_,hf=>by simp at hf
theorem a1Z {i0 j0:Nat}{ops:Array Oper}{bs:pQ}{nb:Nat}: ∀{os:List Oper}{es:List qT}{m:Nat},WH i0 j0 ops bs nb os es m=true->∀i j o e p f,i<j->os[i]? =some o->es[i]? =some e->os[j]? =some p->es[j]? =some f->
  (bs.getD (m+j) 0).testBit (m+i)=true\/(o.apart ops p=true/\(HC e f=true\/(m+i=i0/\m+j=j0))/\LH (nb+32*(m+i)) f.upd=true)
 |o'::os,e'::es,m,h,i,j,o,e,p,f,hij,ho,he,hp,hf=>by
  simp only[WH,aVG] at h;obtain⟨j,rfl⟩: ∃k,j=k+1:=⟨j-1,pG⟩;simp only[aWe] at hp hf;cases i with
  |zero=>
   simp only[aV1,aVr] at ho he;subst ho;subst he;have:=aD4 h.1 j p f hp hf;rw[show m+(j+1)=m+1+j by omega];exact this
  |succ i=>
   simp only[aWe] at ho he;have:=a1Z h.2 i j o e p f pG ho he hp hf;rw[show m+(j+1)=m+1+j by omega,show m+(i+1)=m+1+i by omega];exact this
 |[],_,_,_,_,_,_,_,_,_,_,ho,_,_,_=>by simp at ho
 |_::_,[],_,_,_,_,_,_,_,_,_,_,he,_,_=>by simp at he
theorem aD5: ∀{os:List Oper}{m:Nat},WI os m=true->∀i o,os[i]? =some o->∀e∈o.after,Region.binds .any e=true->e.on<m+i
 |o'::os,m,h,i,o,ho,e,he,hb=>by
  simp only[WI,aVG] at h;cases i with
  |zero=>
   simp only[aV1,aVr] at ho;subst ho;have:=aWa.1 h.1 e (by simpa using he);simpa[hb] using this
  |succ i=>
   simp only[aWe] at ho;have:=aD5 h.2 i o ho e he hb;omega
 |[],_,_,_,_,ho,_,_,_=>by simp at ho
theorem XI {l:pQ}: ∀{u:List (Nat×qB)},QZ u l=false->∀i,i∈qH u->i∉l
 |(k,b)::u,h,i,hi=>by
  simp only[QZ,aWf] at h;simp only[qH,aVH] at hi;rcases hi with rfl|hi
  .simpa using h.1
  .exact XI h.2 i hi
theorem OD {a b:qT}(h:HC a b=true):(∀i∈qH (xO a),i∉b.rds/\i∉qH b.upd)/\(∀i∈qH (xO b),i∉a.rds):=by
 simp only[HC,aVG,aVV] at h;exact⟨fun i hi=>⟨fun h1=>XI h.1 i hi (xS.2 (.inl h1)),fun h1=>XI h.1 i hi (xS.2 (.inr h1))⟩,fun i hi=>XI h.2 i hi⟩
theorem aD6 {lo:Nat}: ∀{u:List (Nat×qB)},LH lo u=true->∀i∈qH u,i<lo\/lo+32<=i
 |(k,b)::u,h,i,hi=>by
  simp only[LH,aVG,aWv,aVE] at h;simp only[qH,aVH] at hi;rcases hi with rfl|hi
  .exact h.1
  .exact aD6 h.2 i hi
def a11 (os:List Oper) (p:Nat->Bool):Prop:= ∀j o,os[j]? =some o->p j=true->∀e∈o.after,Region.binds .any e=true->p e.on=true
theorem aD7 {p:Nat->Bool}{acc:Array Nat}(hacc: ∀i j,(acc.getD i 0).testBit j=true->p i=true->p j=true) {i:Nat}: ∀{es:List Edge}{s:Nat},(s.testBit i=true->p i=true)->(∀e∈es,Region.binds .any e=true->p e.on=true)->
  (es.foldl (fun s e=>if Region.binds .any e then s|||2^e.on|||acc.getD e.on 0 else s) s).testBit i=true->p i=true
 |[],s,hs,_,h=>hs h
 |e::es,s,hs,he,h=>by
  simp only[List.foldl_cons] at h;refine aD7 hacc (es:=es) (fun h1=> ?_) (fun e' h'=>he e' (aVB _ h')) h;split at h1
  .rename_i hb;simp only[Nat.testBit_or,aWv,Nat.testBit_two_pow,aVE] at h1;rcases h1 with(h1|h1) |h1
   .exact hs h1
   .rw[<-h1];exact he e pI hb
   .exact hacc _ _ h1 (he e pI hb)
  .exact hs h1
theorem aD8 {p:Nat->Bool}: ∀{os:List Oper}{acc:Array Nat},(∀i j,(acc.getD i 0).testBit j=true->p i=true->p j=true)->(∀j o,os[j]? =some o->p (acc.size+j)=true->∀e∈o.after,Region.binds .any e=true->p e.on=true)->
  ∀i j,((os.foldl (fun acc o=>acc.push (o.after.foldl (fun s e=>if Region.binds .any e then s|||2^e.on|||acc.getD e.on 0 else s) 0)) acc).getD i 0).testBit j=true->p i=true->p j=true
 |[],acc,hacc,_,i,j,h,hp=>hacc i j h hp
 |o::os,acc,hacc,hos,i,j,h,hp=>by
  simp only[List.foldl_cons] at h;refine aD8 (os:=os) (fun i j h hp=> ?_) (fun k o' ho hk=> ?_) i j h hp
  .rw[aVZ,Array.getElem?_push] at h;split at h
   .rename_i hi;simp only[aXA] at h;rw[<-aXu] at h;refine aD7 hacc (es:=o.after.toList) (s:=0) (fun h=>by simp at h) (fun e he hb=>hos 0 o rfl (by rw[hi] at hp;exact hp) e (by simpa using he) hb) h
   .rw[<-aVZ] at h;exact hacc i j h hp
  .refine hos (k+1) o' ho ?_;rw[Array.size_push] at hk;rw[show acc.size+(k+1)=acc.size+1+k by omega];exact hk
theorem aD9 {ops:Array Oper}{p:Nat->Bool}(hp:a11 ops.toList p) {i j:Nat}(h:((Region.before ops).toList.getD i 0).testBit j=true) (hi:p i=true):p j=true:=by
 refine aD8 (os:=ops.toList) (acc:= #[]) (p:=p) (fun i j h=>by simp at h) (fun j o ho hj=>hp j o ho (by simpa using hj)) i j ?_ hi;unfold Region.before at h;rw[<-aXu] at h;rw[aVZ,<-aWB,<-aVY];exact h
def DI (l:Array Bool):Nat->Nat
 |0=>0
 |k+1=>DI l k+if l.getD k false=true then 0 else 1
theorem aEa {l l':Array Bool}: ∀{n:Nat},(∀j,j<n->l'.getD j false=l.getD j false)->DI l' n=DI l n
 |0,_=>rfl
 |n+1,h=>by simp only[DI];rw[aEa (fun j hj=>h j pG),h n pG]
theorem aEb {l:Array Bool}: ∀{n:Nat},DI l n=0->∀j,j<n->l.getD j false=true
 |n+1,h,j,hj=>by
  simp only[DI] at h;by_cases hn:l.getD n false=true
  .by_cases hjn:j=n
   .subst hjn;exact hn
   .exact aEb (n:=n) pG j pG
  .rw[aVv hn] at h;omega
theorem HJ {l:Array Bool}{i j:Nat}(hi:i<l.size):(l.setIfInBounds i true).getD j false=if j=i then true else l.getD j false:=by
 by_cases h:j=i
 .subst h;rw[aVs rfl,aVZ,Array.getElem?_setIfInBounds_self_of_lt hi];rfl
 .rw[aVv h,aVZ,aWV (Ne.symm h),<-aVZ]
theorem aEc {l:Array Bool}{i:Nat}(hi:i<l.size) (hf:l.getD i false=false): ∀{n:Nat},i<n->DI (l.setIfInBounds i true) n+1=DI l n
 |n+1,h=>by
  simp only[DI];by_cases hn:n=i
  .subst hn;rw[HJ hi,aVs rfl,aVs rfl,hf,aEa (l:=l) (fun j hj=>by rw[HJ hi,aVv pG])];simp
  .rw[HJ hi,aVv hn];have:=aEc hi hf (n:=n) pG;omega
theorem aEd {p:Nat->Bool}: ∀{n:Nat},(∃j,j<n/\p j=false)->∃j,j<n/\p j=false/\∀k,k<j->p k=true
 |0,⟨j,h,_⟩=>by omega
 |n+1,⟨j,h,hj⟩=>by
  by_cases hs: ∃j,j<n/\p j=false
  .obtain⟨k,h1,h2,h3⟩:=aEd hs;exact⟨k,pG,h2,h3⟩
  .refine⟨j,h,hj,fun k hk=> ?_⟩;cases hp:p k with
   |true=>rfl
   |false=>exact absurd ⟨k,pG,hp⟩ hs
theorem sL.ext {g:Gh}{w:pR}{H H':sE}(h:sL g w H) (e: ∀i,qE H' i=qE H i):sL g w H':=
 ⟨fun i b hb=>h.blk i b (by rw[<-e];exact hb),fun i j bi bj b o hij h1 h2=>h.dis i j bi bj b o hij (by rw[<-e];exact h1) (by rw[<-e];exact h2),h.sl,h.tab.1,fun i b bb oo hb ho=>h.tab.2 i b bb oo (by rw[<-e];exact hb) ho⟩
theorem uB.ext {A:Nat->Nat->Prop}{L:List qB}{g0 g:Gh}{w0 w:pR}{H H':sE}(h:uB A L g0 w0 g w H) (e: ∀i,qE H' i=qE H i):uB A L g0 w0 g w H':=
 ⟨h.shut,h.fr,fun i blk b o hb=>h.perm i blk b o (by rw[<-e];exact hb),h.J,h.live,fun i u y us hi hb=>h.ty i u y us hi (by rw[<-e];exact hb),h.cur⟩
theorem aEe (g:Gh) (w:pR) (d:Nat):Le g w g {w with drawn:=d}:=⟨fun _ _ h=>h,fun _ _ _=>rfl,fun _ _ h=>h,fun _ _ _ h=>h⟩
theorem sL.drawn {g:Gh}{w:pR}{H:sE}(h:sL g w H) (d:Nat):sL g {w with drawn:=d} H:=
 ⟨fun i b hb=>NY (h.blk i b hb) (aEe g w d) rfl rfl (fun _ _ _=>⟨rfl,rfl⟩) (fun _ _=>rfl) (fun _ _ _ h=>h) (fun _ _ _ _ h=>h),h.dis,h.sl,KY h.tab.1 (aVR _) (fun _ _=>rfl),h.tab.2⟩
theorem uB.drawn {A:Nat->Nat->Prop}{L:List qB}{g0 g:Gh}{w0 w:pR}{H:sE}(h:uB A L g0 w0 g w H) (d:Nat):uB A L g0 w0 g {w with drawn:=d} H:=
 ⟨h.shut,⟨h.fr.os,h.fr.tape,h.fr.output,h.fr.size,h.fr.blk,h.fr.cell,h.fr.new,h.fr.shape⟩,h.perm,h.J,h.live,h.ty,h.cur⟩
theorem a13 {rds:pQ}{id:Nat}(h:CM id rds=false): ∀{u:List (Nat×qB)},qE (J7 rds u) id=qE u id
 |[]=>rfl
 |(k,b)::u=>by
  simp only[J7,qE];by_cases hk:k=id
  .subst hk;rw[aVv (by rw[h];simp)];simp [qE]
  .split
   .exact a13 h
   .simp only[qE,aVv hk];exact a13 h
theorem aNF {e:qT}{id:Nat}(h:CM id e.rds=false):qE (xO e) id=qE e.upd id:=a13 h
theorem aEf {T:sV}{Γ:uH}{ops:List Oper}: ∀{k:Nat}{l:List Oper}{x y:w9},vC T Γ ops l (some x)=some y->∃a,vC T Γ ops (l.take k) (some x)=some a/\vC T Γ ops (l.drop k) (some a)=some y
 |0,l,x,y,h=>⟨x,rfl,h⟩
 |k+1,[],x,y,h=>⟨x,rfl,h⟩
 |k+1,o::l,x,y,h=>by
  simp only[List.take_succ_cons,aXq,vC] at h|-;cases hz:WF o x (zF T Γ ops o x.s) with
  |none=>
   rw[hz] at h;cases l with
   |nil=>cases h
   |cons p l=>cases h
  |some z=>rw[hz] at h;exact aEf h
theorem a14 {α:Type}{p:Nat->Bool}{wr wr':Nat->Option α}{b:α}: ∀{n:Nat},(∀j,j<n->wr j=wr' j)->vO p wr b n=vO p wr' b n
 |0,_=>rfl
 |n+1,h=>by
  simp only[vO];rw[h n pG,a14 (wr:=wr) (wr':=wr') (fun j hj=>h j pG)]
theorem aNG {T:sV}{Γ:uH}{ops:Array Oper}{es:List qT}{s:St}{y a1:w9}{i0:Nat}{o1:Oper}{ex fx:qT}(run:a1Y T Γ ops.toList ops.toList es s y) (hs: ∀p∈y.side,p) (ho1:ops.toList[i0]? =some o1) (ha1:vC T Γ ops.toList (ops.toList.take i0) (some ⟨s,[],[]⟩)=some a1)
  (hes:y.es.reverse=es) (h:vC T Γ ops.toList ops.toList (some ⟨s,[],[]⟩)=some y) (hx1:zF T Γ ops.toList o1 ⟨a1.s.env,qY (xO fx) a1.s.H,a1.s.nb,a1.s.N,a1.s.np⟩=some ex):
  ∀sk oi,ops.toList[i0]? =some oi->a1X T Γ ops.toList ops.toList es s y i0 oi ex sk->zF T Γ ops.toList oi ⟨sk.env,qY (xO fx) sk.H,sk.nb,sk.N,sk.np⟩=some ex:=by
 intro sk oi hoi st;rw[ho1] at hoi;cases hoi;obtain⟨a2,h1,h2⟩:=aEf (k:=i0) h;rw[ha1] at h1;cases h1;have hi0:i0<ops.toList.length:=(aVK.1 ho1).1;have hlt:(ops.toList.take i0).length=i0:=by rw[aVQ];omega
 obtain⟨es2,e2,r2⟩:=XH h2 hs;obtain⟨es1,e1,r1⟩:=XH ha1 (fun p hp=>hs p ((FY h2).1 p hp));have he:es=es1++es2:=by rw[<-hes,e2,e1];simp
 have hl1:es1.length=i0:=by rw[r1.len,hlt]
 have hsd:=FY ha1;refine a1T hx1 (fun t _=> ?_) (fun id _=> ?_) ?_ ?_
 .show lk sk.env t=lk a1.s.env t;rw[st.env t,r1.env t,hlt];refine a14 (fun j hj=> ?_);unfold BC;rw[he,aVN pG,aWI hj]
 .show qE (qY (xO fx) sk.H) id=qE (qY (xO fx) a1.s.H) id;rw[OC,OC,st.heap id,r1.heap id,hlt];have:vO (fun _=>true) (yK es id) (qE s.H id) i0=vO (fun _=>true) (yK es1 id) (qE s.H id) i0:=a14 (fun j hj=>by
   unfold yK;rw[he,aVN pG])
  rw[this]
 .show sk.nb=a1.s.nb;rw[st.nb,r1.nb,hlt]
 .show sk.np=a1.s.np;rw[st.np,hsd.2.2]
section
variable {B:Nat}{P:Program}{T:sV}{Γ:uH}(hT:y3 P T) (hΓ:EM P Γ) {A:Nat->Nat->Prop}{L:List qB}{g0:Gh}{w0:pR}{Q:Exit->Act->pR->Prop}
structure Mid (B:Nat) (A:Nat->Nat->Prop) (L:List qB) (g0:Gh) (w0:pR) (ops:Array Oper) (es:List qT) (s:St) (listed:Array Bool) (g:Gh) (w:pR) (a:Act) (env:List (Nat×qC)) (H:sE):Prop where
 size:listed.size=ops.size
 closed:a11 ops.toList (fun j=>listed.getD j false)
 eok:BA g w env a.tmps
 look: ∀t,lk env t=vO (fun j=>listed.getD j false) (BC ops.toList es t) (lk s.env t) ops.size
 heap:sL g w H
 get: ∀id,qE H id=vO (fun j=>listed.getD j false) (yK es id) (qE s.H id) ops.size
 tmps:a.tmps.size=s.N
 def_:A7 B w a.defers
 good:uB A L g0 w0 g w H
 len:L.length=s.np
 free: ∀j,j<ops.size->listed.getD j false=false->∀id,s.nb+32*j<=id->id<s.nb+32*j+32->g.J id=none/\∀n,g.cur id n=none
 top: ∀id,s.nb+32*ops.size<=id->g.J id=none/\∀n,g.cur id n=none
include hT hΓ
theorem aNH {i0 j0:Nat}{ro:pP}{ops:Array Oper}{es:List qT}{s:St}{y:w9}(run:a1Y T Γ ops.toList ops.toList es s y) (hs: ∀p∈y.side,p) (hchk:NU i0 j0 ops s.nb es=true) (hE:i0<ops.size->i0<j0/\∃ex fx,es[i0]? =some ex/\ex.upd=[]/\es[j0]? =some fx/\∀sk oi,ops.toList[i0]? =some oi->a1X T Γ ops.toList ops.toList es s y i0 oi ex sk->zF T Γ ops.toList oi ⟨sk.env,qY (xO fx) sk.H,sk.nb,sk.N,sk.np⟩=some ex)
  (hQ: ∀g a w env H,BA g w env a.tmps->(∀t,lk env t=lk y.s.env t)->sL g w H->(∀id,qE H id=qE y.s.H id)->a.tmps.size=s.N->A7 B w a.defers->uB A L g0 w0 g w H->(∀id,s.nb+32*ops.size<=id->g.J id=none/\∀n,g.cur id n=none)->Q .normal a w):
  ∀(fuel:Nat) (listed:Array Bool) (g:Gh) (w:pR) (a:Act) (env:List (Nat×qC)) (H:sE),DI listed ops.size<=fuel->Mid B A L g0 w0 ops es s listed g w a env H->wpAnyIn (FZ ro) 0 P .any ops Q fuel listed a w:=by
 simp only[NU,aVG] at hchk;obtain⟨haf,hfr⟩:=hchk;have hsz:ops.toList.length=ops.size:=aV6;have done: ∀(listed:Array Bool) (g:Gh) (w:pR) (a:Act) (env:List (Nat×qC)) (H:sE),Mid B A L g0 w0 ops es s listed g w a env H->(∀j,j<ops.size->listed.getD j false=true)->Q .normal a w:=by
  intro listed g w a env H m hall;refine hQ g a w env H m.eok (fun t=> ?_) m.heap (fun id=> ?_) m.tmps m.def_ m.good m.top
  .rw[m.look t,run.env t,hsz];exact LQ (fun j hj _=>hall j hj)
  .rw[m.get id,run.heap id,hsz];exact LQ (fun j hj _=>hall j hj)
 have stuck: ∀(listed:Array Bool),listed.size=ops.size->Region.ready .any ops listed=[]->∀j,j<ops.size->listed.getD j false=true:=by
  intro listed hls hr j hj;cases hp:listed.getD j false with
  |true=>rfl
  |false=>
   obtain⟨k,h1,h2,h3⟩:=aEd (p:=fun j=>listed.getD j false) ⟨j,hj,hp⟩;have:k∈Region.ready .any ops listed:=by
    rw[mem_ready];refine⟨?_,ops[k],by simp [h1],fun e he hb=> ?_⟩
    .have h2:listed.getD k false=false:=h2;rw[aVZ] at h2|-;rw[aXn pG] at h2|-;exact h2
    .have:=aD5 haf k ops[k] (by simp [h1]) e he hb;exact h3 e.on pG
   rw[hr] at this;cases this
 intro fuel
 induction fuel with
 |zero=>
  intro listed g w a env H hu m;have hall:=aEb (l:=listed) (n:=ops.size) pG;refine⟨?_,done listed g w a env H m hall⟩;cases hr:Region.ready .any ops listed with
  |nil=>rfl
  |cons i r=>
   have:i∈Region.ready .any ops listed:=by rw[hr];simp
   obtain⟨h0,o,ho,_⟩:=mem_ready.1 this;have hi:i<ops.size:=(aVW.1 ho).1;have:=hall i hi;rw[aVZ] at this h0;rw[aXn (by rw[m.size];exact hi)] at this h0;simp at this h0;rw[this] at h0;cases h0
 |succ fuel ih=>
  intro listed g w a env H hu m;refine⟨fun hr=>done listed g w a env H m (stuck listed m.size hr),fun i hi=> ?_⟩;obtain⟨h0,o,ho,hall⟩:=mem_ready.1 hi;have hin:i<ops.size:=(aVW.1 ho).1;have hil:i<listed.size:=by rw[m.size];exact hin
  have hpi:listed.getD i false=false:=by
   rw[aVZ] at h0|-;rw[aXn hil] at h0|-;exact h0
  have hoL:ops.toList[i]? =some o:=by simpa using ho
  obtain⟨e,he⟩: ∃e,es[i]? =some e:=⟨es[i]'(by rw[run.len,hsz];exact hin),by simp⟩;obtain⟨sk,st⟩:=run.step i o e hoL he;have hcl':a11 ops.toList (fun j=>(listed.setIfInBounds i true).getD j false):=by
   intro j o' ho' hj ed hed hb;simp only[HJ hil] at hj|-;by_cases hji:j=i
   .subst hji;rw[hoL] at ho';obtain rfl:=aVx ho';have:=hall ed hed hb;split
    .rfl
    .exact this
   .rw[aVv hji] at hj;have:=m.closed j o' ho' hj ed hed hb;split
    .rfl
    .exact this
  have hbef: ∀j,((Region.before ops).toList.getD i 0).testBit j=true->j≠i->listed.getD j false=true:=by
   intro j hj hne;have:=aD9 hcl' hj (by simp only[HJ hil];simp);simp only[HJ hil,aVv hne] at this;exact this
  have haft: ∀j,((Region.before ops).toList.getD j 0).testBit i=true->listed.getD j false=true->False:=by
   intro j hj hl;have:=aD9 m.closed hj hl;rw[hpi] at this;cases this
  have pairLt: ∀j p f,j<i->ops.toList[j]? =some p->es[j]? =some f->listed.getD j false=true\/(p.apart ops o=true/\(HC f e=true\/(j=i0/\i=j0))/\LH (s.nb+32*j) e.upd=true):=by
   intro j p f hji hp hf;rcases a1Z hfr j i p f o e hji hp hf hoL he with h1|h1
   .rw[aV5,aV5] at h1;exact .inl (hbef j h1 pG)
   .rw[aV5,aV5] at h1;exact .inr h1
  have pairGt: ∀j p f,i<j->ops.toList[j]? =some p->es[j]? =some f->listed.getD j false=true->o.apart ops p=true/\(HC e f=true\/(i=i0/\j=j0)):=by
   intro j p f hij hp hf hl;rcases a1Z hfr i j o e p f hij hoL he hp hf with h1|h1
   .rw[aV5,aV5] at h1;exact(haft j h1 hl).elim
   .rw[aV5,aV5] at h1;exact⟨h1.1,h1.2.1⟩
  have same: ∀{α:Type}(wr:Nat->Option α) (b:α),(∀j p f,j<i->ops.toList[j]? =some p->es[j]? =some f->wr j≠none->p.apart ops o=true->(HC f e=true\/(j=i0/\i=j0))->False)->
    (∀j p f,i<j->ops.toList[j]? =some p->es[j]? =some f->wr j≠none->listed.getD j false=true->o.apart ops p=true->(HC e f=true\/(i=i0/\j=j0))->False)->(∀j,wr j≠none->∃f,es[j]? =some f)->
    vO (fun j=>listed.getD j false) wr b ops.size=vO (fun _=>true) wr b i:=by
   intro α wr b hlt hgt hex;rw[<-a1U (n:=ops.size) pG];refine LQ (fun j hj hw=> ?_);obtain⟨f,hf⟩:=hex j hw;have hpj:ops.toList[j]? =some ops[j]:=by simp [hj]
   rcases Nat.lt_trichotomy j i with h1|h1|h1
   .rw[aVS h1];rcases pairLt j _ f h1 hpj hf with h2|h2
    .exact h2
    .exact(hlt j _ f h1 hpj hf hw h2.1 h2.2.1).elim
   .subst h1;simp [hpi]
   .have: ¬j<i:=by omega
    rw[decide_eq_false this];cases hl:listed.getD j false with
    |false=>rfl
    |true=>
     obtain⟨h2,h3⟩:=pairGt j _ f h1 hpj hf hl;exact(hgt j _ f h1 hpj hf hw hl h2 h3).elim
  have exS: ∀t j,BC ops.toList es t j≠none->∃f,es[j]? =some f:=by
   intro t j h;unfold BC at h;cases hf:es[j]? with
   |none=>rw[hf] at h;exact absurd (by split<;>first|rfl|(rename_i h1;cases h1)) h
   |some f=>exact⟨f,rfl⟩
  have exH: ∀t j,yK es t j≠none->∃f,es[j]? =some f:=by
   intro t j h;unfold yK at h;cases hf:es[j]? with
   |none=>rw[hf] at h;exact absurd rfl h
   |some f=>exact⟨f,rfl⟩
  have dS: ∀t j p f,ops.toList[j]? =some p->es[j]? =some f->BC ops.toList es t j≠none->p.dst=some t:=by
   intro t j p f hp hf h;unfold BC at h;rw[hp,hf] at h;simp only at h;split at h
   .assumption
   .exact absurd rfl h
  have dH: ∀id j f,es[j]? =some f->yK es id j≠none->id∈qH (xO f):=by
   intro id j f hf h;unfold yK at h;rw[hf] at h;simp only at h;split at h
   .assumption
   .exact absurd rfl h
  have noW: ∀id j f,es[j]? =some f->yK es id j≠none->j=i0->False:=fun id j f hf hw hj=>by
   subst hj;obtain⟨_,ex,fx,hex,hup,_⟩:=hE (by have:=(aVK.1 hf).1;rw[run.len,hsz] at this;exact this);have:=(OB.1 (dH id j _ hex hw)).1;rw[hup] at this;cases this
  have hrds: ∀id∈e.rds,¬(i=i0/\listed.getD j0 false=true)->qE H id=qE sk.H id:=fun id hid hX=>by
   rw[m.get id,st.heap id];refine same _ _ (fun j p f _ hp hf hw _ ha=> ?_) (fun j p f _ hp hf hw hl _ ha=> ?_) (exH id)
   .rcases ha with ha|ha
    .exact((OD ha).1 id (dH id j f hf hw)).1 hid
    .exact noW id j f hf hw ha.1
   .rcases ha with ha|ha
    .exact(OD ha).2 id (dH id j f hf hw) hid
    .exact hX ⟨ha.1,ha.2▸hl⟩
  have htmp: ∀t∈o.looksAt ops,lk env t=lk sk.env t:=fun t ht=>by
   rw[m.look t,st.env t];refine same _ _ (fun j p f _ hp hf hw ha _=> ?_) (fun j p f _ hp hf hw _ ha _=> ?_) (exS t)
   .exact(Oper.apart_spec ha).1 t (dS t j p f hp hf hw) ht
   .exact(Oper.apart_spec ha).2.2 t (dS t j p f hp hf hw) ht
  have hNs: ∀(s':St) (N':Nat),zF T Γ ops.toList o ⟨s'.env,s'.H,s'.nb,N',s'.np⟩=zF T Γ ops.toList o s':=fun _ _=>rfl;have hev:zF T Γ ops.toList o ⟨env,H,s.nb+32*i,s.N,s.np⟩=some e:=by
   by_cases hX:i=i0/\listed.getD j0 false=true
   .obtain⟨h1,hl0⟩:=hX;subst h1;obtain⟨hij0,ex,fx,hex,hup,hfx,hxe⟩:=hE hin;rw[he] at hex;cases hex;refine a1T (hxe sk o hoL st) (fun t ht=>htmp t ht) (fun id hid=> ?_) st.nb.symm st.np.symm;show qE H id=qE (qY (xO fx) sk.H) id;have hj0:j0<ops.size:=by
     have:=(aVK.1 hfx).1;rw[run.len,hsz] at this;exact this
    rw[m.get id,XG (p:=fun j=>listed.getD j false&& !decide (j=j0)) (i:=j0) pI (fun j=>by
     by_cases h:j=j0
     .subst h;rw[aVs rfl];exact hl0
     .rw[aVv h];simp [h]) hj0 (fun j h1 h2 h3=> ?_)]
    .have hrest:vO (fun j=>listed.getD j false&& !decide (j=j0)) (yK es id) (qE s.H id) ops.size=qE sk.H id:=by
      rw[st.heap id,<-a1U (n:=ops.size) pG];refine LQ (fun j hj hw=> ?_);obtain⟨f,hf⟩:=exH id j hw;have hpj:ops.toList[j]? =some ops[j]:=by simp [hj]
      rcases Nat.lt_trichotomy j i with h1|h1|h1
      .rw[aVS h1];rcases pairLt j _ f h1 hpj hf with h2|h2
       .rw[h2,decide_eq_false pG];rfl
       .rcases h2.2.1 with h2|h2
        .exact(((OD h2).1 id (dH id j f hf hw)).1 hid).elim
        .omega
      .exact(noW id j f hf hw h1).elim
      .have h9: ¬j<i:=by omega
       rw[decide_eq_false h9];cases hl:listed.getD j false with
       |false=>rfl
       |true=>
        obtain⟨_,h3⟩:=pairGt j _ f h1 hpj hf hl;rcases h3 with h3|h3
        .exact((OD h3).2 id (dH id j f hf hw) hid).elim
        .rw[aVS h3.2];rfl
     rw[hrest,OC];unfold yK;rw[hfx];simp only;by_cases h7:id∈qH (xO fx)
     .rw[aVs h7,aVs h7,aNF (OB.1 h7).2];rfl
     .rw[aVv h7,aVv h7];rfl
    .left;have hl:listed.getD j false=true:=by
      cases h:listed.getD j false with
      |true=>rfl
      |false=>rw[h] at h3;cases h3
     cases hw:yK es id j with
     |none=>rfl
     |some v=>
      obtain⟨f,hf⟩:=exH id j (by rw[hw];simp);have hpj:ops.toList[j]? =some ops[j]:=by simp [h2]
      obtain⟨_,h4⟩:=pairGt j _ f pG hpj hf hl;rcases h4 with h4|h4
      .exact((OD h4).2 id (dH id j f hf (by rw[hw];simp)) hid).elim
      .omega
   .exact a1T st.ev (fun t ht=>htmp t ht) (fun id hid=>hrds id hid hX) st.nb.symm st.np.symm
  have hXu: ∀id,id∈qH e.upd->¬(i=i0/\listed.getD j0 false=true):=fun id hid hX=>by
   obtain⟨h1,_⟩:=hX;subst h1;obtain⟨_,ex,fx,hex,hup,_⟩:=hE hin;rw[he] at hex;cases hex;rw[hup] at hid;cases hid
  have hfresh:zO g (s.nb+32*i) e:=fun id hid hle=>m.free i hin hpi id hle (RR st.ids hid);have key:=aDF hT hΓ (ops:=ops.toList) (o:=o) (a:=a) (s:=⟨env,H,s.nb+32*i,s.N,s.np⟩) (K:=wpAnyIn (FZ ro) 0 P .any ops Q fuel (listed.setIfInBounds i true)) (Q:=Q) m.eok m.heap hev (fun p hp=>hs p (st.side p hp)) hfresh (fun g' w' v k=>by
   refine ih (listed.setIfInBounds i true) g' w' (a.put o.dst v) (uI o.dst e.slot env) (qY e.upd H) ?_ ⟨by rw[Array.size_setIfInBounds];exact m.size,hcl',a1O m.eok k.le k.slot m.tmps st.dst,fun t=> ?_,k.heap,fun id=> ?_,(aDJ _ _ _).trans m.tmps,by rw[aDK];exact m.def_.eff m.heap k,m.good.eff k (m.len▸(RP hev).2),m.len,fun j hj hjp id h1 h2=> ?_,fun id hid=> ?_⟩
   .have:=aEc hil hpi hin;omega
   .rw[aD3,XG (p:=fun j=>listed.getD j false) (i:=i) hpi (fun j=>by simp only[HJ hil]) hin (fun j hij hj hl=> ?_),<-m.look t]
    .unfold BC;rw[hoL,he];simp only;split<;>rfl
    .have hpj:ops.toList[j]? =some ops[j]:=by simp [hj]
     obtain⟨f,hf⟩: ∃f,es[j]? =some f:=⟨es[j]'(by rw[run.len,hsz];exact hj),by simp⟩;obtain⟨h3,_⟩:=pairGt j _ f hij hpj hf hl;by_cases hw:BC ops.toList es t j=none
     .exact .inl hw
     .right;have hd:=dS t j _ f hpj hf hw;by_cases hwi:BC ops.toList es t i=none
      .exact hwi
      .have hdi:=dS t i _ e hoL he hwi;exact absurd hd ((Oper.apart_spec h3).2.1 t hdi)
   .rw[OC,XG (p:=fun j=>listed.getD j false) (i:=i) hpi (fun j=>by simp only[HJ hil]) hin (fun j hij hj hl=> ?_),<-m.get id]
    .unfold yK;rw[he];simp only;by_cases h7:id∈qH (xO e)
     .rw[aVs h7,aVs (OB.1 h7).1];rfl
     .rw[aVv h7];by_cases h8:id∈qH e.upd
      .obtain⟨q1,q2⟩:=st.same id h8 h7;rw[aVs h8,q1,<-hrds id q2 (hXu id h8)];rfl
      .rw[aVv h8];rfl
    .have hpj:ops.toList[j]? =some ops[j]:=by simp [hj]
     obtain⟨f,hf⟩: ∃f,es[j]? =some f:=⟨es[j]'(by rw[run.len,hsz];exact hj),by simp⟩;obtain⟨_,h3⟩:=pairGt j _ f hij hpj hf hl;by_cases hw:yK es id j=none
     .exact .inl hw
     .right;have hd:=dH id j f hf hw;by_cases hwi:yK es id i=none
      .exact hwi
      .have hdi:=dH id i e he hwi;rcases h3 with h3|h3
       .exact absurd (OB.1 hd).1 ((OD h3).1 id hdi).2
       .exact(noW id i e he hwi h3.1).elim
   .rw[HJ hil] at hjp;have hji:j≠i:=fun h=>by rw[aVs h] at hjp;cases hjp
    rw[aVv hji] at hjp;have hnot:id∉qH e.upd:=by
     intro hm;have hlt:=RR st.ids hm;rcases Nat.lt_or_gt_of_ne hji with h3|h3
     .obtain⟨f,hf⟩: ∃f,es[j]? =some f:=⟨es[j]'(by rw[run.len,hsz];exact hj),by simp⟩;rcases pairLt j ops[j] f h3 (by simp [hj]) hf with h4|h4
      .rw[hjp] at h4;cases h4
      .have:=aD6 h4.2.2 id hm;omega
     .omega
    have hg:=k.gho id hnot;have hb:=m.free j hj hjp id h1 h2;exact⟨hg.1.trans hb.1,fun n=>by rw[hg.2];exact hb.2 n⟩
   .have hnot:id∉qH e.upd:=fun hm=>by have:=RR st.ids hm;omega
    have hg:=k.gho id hnot;have hb:=m.top id hid;exact⟨hg.1.trans hb.1,fun n=>by rw[hg.2];exact hb.2 n⟩)
  unfold wpOpIn;rw[ho];simp only[aWZ] at key|-;split at key
  .rename_i hw;rw[aVs hw];exact aDO (aDN hev) key
  .rename_i hw;rw[aVv hw];exact⟨fun _ _=>trivial,key⟩
theorem aEh {i0 j0:Nat}{ro:pP}(hm:P.follows .mixedOrders=true) {id:Nat}{ops:Array Oper}{s:St}{y:w9}{a:Act}{w:pR}{g:Gh}(h:vC T Γ ops.toList ops.toList (some ⟨s,[],[]⟩)=some y) (hchk:NU i0 j0 ops s.nb y.es.reverse=true) (hE:i0<ops.size->i0<j0/\∃ex fx a1 o1,y.es.reverse[i0]? =some ex/\ex.upd=[]/\y.es.reverse[j0]? =some fx/\ops.toList[i0]? =some o1/\vC T Γ ops.toList (ops.toList.take i0) (some ⟨s,[],[]⟩)=some a1/\zF T Γ ops.toList o1 ⟨a1.s.env,qY (xO fx) a1.s.H,a1.s.nb,a1.s.N,a1.s.np⟩=some ex) (hs: ∀p∈y.side,p) (hr:w6 B g w s a) (hg:uB A L g0 w0 g w s.H) (hn:L.length=s.np)
  (hQ: ∀g' a' w',w6 B g' w' y.s a'->uB A L g0 w0 g' w' y.s.H->Q .normal a' w'):(Code.region id ops true).wpIn (FZ ro) 0 P Q a w:=by
 obtain⟨es,h1,run⟩:=XH h hs;have hes:y.es.reverse=es:=by rw[h1];simp
 simp only at run;rw[hes] at hchk hE;have hsd:=FY h;have hrep: ∀j,(Array.replicate ops.size false).getD j false=false:=by
  intro j;rw[aVZ,Array.getElem?_replicate];split<;>rfl
 have none: ∀{α:Type}(wr:Nat->Option α) (b:α) n,vO (fun j=>(Array.replicate ops.size false).getD j false) wr b n=b:=by
  intro α wr b n
  induction n with
  |zero=>rfl
  |succ n ih=>simp only[vO];rw[aVv (by rw[hrep];simp)];exact ih
 have hsz:ops.toList.length=ops.size:=aV6;refine wpIn_region_any hm (aNH hT hΓ run hs hchk (fun hi=>let ⟨c0,ex,fx,a1,o1,c1,c2,c3,c4,c5,c6⟩:=hE hi;⟨c0,ex,fx,c1,c2,c3,aNG run hs c4 c5 hes h c6⟩) (fun g' a' w' env H he hl hh hgt hz hd hgd htop=> ?_) _ _ g _ a s.env s.H ?_ ⟨by simp,fun j o ho hj=> ?_,fun t=>DE (aEe g w _) (hr.env t),fun t=> ?_,hr.heap.drawn _,fun id=> ?_,hr.size,hr.def_.same (fun _ h=>h),hg.drawn _,hn,fun j _ _ id h1 _=>hr.nb id pG,fun id h1=>hr.nb id pG⟩)
 .refine hQ g' a' w' ⟨fun t=>by rw[<-hl t];exact he t,hh.ext (fun i=>(hgt i).symm),by rw[hsd.2.1];exact hz,fun i hi=>htop i ?_,hd,?_⟩ (hgd.ext (fun i=>(hgt i).symm))
  .rw[run.nb,hsz] at hi;exact hi
  .rw[hsd.2.2,run.nb];exact aWx hr.np (Nat.le_add_right _ _)
 .have: ∀n (l:Array Bool),DI l n<=n:=by
   intro n l
   induction n with
   |zero=>exact aVR _
   |succ n ih=>simp only[DI];split<;>omega
  exact this _ _
 .simp only[hrep] at hj;cases hj
 .rw[none]
 .exact(none _ _ _).symm
end
theorem XJ: ∀{l:List Prop},r8 l->∀p∈l,p
 |[p],h,q,hq=>by simp only[aVJ] at hq;subst hq;exact h
 |p::q::r,h,x,hx=>by
  rcases aVH.1 hx with rfl|hx
  .exact h.1
  .exact XJ h.2 x hx
theorem aEi {p:Nat->Prop}(h: ∃n,p n): ∃n,p n/\∀m,p m->n<=m:=by
 obtain⟨n,hn⟩:=h
 induction n using Nat.strongRecOn with
 |_ n ih=>
  by_cases hs: ∃m,m<n/\p m
  .obtain⟨m,hm,hp⟩:=hs;exact ih m hm hp
  .exact⟨n,hn,fun m hm=>Nat.le_of_not_lt fun hlt=>hs ⟨m,hlt,hm⟩⟩
noncomputable def RS (p:Nat->Prop):Nat:=open Classical in if h: ∃n,p n then(aEi h).choose else 0
theorem XK {p:Nat->Prop}(h: ∃n,p n):p (RS p)/\∀m,p m->RS p<=m:=by
 unfold RS;rw[aXz h];exact(aEi h).choose_spec
def G0:Exit->Option Ex
 | .normal=>some .normal
 | .exit id=>some (.exit id)
 | .ret=>some .ret
 |_=>none
def LR (B:Nat) (A:Nat->Nat->Prop) (L:List qB) (g0:Gh) (w0:pR) (Q:Ex->St->Prop) (x:Exit) (a:Act) (w:pR):Prop:=
 ∃e g s,G0 x=some e/\Q e s/\w6 B g w s a/\uB A L g0 w0 g w s.H/\s.np=L.length
section
variable {B:Nat}{P:Program}{T:sV}{Γ:uH}(hT:y3 P T) (hΓ:EM P Γ) (hm:P.follows .mixedOrders=true) {A:Nat->Nat->Prop}{L:List qB}{g0:Gh}{w0:pR}
include hT hΓ hm
theorem HK {ro:pP}: ∀(c:Code) (s:St) (Q:Ex->St->Prop) (g:Gh) (a:Act) (w:pR),x9 T Γ c s Q->w6 B g w s a->uB A L g0 w0 g w s.H->s.np=L.length->c.wpIn (FZ ro) 0 P (LR B A L g0 w0 Q) a w
 | .skip,s,Q,g,a,w,h,hr,hg,hn=>by
  unfold x9 at h;exact wpIn_skip ⟨.normal,g,s,rfl,h,hr,hg,hn⟩
 | .label l,s,Q,g,a,w,h,hr,hg,hn=>by
  unfold x9 at h;exact wpIn_label ⟨.normal,g,s,rfl,h,hr,hg,hn⟩
 | .exit id,s,Q,g,a,w,h,hr,hg,hn=>by
  unfold x9 at h;exact wpIn_exit ⟨.exit id,g,s,rfl,h,hr,hg,hn⟩
 | .ret,s,Q,g,a,w,h,hr,hg,hn=>by
  unfold x9 at h;exact wpIn_ret ⟨.ret,g,s,rfl,h,hr,hg,hn⟩
 | .region id ops draw,s,Q,g,a,w,h,hr,hg,hn=>by
  unfold x9 at h;cases draw with
  |false=>
   simp only[R0] at h;cases hy:vC T Γ ops.toList ops.toList (some ⟨s,[],[]⟩) with
   |none=>rw[hy] at h;cases h
   |some y=>
    rw[hy] at h;refine aNt hT hΓ hy (XJ h.1) hr hg hn.symm (fun g' a' w' hr' hg'=>⟨.normal,g',y.s,rfl,h.2,hr',hg',(FY hy).2.2.trans hn⟩)
  |true=>
   simp only[R0] at h;cases hy:vC T Γ ops.toList ops.toList (some ⟨s,[],[]⟩) with
   |none=>rw[hy] at h;cases h
   |some y=>
    rw[hy] at h;simp only[aCe] at h;by_cases hc:LI ops s.nb y.es.reverse=true
    .rw[aVs hc] at h;refine aEh (i0:=ops.size) (j0:=0) hT hΓ hm hy hc (fun h=>absurd h (aW5 _)) (XJ h.1) hr hg hn.symm (fun g' a' w' hr' hg'=>⟨.normal,g',y.s,rfl,h.2,hr',hg',(FY hy).2.2.trans hn⟩)
    .rw[aVv hc] at h;cases h
 | .seq x y,s,Q,g,a,w,h,hr,hg,hn=>by
  unfold x9 at h;refine wpIn_seq (aXf (HK x s _ g a w h hr hg hn) fun e a' w' hp=> ?_);obtain⟨e',g',s',h1,h2,h3,h4,h5⟩:=hp;cases e<;>simp only[G0,aVr] at h1
  case normal=>subst h1;exact HK y s' Q g' a' w' h2 h3 h4 h5
  case exit id=>subst h1;exact⟨.exit id,g',s',rfl,h2,h3,h4,h5⟩
  case ret=>subst h1;exact⟨.ret,g',s',rfl,h2,h3,h4,h5⟩
  all_goals cases h1
 | .cond c x y,s,Q,g,a,w,h,hr,hg,hn=>by
  unfold x9 at h;have hc:=AP hr.env c;generalize uO s.env c=sc at h hc;unfold aCl at h;split at h
  .exact wpIn_cond_split (wE hc.1) (fun ht=>HK x s Q g a w (h.1 ht) hr hg hn) (fun ht=>HK y s Q g a w (h.2 ht) hr hg hn)
  .obtain⟨b,hb,hp,hq⟩:=hc.1;exact wpIn_cond_split hb (fun ht=>HK x s Q g a w (h.1 (hp ht)) hr hg hn) (fun ht=>HK y s Q g a w (h.2 (hq ht)) hr hg hn)
  .cases h
 | .block id c,s,Q,g,a,w,h,hr,hg,hn=>by
  unfold x9 at h;refine wpIn_block (aXf (HK c s _ g a w h hr hg hn) fun e a' w' hp=> ?_);obtain⟨e',g',s',h1,h2,h3,h4,h5⟩:=hp;cases e<;>simp only[G0,aVr] at h1
  case normal=>subst h1;exact⟨.normal,g',s',rfl,h2,h3,h4,h5⟩
  case exit j=>
   subst h1;simp only[J9] at h2;simp only[Exit.inBlock];split
   .rename_i hj;rw[aVs hj] at h2;exact⟨.normal,g',s',rfl,h2,h3,h4,h5⟩
   .rename_i hj;rw[aVv hj] at h2;exact⟨.exit j,g',s',rfl,h2,h3,h4,h5⟩
  case ret=>subst h1;exact⟨.ret,g',s',rfl,h2,h3,h4,h5⟩
  all_goals cases h1
 | .loop c,s,Q,g,a,w,h,hr,hg,hn=>by
  unfold x9 at h;obtain⟨k,I,μ,h0,hround⟩:=h;obtain⟨g1,k1,k2,k3,_⟩:=HI hr hg hn k
  let R:Act->pR->Nat->Prop:=fun a w n=> ∃g s,I s/\μ s=n/\w6 B g w s a/\uB A L g0 w0 g w s.H/\s.np=L.length
  refine wpIn_loop (fun a w=> ∃n,R a w n) (fun a w=>RS (R a w)) ⟨_,g1,s.keep k,h0,rfl,k1,k2,k3⟩ (fun a w hI=> ?_);obtain⟨⟨g2,s2,i1,i2,i3,i4,i5⟩,_⟩:=XK hI;refine aXf (HK c s2 _ g2 a w (hround s2 i1) i3 i4 i5) fun e a' w' hp=> ?_;obtain⟨e',g',s',h1,h2,h3,h4,h5⟩:=hp;cases e<;>simp only[G0,aVr] at h1
  case normal=>
   subst h1;obtain⟨k',j1,j2⟩:=h2;obtain⟨g3,l1,l2,l3,_⟩:=HI h3 h4 h5 k';have hR:R a' w' (μ (s'.keep k')):=⟨g3,s'.keep k',j1,rfl,l1,l2,l3⟩;refine⟨⟨_,hR⟩,Nat.lt_of_le_of_lt ((XK ⟨_,hR⟩).2 _ hR) (by rw[<-i2];exact j2)⟩
  case exit id=>subst h1;exact⟨.exit id,g',s',rfl,h2,h3,h4,h5⟩
  case ret=>subst h1;exact⟨.ret,g',s',rfl,h2,h3,h4,h5⟩
  all_goals cases h1
 | .rangeFunc _ _ _ _,_,_,_,_,_,h,_,_,_=>by unfold x9 at h;cases h
 | .scope _,_,_,_,_,_,h,_,_,_=>by unfold x9 at h;cases h
 | .goto _,_,_,_,_,_,h,_,_,_=>by unfold x9 at h;cases h
 | .refuse _,_,_,_,_,_,h,_,_,_=>by unfold x9 at h;cases h
end
section
variable {f:St->Prop}{Q:Ex->St->Prop}{s:St}{id j:Nat}{I:St->Prop}{μ:St->Nat}{m:Nat}
theorem qJ (h:f s):R3 f Q .normal s:=h
theorem tJ (h:Q (.exit j) s):R3 f Q (.exit j) s:=h
theorem rD (h:Q .ret s):R3 f Q .ret s:=h
theorem rU (h:Q .normal s):J9 id Q .normal s:=h
theorem tU (h:Q .normal s):J9 id Q (.exit id) s:=by show (if id=id then Q .normal s else Q (.exit id) s);rw[aVs rfl];exact h
theorem aEj (hne:j≠id) (h:Q (.exit j) s):J9 id Q (.exit j) s:=by show (if j=id then Q .normal s else Q (.exit j) s);rw[aVv hne];exact h
theorem rT (h:Q .ret s):J9 id Q .ret s:=h
end
@[go_sem] def rI:Nat->List qC->List (Nat×qC)
 |_,[]=>[]
 |c,s::r=>(c,s)::rI (c+1) r
@[go_sem] def wF:Nat->List qB->pL
 |_,[]=>[]
 |c,_::L=>(c,c)::wF (c+1) L
@[go_sem] def RT (m:pL):List qC->Prop
 |[]=>True
 |s::r=>AK m s=s/\RT m r
@[go_sem] def RU (m:pL):List qB->Prop
 |[]=>True
 | .dead::_=>False
 |b::r=>J8 m (some b)=b/\RU m r
def rL:List qB->Prop
 |[]=>True
 | .row _ _ l n::r=>n=List.length l/\rL r
 |_::r=>rL r
theorem aEk {g:Gh}{w:pR}: ∀{L:List qB},(∀(i:Nat) b,L[i]? =some b->∃j,AM g w j b)->rL L
 |[],_=>trivial
 |b::L,h=>by
  have h1:=aEk (L:=L) fun i b' hb=>h (i+1) b' (by simpa using hb);obtain⟨j,h0⟩:=h 0 b rfl;cases b with
  |row e t l n=>exact⟨h0.1.symm,h1⟩
  |_=>exact h1
def a15:pN->pS
 |[v]=>v
 |l=> .tuple l.toArray
attribute [go_sem] qR
@[go_sem] def aEl:qC->Int
 |(.val (.int _) n,_)=>n
 |_=>0
theorem aEm: ∀(l:List qC) (c t:Nat),lk (rI c l) t=if c<=t then(l[t-c]?).getD (.any,none) else(.any,none)
 |[],c,t=>by simp [rI,lk]
 |s::l,c,t=>by
  simp only[rI,lk];by_cases h:c=t
  .subst h;simp
  .rw[aVv h,aEm l (c+1) t];by_cases h2:c<=t
   .rw[aVs h2,aVs pG];obtain⟨d,hd⟩: ∃d,t-c=d+1:=⟨t-c-1,pG⟩;rw[hd,aWe,show t- (c+1)=d by omega]
   .rw[aVv h2,aVv pG]
theorem OE: ∀{L:List qB}{c i j:Nat},(i,j)∈wF c L↔i=j/\c<=i/\i<c+L.length
 |[],c,i,j=>by simp only[wF,aW4,aVD,false_iff];omega
 |b::L,c,i,j=>by
  simp only[wF,aVH,aV0,OE,aVw];omega
theorem XL: ∀{L:List qB}{c:Nat},xQ 0 (wF c L)=true
 |[],_=>rfl
 |b::L,c=>by
  simp only[wF,xQ,aVG];refine⟨⟨by simp,?_⟩,XL⟩;have: ∀{m:pL},(∀i j,(i,j)∈m->i≠c/\j≠c)->NV c c m=false:=by
   intro m
   induction m with
   |nil=>intro _;rfl
   |cons q m ih=>
    intro h;obtain⟨i,j⟩:=q;have:=h i j pI;simp only[NV,ih (fun i j hm=>h i j (aVB _ hm)),decide_eq_false this.1,decide_eq_false this.2];rfl
  rw[this]
  .rfl
  .intro i j hm;obtain⟨rfl,h1,_⟩:=OE.1 hm;omega
theorem aEn {m:pL}: ∀{l:List qC},RT m l->∀s∈l,AK m s=s
 |x::l,h,s,hs=>by
  rcases aVH.1 hs with rfl|hs
  .exact h.1
  .exact aEn h.2 s hs
theorem LS {m:pL}: ∀{l:List qB},RU m l->∀b∈l,J8 m (some b)=b/\b≠.dead
 |x::l,h,b,hb=>by
  cases x with
  |dead=>exact h.elim
  |cells t y ts=>
   rcases aVH.1 hb with rfl|hb
   .exact⟨h.1,fun h=>by cases h⟩
   .exact LS h.2 b hb
  |row e t l n=>
   rcases aVH.1 hb with rfl|hb
   .exact⟨h.1,fun h=>by cases h⟩
   .exact LS h.2 b hb
  |map k v l=>
   rcases aVH.1 hb with rfl|hb
   .exact⟨h.1,fun h=>by cases h⟩
   .exact LS h.2 b hb
  |iter s n=>
   rcases aVH.1 hb with rfl|hb
   .exact⟨h.1,fun h=>by cases h⟩
   .exact LS h.2 b hb
  |grow e c n=>
   rcases aVH.1 hb with rfl|hb
   .exact⟨h.1,fun h=>by cases h⟩
   .exact LS h.2 b hb
theorem XM {g:Gh}{w:pR}: ∀{ss:List qC}{vs:pN},vS g w ss vs->vs.length=ss.length/\∀(i:Nat) s,ss[i]? =some s->∃v,vs[i]? =some v/\rX g w s v
 |[],vs,h=>by rw[show vs=[] from h];exact⟨rfl,fun i s h=>by simp at h⟩
 |s::ss,vs,⟨v,vs',e,h1,h2⟩=>by
  subst e;obtain⟨h3,h4⟩:=XM h2;refine⟨by simp [h3],fun i s' hi=> ?_⟩;cases i with
  |zero=>simp only[aV1,aVr] at hi;subst hi;exact⟨v,rfl,h1⟩
  |succ i=>simp only[aWe] at hi|-;exact h4 i s' hi
theorem XN: ∀(L:List qB),qZ L=L.length
 |[]=>rfl
 |_::L=>by simp only[qZ,aVw,XN L]
theorem aNI {g:Gh}{w:pR}{args:List qC}{vals:pN}{L:List qB}{N:Nat}(hH:sL g w (qR 0 L)) (ha:vS g w args vals) (hs:RT (wF 0 L) args) (hb:RU (wF 0 L) L) (hN:args.length<=N):
  w6 w.heap.size (vD g 0 (wF 0 L)) w ⟨rI 0 args,qR 0 L,qZ L,N,qZ L⟩ {tmps:=vals.toArray++Array.replicate (N-vals.toArray.size) undef,defers:=[]}/\
  (∀i blk,L[i]? =some blk->(vD g 0 (wF 0 L)).J i=g.J i/\AM (vD g 0 (wF 0 L)) w i blk/\∀b o,sG (vD g 0 (wF 0 L)) i blk b o->sG g i blk b o):=by
 have hk:xQ 0 (wF 0 L)=true:=XL;have hmem: ∀i blk,L[i]? =some blk->(i,i)∈wF 0 L:=fun i blk h=>OE.2 ⟨rfl,pG,by have:=(aVK.1 h).1;omega⟩;have hblk: ∀i blk,L[i]? =some blk->AM (vD g 0 (wF 0 L)) w i blk/\∀b o,sG (vD g 0 (wF 0 L)) i blk b o->sG g i blk b o:=by
  intro i blk h;have hr:=(LS hb blk (List.mem_of_getElem? h)).1;have:=LP (g:=g) (w:=w) hk (hmem i blk h) (b:=some blk) (fun c hc=>by cases hc;exact hH.blk i blk (by rw[y4];exact h));rw[hr] at this;exact⟨this.1,fun b o ho=>by obtain⟨c,hc,hco⟩:=this.2 b o ho;cases hc;exact hco⟩
 obtain⟨hl,hv⟩:=XM ha;refine⟨⟨fun t=> ?_,⟨fun i b h=> ?_,fun i j bi bj b o hij h1 h2 o1 o2=> ?_,hH.sl,hH.tab.1,fun i blk b o hg ho=>hH.tab.2 i blk b o hg ((hblk i blk (by rw[<-y4];exact hg)).2 b o ho)⟩,?_,fun i hi=> ?_,aDD _ _,aVR _⟩,fun i blk h=>⟨(BB hk (hmem i blk h)).1,hblk i blk h⟩⟩
 .rw[aEm,aVs (aWC _),Nat.sub_zero];cases ht:args[t]? with
  |none=>exact⟨trivial,trivial⟩
  |some s=>
   obtain⟨v,hv1,hv2⟩:=hv t s ht;have hlt:t<vals.length:=(aVK.1 hv1).1;have:(vals.toArray++Array.replicate (N-vals.toArray.size) undef).getD t undef=v:=by
    rw[aVZ,Array.getElem?_append_left (by simpa using hlt)];simp [hv1]
   simp only[aXA];rw[this];have:=XE hk hv2;rw[aEn hs s (List.mem_of_getElem? ht)] at this;exact this
 .rw[y4] at h;exact(hblk i b h).1
 .rw[y4] at h1 h2;exact hH.dis i j bi bj b o hij (by rw[y4];exact h1) (by rw[y4];exact h2) ((hblk i bi h1).2 b o o1) ((hblk j bj h2).2 b o o2)
 .simp only[aXj,Array.size_replicate,aWn];omega
 .have hold:A8 (wF 0 L) i=none:=by
   cases ho:A8 (wF 0 L) i with
   |none=>rfl
   |some o=>
    obtain⟨rfl,_,h2⟩:=OE.1 (a1M ho);have hi:qZ L<=i:=hi;rw[XN] at hi;omega
  refine⟨?_,fun n=> ?_⟩
  .show (if i<0 then g.J i else(A8 (wF 0 L) i).bind g.J)=none;rw[aVv pG,hold];rfl
  .show (if i<0 then g.cur i n else(A8 (wF 0 L) i).bind fun o=>g.cur o n)=none;rw[aVv pG,hold];rfl
structure vT (B:Nat) (w w':pR):Prop where
 os:w'.os=w.os
 tape:w'.tape=w.tape
 output:w'.output=w.output
 size:w.heap.size<=w'.heap.size
 blk: ∀b,b<w.heap.size->w'.heap[b]? =w.heap[b]? \/(B<=b/\NG<=b/\∃o o',w.heap[b]? =some o/\w'.heap[b]? =some o'/\HH o=true/\HH o'=true)
theorem aEo {w:pR}{b:Nat}{ob:Obj}(hd:w.heap[b]? =some ob) (hm:HH ob=true) (o:Nat):w.frozen? ⟨b,o,none⟩=false:=by
 unfold World.frozen?;simp only[hd];cases ob<;>first|rfl|cases hm
theorem aNJ {w:pR}{b:Nat}{ob:Obj}(hd:w.heap[b]? =some ob) (hm:HH ob=true):w.shape? b=none:=by
 unfold World.shape?;simp only[hd];cases ob<;>first|rfl|cases hm
section
variable {B:Nat}{w w' w'':pR}
theorem vT.refl (B:Nat) (w:pR):vT B w w:=⟨rfl,rfl,rfl,aVR _,fun _ _=> .inl rfl⟩
theorem vT.trans (h:vT B w w') (k:vT B w' w''):vT B w w'':=by
 refine⟨k.os.trans h.os,k.tape.trans h.tape,k.output.trans h.output,aWx h.size k.size,fun b hb=> ?_⟩;rcases k.blk b (aV7 hb h.size) with k1|⟨k0,k1,o,o',k2,k3,k4,k5⟩
 .rcases h.blk b hb with h1|⟨h0,h1,o,o',h2,h3,h4,h5⟩
  .exact .inl (k1.trans h1)
  .exact .inr ⟨h0,h1,o,o',h2,k1.trans h3,h4,h5⟩
 .rcases h.blk b hb with h1|⟨h0,h1,p,p',h2,h3,h4,h5⟩
  .exact .inr ⟨k0,k1,o,o',h1▸k2,k3,k4,k5⟩
  .exact .inr ⟨h0,h1,p,o',h2,k3,h4,k5⟩
theorem vT.cell (t:vT B w w') {b:Nat}(hb:b<w.heap.size) (o:Nat):w'.cell? ⟨b,o,none⟩=w.cell? ⟨b,o,none⟩/\w'.frozen? ⟨b,o,none⟩=w.frozen? ⟨b,o,none⟩:=by
 rcases t.blk b hb with h|⟨_,_,o1,o2,h1,h2,m1,m2⟩
 .exact⟨aVT h,by unfold World.frozen?;simp only[h]⟩
 .exact⟨by rw[a1I h1 m1,a1I h2 m2],by rw[aEo h1 m1,aEo h2 m2]⟩
theorem vT.shape (t:vT B w w') {b:Nat}{s:TypeId×Nat}(h:w.shape? b=some s):w'.shape? b=some s:=by
 have hb:b<w.heap.size:=by
  unfold World.shape? at h;cases hx:w.heap[b]? with
  |none=>rw[hx] at h;cases h
  |some _=>exact(aVW.1 hx).1
 rcases t.blk b hb with k|⟨_,_,o1,o2,h1,h2,m1,m2⟩
 .unfold World.shape? at h|-;rw[k];exact h
 .rw[aNJ h1 m1] at h;cases h
theorem vT.le (t:vT B w w') {g:Gh}(hs: ∀b o,g.S b o->b<w.heap.size):Le g w g w':=⟨fun _ _ h=>h,fun b o h=>(t.cell (hs b o h) o).1,fun _ _ h=>h,fun _ _ _ h=>h⟩
theorem vT.heapOk (t:vT B w w') {g:Gh}{H:sE}(h:sL g w H):sL g w' H:=by
 have own: ∀{i blk b o},qE H i=some blk->sG g i blk b o->w'.heap[b]? =w.heap[b]? :=fun hg ho=>by
  rcases t.blk _ (NX (h.blk _ _ hg) ho) with k|⟨_,_,o1,o2,h1,_,m1,_⟩
  .exact k
  .exact(XB (h.blk _ _ hg) ho h1 m1).elim
 refine⟨fun i blk hb=>NY (h.blk i blk hb) (t.le h.sl) rfl rfl (fun b o ho=>t.cell (NX (h.blk i blk hb) ho) o) (fun b ho=>own hb (ho 0)) (fun _ _ _ x=>x) (fun b o s _ x=>t.shape x),h.dis,fun b o x=>aV7 (h.sl b o x) t.size,KY h.tab.1 t.size (fun b hb=> ?_),h.tab.2⟩;rcases t.blk b (aV7 hb h.tab.1.1) with k|⟨_,k,_⟩
 .exact k
 .omega
theorem w6.turn {g:Gh}{s:St}{a:Act}{ds:List Deferred}(h:w6 B g w s a) (t:vT B w w') (hd:A7 B w' ds):w6 B g w' s {a with defers:=ds}:=
 ⟨fun x=>DE (t.le h.heap.sl) (h.env x),t.heapOk h.heap,h.size,h.nb,hd,h.np⟩
theorem uB.turn {A:Nat->Nat->Prop}{L:List qB}{g0 g:Gh}{w0:pR}{H:sE}(h:uB A L g0 w0 g w H) (hs: ∀b o,g.S b o->b<w.heap.size) (t:vT w0.heap.size w w'):uB A L g0 w0 g w' H:=by
 refine⟨fun b o x=>⟨(h.shut b o x).1,(t.cell (hs b o (h.shut b o x).1) o).1.trans (h.shut b o x).2⟩,⟨t.os.trans h.fr.os,t.tape.trans h.fr.tape,t.output.trans h.fr.output,aWx h.fr.size t.size,fun b hb hA=> ?_,fun b o hb hA=> ?_,h.fr.new,fun b s x=> ?_⟩,h.perm,h.J,h.live,h.ty,h.cur⟩
 .rcases t.blk b (aV7 hb h.fr.size) with k|⟨k,_⟩
  .exact k.trans (h.fr.blk b hb hA)
  .omega
 .have:=t.cell (aV7 hb h.fr.size) o;have k:=h.fr.cell b o hb hA;exact⟨this.1.trans k.1,this.2.trans k.2⟩
 .rcases h.fr.shape b s x with k|k
  .exact .inl (t.shape k)
  .exact .inr k
end
theorem aEp {P:Program}{fn:Func}{R:Ending->pR->Prop}{A:Nat->Nat->Prop}{L:List qB}{g0 g:Gh}{w0:pR}{s:St}{tmps:Array pS}: ∀(ds:List Deferred) (w:pR),w6 w0.heap.size g w s {tmps:=tmps,defers:=ds}->uB A L g0 w0 g w s.H->
  (∀w',w6 w0.heap.size g w' s {tmps:=tmps,defers:=[]}->uB A L g0 w0 g w' s.H->∃v,(results fn tmps).run P w'= .ok v w'/\R (.returned v) w')->LeavesInM Fence.wide 0 P fn tmps R ds .returning w
 |[],w,hr,hg,h=>h w hr hg
 |d::ds,w,hr,hg,h=>by
  obtain⟨hnd,hall⟩:=hr.def_;obtain⟨D,rfl,h1,h2,h3⟩:=hall d aVz;have hlt:=(aVW.1 h3).1;have t:vT w0.heap.size w (w.putObj D (.deferred none)):=by
   refine⟨rfl,rfl,rfl,by simp [World.putObj],fun b hb=> ?_⟩;by_cases e:b=D
   .subst e;exact .inr ⟨h1,h2,_,_,h3,World.putObj_heap_same hlt,rfl,rfl⟩
   .exact .inl (World.putObj_heap_other e)
  have hd:A7 w0.heap.size (w.putObj D (.deferred none)) ds:=by
   refine⟨(List.nodup_cons.1 hnd).2,fun d' hd'=> ?_⟩;obtain⟨D',rfl,k1,k2,k3⟩:=hall d' (aVB _ hd');refine⟨D',rfl,k1,k2,?_⟩;rw[World.putObj_heap_other (fun e:D'=D=>(List.nodup_cons.1 hnd).1 (by subst e;exact hd'))];exact k3
  exact⟨by simp,.inl ⟨D,_,rfl,run_takeDeferred h3,aEp ds _ (hr.turn t hd) (hg.turn hr.heap.sl t) h⟩⟩
end Go.Proofs.YtkpflnijijccpaaGreatDoor.Vc
