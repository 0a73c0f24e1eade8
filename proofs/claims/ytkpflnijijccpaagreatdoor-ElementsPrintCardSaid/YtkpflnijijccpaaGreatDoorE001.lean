/- Packed by a program of mine (wip/tools/pack.py): the same texts with short names and few blanks. -/
import Derived.ChangeKeysEq
import Derived.Laws.BytesArg
import Derived.Laws.StructEq
import Derived.Lib.AppendStr
import Derived.MapKept
import Derived.OrdersIn
import Derived.RangeFuncLeaves
import Derived.RangeFuncNested
import Derived.Scope
import Derived.WalkSpells
import Derived.Test.YtkpflnijijccpaaGreatDoorE000
set_option linter.defProp false
set_option linter.unusedVariables false
set_option linter.unusedSimpArgs false
set_option linter.unusedSectionVars false
set_option maxRecDepth 100000
set_option maxHeartbeats 4000000
namespace Go.Proofs.YtkpflnijijccpaaGreatDoor.Vc
open Go.RowKit
def xX:Ty->TypeDesc
 | .int k=> .int k
 | .str=> .string
 |_=> .bool
theorem XB {P:Program}{t:TypeId}{ti:TI}(h:sO P t ti) (hk:B9 ti.ty=true):P.underlying t=some (xX ti.ty):=by
 have h2:=h.2;unfold wJ at h2;obtain⟨ty,el,by',ar,ls⟩:=ti;cases ty<;>simp only[B9,aSg] at hk<;>exact h2
theorem aIY {g:Gh}{w:pB}{k:Ty}(hk:B9 k=true) {a x:k.den}{v u:pC}(ha:sM g w k a v) (hx:sM g w k x u):Instr.sameNow (xX k) v u=some (DN k a x)/\(DN k a x=true->u=v):=by
 cases k with
 |int k=>
  rw[uT ha,uT hx];simp only[xX,Instr.sameNow,aR4,DN];refine⟨?_,fun h=> ?_⟩
  .congr 1
  .rw[aRk h]
 |str=>
  rw[uZ ha,uZ hx];simp only[xX,Instr.sameNow,DN];refine⟨?_,fun h=> ?_⟩
  .congr 1;rw[aR7,MapKept.bytes_beq,aQY];constructor
   .intro h;have:=aQ0 (fun z:ByteArray=>z.data.toList) h;simpa using this
   .intro h;rw[h]
  .rw[aRk h]
 |bool=>
  rw[uI ha,uI hx];simp only[xX,Instr.sameNow,DN];refine⟨trivial,fun h=> ?_⟩;rw[beq_iff_eq.1 h]
 |_=>simp [B9] at hk
theorem XC {g:Gh}{w:pB}{k v:Ty}(hk:B9 k=true) {a:k.den}{key:pC}(ha:sM g w k a key): ∀{l:List (k.den×v.den)}{es:List MapEntry}(i:Nat),BB g w k v l es->
  (AH k v l a=false->Instr.findNow (xX k) key es i=some none/\rM k v l a=v.zero/\∀b val born,sM g w v b val->BB g w k v (tO k v a b l) (es++[⟨key,val,born⟩]))/\
  (AH k v l a=true->∃j e,es[j]? =some e/\Instr.findNow (xX k) key es i=some (some (i+j,e.val))/\sM g w v (rM k v l a) e.val/\e.key=key/\∀b val,sM g w v b val->BB g w k v (tO k v a b l) (es.modify j fun e=>{e with key:=key,val:=val}))
 |[],es,i,h=>by
  rw[show es=[] from h];exact⟨fun _=>⟨rfl,rfl,fun b val born hb=>⟨_,[],rfl,ha,hb,rfl⟩⟩,fun h=>by simp [AH] at h⟩
 |(x,y)::l,_,i,⟨e,es',rfl,h1,h2,h3⟩=>by
  obtain⟨s1,s2⟩:=aIY hk ha h1;cases hq:DN k a x with
  |true=>
   rw[hq] at s1;refine⟨fun h=>by simp [AH,hq] at h,fun _=>⟨0,e,rfl,?_,?_,s2 hq,fun b val hb=> ?_⟩⟩
   .simp only[Instr.findNow,s1,aRL]
   .simp only[rM,hq,aR4];exact h2
   .simp only[tO,hq,aR4];exact⟨_,es',rfl,ha,hb,h3⟩
  |false=>
   rw[hq] at s1;obtain⟨f1,f2⟩:=XC (v:=v) hk ha (i+1) h3;refine⟨fun h=> ?_,fun h=> ?_⟩
   .simp only[AH,hq] at h;obtain⟨g1,g2,g3⟩:=f1 (by simpa using h);refine⟨by simp only[Instr.findNow,s1];exact g1,by simp only[rM,hq];simpa using g2,fun b val born hb=> ?_⟩;simp only[tO,hq];exact⟨e,_,rfl,h1,h2,g3 b val born hb⟩
   .simp only[AH,hq] at h;obtain⟨j,e',g1,g2,g3,g4,g5⟩:=f2 (by simpa using h);refine⟨j+1,e',by simpa using g1,by simp only[Instr.findNow,s1];rw[g2];congr 3;omega,by simp only[rM,hq];simpa using g3,g4,fun b val hb=> ?_⟩;simp only[tO,hq];exact⟨e,_,rfl,h1,h2,g5 b val hb⟩
def HN (ok:Bool) (z:pC):Option (Nat×pC)->pC
 |some (_,v)=>if ok then .tuple #[v,.bool true] else v
 |none=>if ok then .tuple #[z,.bool false] else z
section
variable {P:Program}{o:Oper}{a:Act}{g:Gh}{w:pB}{H:rH}{T:rW}(hT:vK P T) (hH:rR g w H)
include hT hH
theorem rL.newMap {side:List Prop}{rds:pA}{base:Nat}{k v:Ty}(hf:g.J base=none) (hc:g.cur base=fun _=>none):
  rL g w H ⟨side,(.val .mp (some base),none),[(base,.map k v [])],rds⟩ (g.var base w.heap.size none) (w.alloc (.map #[] 0)) (.map (some w.heap.size)):=by
 have hJ:(g.var base w.heap.size none).J base=some ⟨w.heap.size,0,none⟩:=by simp [Gh.var]
 have le:Le g w (g.var base w.heap.size none) (w.alloc (.map #[] 0)):=⟨fun _ _ h=>h,fun b o h=>aQ5 (a:=⟨b,o,none⟩) (aRa _ _ _ (hH.sl b o h)),fun i p h=>by
  show (if i=base then _ else _)=_;rw[aQO (fun e1=>by rw[e1,hf] at h;cases h)];exact h,fun _ _ _ h=>h⟩
 have fr:Fr (s6 g H (pS [(base,pM.map k v [])])) w (w.alloc (.map #[] 0)) g.S (g.var base w.heap.size none).S:=
  ⟨rfl,rfl,rfl,by simp,fun b hb _=>aRa _ _ _ hb,fun b o hb _=>⟨aQ5 (a:=⟨b,o,none⟩) (aRa _ _ _ hb),aRp (a:=⟨b,o,none⟩) (aRa _ _ _ hb)⟩,fun b o h=> .inl h,fun b s h=> .inl ((zW (aRa _ _ _ (zV h))).trans h)⟩
 have gho: ∀i,i∉pS [(base,pM.map k v [])]->(g.var base w.heap.size none).J i=g.J i/\(g.var base w.heap.size none).cur i=g.cur i:=fun i hi=>⟨by
  show (if i=base then _ else _)=_;rw[aQO (fun e1=>hi (by simp [pS,e1]))],rfl⟩
 have get: ∀i blk,i∈pS [(base,pM.map k v [])]->pQ (qH [(base,pM.map k v [])] H) i=some blk->i=base/\blk= .map k v []:=by
  intro i blk hi hg;simp only[pS,aQ2] at hi;subst hi;simp only[qH,pQ,aR4,aQE] at hg;exact⟨rfl,hg.symm⟩
 have perm: ∀i blk b o,i∈pS [(base,pM.map k v [])]->pQ (qH [(base,pM.map k v [])] H) i=some blk->rK (g.var base w.heap.size none) i blk b o->w.heap.size<=b\/s6 g H (pS [(base,pM.map k v [])]) b o:=by
  intro i blk b o hi hg ho;obtain⟨rfl,rfl⟩:=get i blk hi hg;obtain⟨p,hp,h1⟩:=ho;rw[hJ] at hp;obtain rfl:=aQH hp;exact .inl (aR1 h1.symm)
 refine⟨le,⟨.inr ⟨rfl,_,hJ,rfl⟩,trivial⟩,hH.upd le fr perm gho (fun i blk hi hg=> ?_) (fun i j bi bj b o hi hj hij hgi hgj _ _=>hij ((get i bi hi hgi).1.trans (get j bj hj hgj).1.symm)) (fun b o h=>aRh (hH.sl b o h) oY),fr,perm,gho,fun i u' y us h=>by
  simp only[qH,pQ] at h;split at h
  .cases h
  .exact .inl ⟨y,us,h⟩⟩
 obtain⟨rfl,rfl⟩:=get i blk hi hg;refine⟨⟨w.heap.size,0,none⟩,#[],0,hJ,rfl,?_,rfl,fun o hs=>aSk _ (hH.sl _ _ hs)⟩;show (w.heap.push (.map #[] 0))[w.heap.size]? =_;rw[aSv]
theorem aIZ {t:TypeId}{r:Option Operand}(ho:o.op= .makeMap t r) {base:Nat}{e:q9}(hr:WD T base (rE T t) r=some e) (hf:wS g base e):r7 P o a g w H e:=by
 generalize hst:rE T t=ot at hr;unfold WD at hr;split at hr
 .rename_i el fl ar ls_;unfold a9p at hr;split at hr
  .split at hr
   .cases hr;have hfr:=hf base (by simp [pS]) (aQ4 _);refine r7.value (v:= .map (some w.heap.size)) (w':=w.alloc (.map #[] 0)) ?_ (rL.newMap hT hH hfr.1 (funext hfr.2));unfold execOp;rw[ho];simp only[Instr.makeMap,aQS,run_newObj,aQK,aQ6,Option.map_none];rfl
   .cases hr
  .cases hr
 .cases hr
theorem aI0 {xt el fl:TypeId}{ok:Bool}{r:Nat}{es:Array MapEntry}{cl:Nat}{key z res:pC}{kd:TypeDesc}(hm:P.underlying xt=some (.map el fl)) (hb:w.heap[r]? =some (.map es cl)) (hkd:P.underlying el=some kd) (hsim: ∀ty,kd≠.interface ty) (hna: ∀n t,kd≠.array n t) (hns: ∀f,kd≠.struct f)
  {q:Option (Nat×pC)}(hq:Instr.findNow kd key es.toList 0=some q) (hz:(zeroValue fl).run P w= .ok z w)
  (hres:res=HN ok z q):(Instr.lookup xt (.map (some r)) key ok).run P w= .ok res w:=by
 have hck: ∀em,(Instr.checkKey em 10000 el key).run P w= .ok () w:=by
  intro em;unfold Instr.checkKey;simp only[aQS,aQX hkd,aQK];cases kd<;>first|rfl|(exact absurd rfl (hsim _)) |(exact absurd rfl (hna _ _)) |(exact absurd rfl (hns _))
 have hfk:(Instr.findKey el key es.toList).run P w= .ok q w:=by
  unfold Instr.findKey;simp only[aQS,aQX hkd,aQK,hq,aQ6]
 subst hres;unfold Instr.lookup;simp only[aQS,aQX hm,aQK,MapKept.run_getObj_map hb,aQ6,hck,hfk];cases q with
 |none=>cases ok<;>simp [hz,aQS,aQK,HN]
 |some q=>cases ok<;>simp [aQS,aQK,HN]
theorem aI1 {xt el fl:TypeId}{ok:Bool}{key z:pC}{kd:TypeDesc}(hm:P.underlying xt=some (.map el fl)) (hkd:P.underlying el=some kd) (hsim: ∀ty,kd≠.interface ty) (hna: ∀n t,kd≠.array n t) (hns: ∀f,kd≠.struct f)
  (hz:(zeroValue fl).run P w= .ok z w):(Instr.lookup xt (.map none) key ok).run P w= .ok (HN ok z none) w:=by
 have hck: ∀em,(Instr.checkKey em 10000 el key).run P w= .ok () w:=by
  intro em;unfold Instr.checkKey;simp only[aQS,aQX hkd,aQK];cases kd<;>first|rfl|(exact absurd rfl (hsim _)) |(exact absurd rfl (hna _ _)) |(exact absurd rfl (hns _))
 have hfk:(Instr.findKey el key ([]:List MapEntry)).run P w= .ok none w:=by
  unfold Instr.findKey;simp only[aQS,aQX hkd,aQK,Instr.findNow,aQ6]
 unfold Instr.lookup;simp only[aQS,aQX hm,aQK,aQ6,hck,hfk];cases ok<;>simp [hz,aQS,aQK,HN,hfk]
theorem rL.updMap {side:List Prop}{rds:pA}{i:Nat}{k v:Ty}{l l':List (k.den×v.den)}{p:Pl}{es es':Array MapEntry}{cl cl':Nat}(hi:pQ H i=some (.map k v l)) (hp:g.J i=some p) (hp0:p.2=0) (hb:w.heap[p.1]? =some (.map es cl)) (hS: ∀o,¬g.S p.1 o) (hM:BB g w k v l' es'.toList):
  rL g w H ⟨side,(.any,none),[(i,.map k v l')],rds⟩ g {w with heap:=w.heap.setIfInBounds p.1 (.map es' cl')} undef:=by
 have hlt:p.1<w.heap.size:=(aQ1.1 hb).1;have hoth: ∀b,b≠p.1->(w.heap.setIfInBounds p.1 (.map es' cl'))[b]? =w.heap[b]? :=fun b hne=>by rw[aRT (Ne.symm hne)]
 have hown: ∀o,s6 g H (pS [(i,pM.map k v l')]) p.1 o:=fun o=>⟨i,_,by simp [pS],hi,p,hp,rfl⟩;have le:Le g w g {w with heap:=w.heap.setIfInBounds p.1 (.map es' cl')}:=⟨fun _ _ h=>h,fun b o h=>aQ5 (a:=⟨b,o,none⟩) (hoth b (fun e=>hS o (e▸h))),fun _ _ h=>h,fun _ _ _ h=>h⟩
 have fr:Fr (s6 g H (pS [(i,pM.map k v l')])) w {w with heap:=w.heap.setIfInBounds p.1 (.map es' cl')} g.S g.S:=
  ⟨rfl,rfl,rfl,by simp,fun b _ hn=>hoth b (fun e=>hn 0 (e▸hown 0)),fun b o _ hn=>⟨aQ5 (a:=⟨b,o,none⟩) (hoth b (fun e=>hn (e▸hown o))),aRp (a:=⟨b,o,none⟩) (hoth b (fun e=>hn (e▸hown o)))⟩,fun b o h=> .inl h,fun b s h=>(by
   by_cases e:b=p.1
   .exact .inr fun o=>e▸hown o
   .exact .inl ((zW (hoth b e)).trans h))⟩
 have get: ∀j blk,j∈pS [(i,pM.map k v l')]->pQ (qH [(i,pM.map k v l')] H) j=some blk->j=i/\blk= .map k v l':=by
  intro j blk hj hg;simp only[pS,aQ2] at hj;subst hj;simp only[qH,pQ,aR4,aQE] at hg;exact⟨rfl,hg.symm⟩
 have perm: ∀j blk b o,j∈pS [(i,pM.map k v l')]->pQ (qH [(i,pM.map k v l')] H) j=some blk->rK g j blk b o->w.heap.size<=b\/s6 g H (pS [(i,pM.map k v l')]) b o:=by
  intro j blk b o hj hg ho;obtain⟨rfl,rfl⟩:=get j blk hj hg;obtain⟨q,hq,rfl⟩:=ho;rw[hp] at hq;obtain rfl:=aQH hq;exact .inr (hown o)
 refine⟨le,⟨trivial,trivial⟩,hH.upd le fr perm (fun _ _=>⟨rfl,rfl⟩) (fun j blk hj hg=> ?_) (fun j j' bi bj b o hj hj' hij hgi hgj _ _=>hij ((get j bi hj hgi).1.trans (get j' bj hj' hgj).1.symm)) (fun b o h=>by simpa using hH.sl b o h),fr,perm,fun _ _=>⟨rfl,rfl⟩,fun j u' y us h=>by
  simp only[qH,pQ] at h;split at h
  .cases h
  .exact .inl ⟨y,us,h⟩⟩
 obtain⟨rfl,rfl⟩:=get j blk hj hg;exact⟨p,es',cl',hp,hp0,by simp [aSh,hlt],WN le hM,hS⟩
theorem aAj {i:Nat}{k:p9}{v:pC}(h:rD g w (.val .mp (some i),k) v): ∃p,g.J i=some p/\v= .map (some p.1):=by
 obtain⟨p,h1,e⟩:=yI rfl h.1;simp only[aRq,and_true] at e;exact⟨p,h1,e⟩
theorem XD {k:Ty}:(∀ty,xX k≠.interface ty)/\(∀n t,xX k≠.array n t)/\(∀f,xX k≠.struct f):=by
 cases k<;>exact⟨fun _ h=>by simp [xX] at h,fun _ _ h=>by simp [xX] at h,fun _ h=>by simp [xX] at h⟩
theorem aI2 {t:TypeId}{x y:Operand}{ok:Bool}(ho:o.op= .lookup t x y ok) {sx sy:pN}(hx:rD g w sx (a.eval x)) (hy:rD g w sy (a.eval y)) {e:q9}(hr:RS T H ok (rE T t) sx sy=some e):r7 P o a g w H e:=by
 generalize hst:rE T t=ot at hr;unfold RS at hr;split at hr
 .rename_i el fl ar ls_ i kk;generalize hk:rE T el=ok1 at hr;generalize hv:rE T fl=ok2 at hr;unfold WE at hr;split at hr
  .rename_i kt vt k a' _;split at hr
   .rename_i hkt;unfold RR at hr;split at hr
    .rename_i k' v' l hb;split at hr
     .rename_i hkv;obtain⟨rfl,rfl⟩:=hkv;split at hr
      .rename_i hkey;obtain⟨p,es,cl,hp,hp0,hh,hM,hS⟩:=hH.blk i _ hb;obtain⟨p',hp',hxv⟩:=aAj hT hH hx;rw[hp] at hp';obtain rfl:=aQH hp';have hm:=(sI hT hst).2;simp only[wJ] at hm;have hkd:=XB (sI hT hk) (hkt▸hkey);obtain⟨iv,hi1,hi2,hi3⟩:=BE (sI hT hv);have hz:(zeroValue fl).run P w= .ok (uS vt.ty) w:=by
        simp only[zeroValue,typeInfo,aQS,aRu,hi1,hi3,aQK,aQ6]
       obtain⟨f1,f2⟩:=XC (v:=vt.ty) hkey hy.1 0 hM;rw[<-hkt] at hkd;obtain⟨p1,p2,p3⟩:=XD hT hH (k:=k);have go: ∀{q res},Instr.findNow (xX k) (a.eval y) es.toList 0=some q->res=HN ok (uS vt.ty) q->(execOp a.eval o).run P w= .ok (.value res) w:=by
        intro q res h1 h2;unfold execOp;rw[ho];simp only[hxv,aQS,aI0 hT hH hm hh hkd p1 p2 p3 h1 hz h2,aQK,aQ6]
       cases hmh:AH k vt.ty l a' with
       |false=>
        obtain⟨g1,g2,_⟩:=f1 hmh;cases ok with
        |true=>
         cases hr;refine r7.pure hH (v:= .tuple #[uS vt.ty,.bool false]) (go g1 rfl) ?_;simp only[JF,hmh,g2];exact⟨[_,_],rfl,_,[_],rfl,HL g w _,trivial,_,[],rfl,v6 g w false,trivial,rfl⟩
        |false=>
         cases hr;refine r7.pure hH (v:=uS vt.ty) (go g1 rfl) ?_;simp only[JF,g2];exact HL g w _
       |true=>
        obtain⟨j,e',g1,g2,g3,g4,g5⟩:=f2 hmh;cases ok with
        |true=>
         cases hr;refine r7.pure hH (v:= .tuple #[e'.val,.bool true]) (go g2 rfl) ?_;simp only[JF,hmh];exact⟨[_,_],rfl,_,[_],rfl,g3,trivial,_,[],rfl,v6 g w true,trivial,rfl⟩
        |false=>
         cases hr;refine r7.pure hH (v:=e'.val) (go g2 rfl) ?_;simp only[JF];exact g3
      .cases hr
     .cases hr
    .cases hr
   .cases hr
  .cases hr
 .rename_i el fl ar ls_ kk;generalize hk:rE T el=ok1 at hr;generalize hv:rE T fl=ok2 at hr;unfold a9q at hr;split at hr
  .rename_i kt vt k a' _;split at hr
   .rename_i hkt;split at hr
    .rename_i hkey;have hxv:a.eval x= .map none:=by
      have e1:=yI rfl hx.1;simpa[Rd,HJ] using e1
     have hm:=(sI hT hst).2;simp only[wJ] at hm;have hkd:=XB (sI hT hk) (hkt▸hkey);obtain⟨iv,hi1,hi2,hi3⟩:=BE (sI hT hv);have hz:(zeroValue fl).run P w= .ok (uS vt.ty) w:=by
      simp only[zeroValue,typeInfo,aQS,aRu,hi1,hi3,aQK,aQ6]
     rw[<-hkt] at hkd;obtain⟨p1,p2,p3⟩:=XD hT hH (k:=k);have go:(execOp a.eval o).run P w= .ok (.value (HN ok (uS vt.ty) none)) w:=by
      unfold execOp;rw[ho];simp only[hxv,aQS,aI1 hT hH hm hkd p1 p2 p3 hz,aQK,aQ6]
     cases ok with
     |true=>
      cases hr;exact r7.pure hH (v:= .tuple #[uS vt.ty,.bool false]) go ⟨[_,_],rfl,_,[_],rfl,HL g w _,trivial,_,[],rfl,v6 g w false,trivial,rfl⟩
     |false=>
      cases hr;exact r7.pure hH (v:=uS vt.ty) go (HL g w _)
    .cases hr
   .cases hr
  .cases hr
 .cases hr
theorem aI3 {g:Gh}{w:pB}{k:Ty}(hk:B9 k=true) {x:k.den}{v:pC}(h:sM g w k x v) (n:Nat):Instr.sameBits n v v=true:=by
 cases k with
 |int k=>rw[uT h];cases n<;>simp [Instr.sameBits]
 |str=>rw[uZ h];cases n<;>simp [Instr.sameBits,MapKept.bytes_beq]
 |bool=>rw[uI h];cases n<;>simp [Instr.sameBits]
 |_=>simp [B9] at hk
omit hT hH in
theorem aAk {T:rW}{ti:Option TI}{s:pN}{v:pC}(h:rD g w s v):rD g w (RU T ti s) v:=by
 unfold RU;split
 .unfold a9r;split
  .rename_i f x _;refine⟨.inr ⟨rfl,?_⟩,trivial⟩;rcases h.1 with⟨h1,_⟩ |⟨h1,vs,h2,h3⟩
   .cases h1
   .rw[show vs=[] from h2] at h3;exact h3
  .exact h
 .exact h
theorem aAl {t:TypeId}{m x y:Operand}(ho:o.op= .mapUpdate t m x y\/o.op= .insert t m x y) {sm sx sy:pN}(hm:rD g w sm (a.eval m)) (hx:rD g w sx (a.eval x)) (hy:rD g w sy (a.eval y)) {e:q9}(hr:JQ T H (rE T t) sm sx sy=some e):r7 P o a g w H e:=by
 generalize hst:rE T t=ot at hr;unfold JQ at hr;split at hr
 .rename_i el fl ar ls_ i kk;generalize hk:rE T el=ok1 at hr;unfold RT at hr;split at hr
  .rename_i kt k a' _ u b _;split at hr
   .rename_i hkt;unfold JP at hr;split at hr
    .rename_i k' v' l hb;split at hr
     .rename_i hkv;obtain⟨rfl,rfl⟩:=hkv;split at hr
      .rename_i hkey;cases hr;obtain⟨p,es,cl,hp,hp0,hh,hM,hS⟩:=hH.blk i _ hb;obtain⟨p',hp',hxv⟩:=aAj hT hH hm;rw[hp] at hp';obtain rfl:=aQH hp';have hmt:=(sI hT hst).2;simp only[wJ] at hmt;have hkd:=XB (sI hT hk) (hkt▸hkey);rw[<-hkt] at hkd;obtain⟨p1,p2,p3⟩:=XD hT hH (k:=k);have hck:(Instr.checkKey false 10000 el (a.eval x)).run P w= .ok () w:=by
        unfold Instr.checkKey;simp only[aQS,aQX hkd,aQK];generalize xX k=kd at p1 p2 p3;cases kd<;>first|rfl|(exact absurd rfl (p1 _)) |(exact absurd rfl (p2 _ _)) |(exact absurd rfl (p3 _))
       have hfk: ∀{q},Instr.findNow (xX k) (a.eval x) es.toList 0=some q->(Instr.findKey el (a.eval x) es.toList).run P w= .ok q w:=by
        intro q hq;unfold Instr.findKey;simp only[aQS,aQX hkd,aQK,hq,aQ6]
       obtain⟨f1,f2⟩:=XC (v:=u) hkey hx.1 0 hM;cases hmh:AH k u l a' with
       |false=>
        obtain⟨g1,_,g3⟩:=f1 hmh;refine r7.skip (w':={w with heap:=w.heap.setIfInBounds p.1 (.map (es.push ⟨a.eval x,a.eval y,cl⟩) (cl+1))}) ?_ (rL.updMap hT hH hb hp hp0 hh hS ?_)
        .unfold execOp;rcases ho with ho|ho<;>rw[ho]<;>
          simp only[Instr.mapUpdate,hxv,aQS,aQX hmt,aQK,MapKept.run_getObj_map hh,hck,hfk g1,MapKept.run_setObj_map _ hh,aQ6]
        .simp only[JF,Array.toList_push];exact g3 b _ _ hy.1
       |true=>
        obtain⟨j,e',g1,g2,g3,g4,g5⟩:=f2 hmh;rw[aRf] at g2;refine r7.skip (w':={w with heap:=w.heap.setIfInBounds p.1 (.map (es.modify j fun e=>{e with key:=a.eval x,val:=a.eval y}) cl)}) ?_ (rL.updMap hT hH hb hp hp0 hh hS ?_)
        .have hj:es[j]? =some e':=by rw[<-aRx];exact g1
         unfold execOp;rcases ho with ho|ho<;>rw[ho]<;>
          simp only[Instr.mapUpdate,hxv,aQS,aQX hmt,aQK,MapKept.run_getObj_map hh,hck,hfk g2,hj,Option.map_some,aSD,g4,Instr.keyThatStays,aI3 hT hH hkey hx.1,aR4,MapKept.run_setObj_map _ hh,aQ6]
        .simp only[JF,Array.toList_modify];exact g5 b _ hy.1
      .cases hr
     .cases hr
    .cases hr
   .cases hr
  .cases hr
 .cases hr
end
theorem aAm {P:Program}{w:pB}{r:Nat}{s:ByteArray}{n:Nat}(hb:w.heap[r]? =some (.stringIter s n)):(getObj r).run P w= .ok (.stringIter s n) w:=by
 simp [getObj,Sem.run,hb]
theorem aI4 {P:Program}{w:pB}{r:Nat}{s:ByteArray}{n:Nat}(o:Obj) (hb:w.heap[r]? =some (.stringIter s n)):(setObj r o).run P w= .ok () {w with heap:=w.heap.setIfInBounds r o}:=by
 simp [setObj,Sem.run,hb]
section
variable {P:Program}{o:Oper}{a:Act}{g:Gh}{w:pB}{H:rH}{T:rW}(hT:vK P T) (hH:rR g w H)
include hT hH
theorem rL.newIter {side:List Prop}{rds:pA}{base:Nat}{s:oT}(hf:g.J base=none) (hc:g.cur base=fun _=>none):
  rL g w H ⟨side,(.val .ref (some (base,0)),none),[(base,.iter s 0)],rds⟩ (g.var base w.heap.size none) (w.alloc (.stringIter ⟨s.toArray⟩ 0)) (.pointer (some ⟨w.heap.size,0,none⟩)):=by
 have hJ:(g.var base w.heap.size none).J base=some ⟨w.heap.size,0,none⟩:=by simp [Gh.var]
 have le:Le g w (g.var base w.heap.size none) (w.alloc (.stringIter ⟨s.toArray⟩ 0)):=⟨fun _ _ h=>h,fun b o h=>aQ5 (a:=⟨b,o,none⟩) (aRa _ _ _ (hH.sl b o h)),fun i p h=>by
  show (if i=base then _ else _)=_;rw[aQO (fun e1=>by rw[e1,hf] at h;cases h)];exact h,fun _ _ _ h=>h⟩
 have fr:Fr (s6 g H (pS [(base,pM.iter s 0)])) w (w.alloc (.stringIter ⟨s.toArray⟩ 0)) g.S (g.var base w.heap.size none).S:=
  ⟨rfl,rfl,rfl,by simp,fun b hb _=>aRa _ _ _ hb,fun b o hb _=>⟨aQ5 (a:=⟨b,o,none⟩) (aRa _ _ _ hb),aRp (a:=⟨b,o,none⟩) (aRa _ _ _ hb)⟩,fun b o h=> .inl h,fun b s h=> .inl ((zW (aRa _ _ _ (zV h))).trans h)⟩
 have gho: ∀i,i∉pS [(base,pM.iter s 0)]->(g.var base w.heap.size none).J i=g.J i/\(g.var base w.heap.size none).cur i=g.cur i:=fun i hi=>⟨by
  show (if i=base then _ else _)=_;rw[aQO (fun e1=>hi (by simp [pS,e1]))],rfl⟩
 have get: ∀i blk,i∈pS [(base,pM.iter s 0)]->pQ (qH [(base,pM.iter s 0)] H) i=some blk->i=base/\blk= .iter s 0:=by
  intro i blk hi hg;simp only[pS,aQ2] at hi;subst hi;simp only[qH,pQ,aR4,aQE] at hg;exact⟨rfl,hg.symm⟩
 have perm: ∀i blk b o,i∈pS [(base,pM.iter s 0)]->pQ (qH [(base,pM.iter s 0)] H) i=some blk->rK (g.var base w.heap.size none) i blk b o->w.heap.size<=b\/s6 g H (pS [(base,pM.iter s 0)]) b o:=by
  intro i blk b o hi hg ho;obtain⟨rfl,rfl⟩:=get i blk hi hg;obtain⟨p,hp,h1⟩:=ho;rw[hJ] at hp;obtain rfl:=aQH hp;exact .inl (aR1 h1.symm)
 refine⟨le,⟨.inr ⟨rfl,_,hJ,rfl⟩,trivial⟩,hH.upd le fr perm gho (fun i blk hi hg=> ?_) (fun i j bi bj b o hi hj hij hgi hgj _ _=>hij ((get i bi hi hgi).1.trans (get j bj hj hgj).1.symm)) (fun b o h=>aRh (hH.sl b o h) oY),fr,perm,gho,fun i u' y us h=>by
  simp only[qH,pQ] at h;split at h
  .cases h
  .exact .inl ⟨y,us,h⟩⟩
 obtain⟨rfl,rfl⟩:=get i blk hi hg;refine⟨⟨w.heap.size,0,none⟩,hJ,rfl,?_,fun o hs=>aSk _ (hH.sl _ _ hs)⟩;show (w.heap.push (.stringIter ⟨s.toArray⟩ 0))[w.heap.size]? =_;rw[aSv]
theorem rL.updIter {side:List Prop}{rds:pA}{i:Nat}{s:oT}{n n':Nat}{d:pN}{val:pC}{p:Pl}(hi:pQ H i=some (.iter s n)) (hp:g.J i=some p) (hp0:p.2=0) (hb:w.heap[p.1]? =some (.stringIter ⟨s.toArray⟩ n)) (hS: ∀o,¬g.S p.1 o) (hd:rD g {w with heap:=w.heap.setIfInBounds p.1 (.stringIter ⟨s.toArray⟩ n')} d val):
  rL g w H ⟨side,d,[(i,.iter s n')],rds⟩ g {w with heap:=w.heap.setIfInBounds p.1 (.stringIter ⟨s.toArray⟩ n')} val:=by
 have hlt:p.1<w.heap.size:=(aQ1.1 hb).1;have hoth: ∀b,b≠p.1->(w.heap.setIfInBounds p.1 (.stringIter ⟨s.toArray⟩ n'))[b]? =w.heap[b]? :=fun b hne=>by rw[aRT (Ne.symm hne)]
 have hown: ∀o,s6 g H (pS [(i,pM.iter s n')]) p.1 o:=fun o=>⟨i,_,by simp [pS],hi,p,hp,rfl⟩;have le:Le g w g {w with heap:=w.heap.setIfInBounds p.1 (.stringIter ⟨s.toArray⟩ n')}:=⟨fun _ _ h=>h,fun b o h=>aQ5 (a:=⟨b,o,none⟩) (hoth b (fun e=>hS o (e▸h))),fun _ _ h=>h,fun _ _ _ h=>h⟩
 have fr:Fr (s6 g H (pS [(i,pM.iter s n')])) w {w with heap:=w.heap.setIfInBounds p.1 (.stringIter ⟨s.toArray⟩ n')} g.S g.S:=
  ⟨rfl,rfl,rfl,by simp,fun b _ hn=>hoth b (fun e=>hn 0 (e▸hown 0)),fun b o _ hn=>⟨aQ5 (a:=⟨b,o,none⟩) (hoth b (fun e=>hn (e▸hown o))),aRp (a:=⟨b,o,none⟩) (hoth b (fun e=>hn (e▸hown o)))⟩,fun b o h=> .inl h,fun b s h=>(by
   by_cases e:b=p.1
   .exact .inr fun o=>e▸hown o
   .exact .inl ((zW (hoth b e)).trans h))⟩
 have get: ∀j blk,j∈pS [(i,pM.iter s n')]->pQ (qH [(i,pM.iter s n')] H) j=some blk->j=i/\blk= .iter s n':=by
  intro j blk hj hg;simp only[pS,aQ2] at hj;subst hj;simp only[qH,pQ,aR4,aQE] at hg;exact⟨rfl,hg.symm⟩
 have perm: ∀j blk b o,j∈pS [(i,pM.iter s n')]->pQ (qH [(i,pM.iter s n')] H) j=some blk->rK g j blk b o->w.heap.size<=b\/s6 g H (pS [(i,pM.iter s n')]) b o:=by
  intro j blk b o hj hg ho;obtain⟨rfl,rfl⟩:=get j blk hj hg;obtain⟨q,hq,rfl⟩:=ho;rw[hp] at hq;obtain rfl:=aQH hq;exact .inr (hown o)
 refine⟨le,hd,hH.upd le fr perm (fun _ _=>⟨rfl,rfl⟩) (fun j blk hj hg=> ?_) (fun j j' bi bj b o hj hj' hij hgi hgj _ _=>hij ((get j bi hj hgi).1.trans (get j' bj hj' hgj).1.symm)) (fun b o h=>by simpa using hH.sl b o h),fr,perm,fun _ _=>⟨rfl,rfl⟩,fun j u' y us h=>by
  simp only[qH,pQ] at h;split at h
  .cases h
  .exact .inl ⟨y,us,h⟩⟩
 obtain⟨rfl,rfl⟩:=get j blk hj hg;exact⟨p,hp,hp0,by simp [aSh,hlt],hS⟩
theorem aI5 {t:TypeId}{x:Operand}(ho:o.op= .range t x) {sx:pN}(hx:rD g w sx (a.eval x)) {base:Nat}{e:q9}(hr:WG base (rE T t) sx=some e) (hf:wS g base e):r7 P o a g w H e:=by
 generalize hst:rE T t=ot at hr;unfold WG at hr;split at hr
 .rename_i el b ar ls s k;cases hr;have hfr:=hf base (by simp [pS]) (aQ4 _);have hv:=uZ hx.1;have hu:=(sI hT hst).2;simp only[wJ] at hu;refine r7.value (v:= .pointer (some ⟨w.heap.size,0,none⟩)) (w':=w.alloc (.stringIter ⟨s.toArray⟩ 0)) ?_ (rL.newIter hT hH hfr.1 (funext hfr.2));unfold execOp;rw[ho];simp only[Instr.range,hv,aQS,aQX hu,run_newObj,aQK,aQ6];rfl
 .cases hr
theorem aI6 {x:Operand}{b:Bool}(ho:o.op= .next x b) {sx:pN}(hx:rD g w sx (a.eval x)) {e:q9}(hr:RV H b sx=some e):r7 P o a g w H e:=by
 unfold RV at hr;split at hr
 .rename_i i k;unfold WH at hr;split at hr
  .rename_i s n hb;cases hr;obtain⟨p,hp,hp0,hh,hS⟩:=hH.blk i _ hb;obtain⟨q,hq,hv⟩:=xI hx.1;rw[hp] at hq;obtain rfl:=aQH hq;rw[hp0] at hv;by_cases hl:n<s.length
   .have hsz:n<(⟨s.toArray⟩:ByteArray).size:=by simpa[ByteArray.size] using hl
    refine r7.value (v:= .tuple #[.bool true,.int .i64 (n:Int),.int .i32 (vS s n)]) (w':={w with heap:=w.heap.setIfInBounds p.1 (.stringIter ⟨s.toArray⟩ (yG s n))}) ?_ (rL.updIter hT hH hb hp hp0 hh hS ⟨⟨fun _=>rfl,fun h=>absurd hl (of_decide_eq_false h)⟩,trivial⟩)
    unfold execOp;rw[ho];have hrn:yG s n=n+(Utf8.decode ⟨s.toArray⟩ n).2:=by unfold yG WF;rw[aQI hl]
    simp only[Instr.next,hv,aQS,aAm hh,aQK,hsz,aR4,aI4 _ hh,aQ6,hrn];rfl
   .have hsz: ¬n<(⟨s.toArray⟩:ByteArray).size:=by simpa[ByteArray.size] using hl
    have hrn:yG s n=n:=by unfold yG;rw[aQO hl]
    have hw:({w with heap:=w.heap.setIfInBounds p.1 (.stringIter ⟨s.toArray⟩ (yG s n))}:pB)=w:=by
     rw[hrn];have:w.heap.setIfInBounds p.1 (.stringIter ⟨s.toArray⟩ n)=w.heap:=by
      obtain⟨h1,h2⟩:=aQ1.1 hh;apply Array.ext_getElem?;intro j;rw[aSh];split
      .rename_i hj;subst hj;first|rw[hh] |rw[aQI h1,hh]
      .rfl
     rw[this]
    refine r7.value (v:= .tuple #[.bool false]) (w':={w with heap:=w.heap.setIfInBounds p.1 (.stringIter ⟨s.toArray⟩ (yG s n))}) ?_ (rL.updIter hT hH hb hp hp0 hh hS ⟨⟨fun h=>absurd (aRk h) hl,fun _=>rfl⟩,trivial⟩)
    rw[hw];unfold execOp;rw[ho];simp only[Instr.next,hv,aQS,aAm hh,aQK,hsz,aSF,aQ6]
  .cases hr
 .cases hr
end
def pX:Nat->List pM->rH
 |_,[]=>[]
 |c,b::L=>(c,b)::pX (c+1) L
theorem SE: ∀(L:List pM) (c i:Nat),pQ (pX c L) i=if c<=i then L[i-c]? else none
 |[],c,i=>by simp [pX,pQ]
 |b::L,c,i=>by
  simp only[pX,pQ];by_cases h:c=i
  .subst h;simp
  .rw[aQO h,SE L (c+1) i];by_cases h2:c<=i
   .rw[aQI h2,aQI oW];obtain⟨d,hd⟩: ∃d,i-c=d+1:=⟨i-c-1,oW⟩;rw[hd,aRi];congr 1;omega
   .rw[aQO h2,aQO oW]
theorem vE (L:List pM) (i:Nat):pQ (pX 0 L) i=L[i]? :=by rw[SE];simp
def wB (g:Gh) (H:rH) (b o:Nat):Prop:= ∃i blk,pQ H i=some blk/\rK g i blk b o
def uB (g:Gh) (w:pB):List pN->p7->Prop
 |[],vs=>vs=[]
 |s::ss,vs=> ∃v vs',vs=v::vs'/\rD g w s v/\uB g w ss vs'
def N9 (g:Gh) (w:pB):List pN->pC->Prop
 |[s],v=>rD g w s v
 |l,v=> ∃vs:p7,v= .tuple vs.toArray/\uB g w l vs
structure BG (g:Gh) (w:pB) (L:List pM) (r:pR) (g':Gh) (w':pB) (v:pC):Prop where
 shut: ∀b o,g.S b o->g'.S b o/\w'.cell? ⟨b,o,none⟩=w.cell? ⟨b,o,none⟩
 heap:rR g' w' (pX 0 r.H)
 ret:N9 g' w' r.ret v
 fr:Fr (wB g (pX 0 L)) w w' g.S g'.S
 perm: ∀i blk b o,r.H[i]? =some blk->rK g' i blk b o->w.heap.size<=b\/wB g (pX 0 L) b o
 J: ∀(i:Nat) t x ts,L[i]? =some (.cells t x ts)->g'.J i=g.J i
 ty: ∀(i:Nat) t x ts u y us,L[i]? =some (.cells t x ts)->r.H[i]? =some (.cells u y us)->u=t
 Jt: ∀i p,i<L.length->g.J i=some p->g'.J i=some p
 cur: ∀i n u,i<L.length->g.cur i n=some u->g'.cur i n=some u
def v7 (P:Program) (f:FuncId) (C:List pN->List pM->Option pR):Prop:=
 (∀args w,(callFunc f args).run P w= .ok (.enter f args) w)/\
 ∀(g:Gh) (w:pB) (args:List pN) (vals:p7) (L:List pM) (r:pR),rR g w (pX 0 L)->uB g w args vals->C args L=some r->(∀p∈r.side,p)->
  Calls P f vals.toArray w (fun e w'=> ∃v g',e= .returned v/\BG g w L r g' w' v)
def SF (P:Program) (f:FuncId) (F:(t:Ty)->List t.den->Option (List t.den)):Prop:=
 ∀(g:Gh) (w:pB) (e:TypeId) (t:Ty) (l l':List t.den) (v:pC) (n:Nat) (xs:p7),AE w->w.ownsRow 0 e t.cells v n xs->sQ (Rd g w t) t.cells l xs->l.length=n->n<4611686018427387904->F t l=some l'->
  Calls P f #[v] w (fun en w'=>en= .returned (.tuple #[])/\l'.length=n/\∃xs',w'.ownsRow 0 e t.cells v n xs'/\sQ (Rd g w t) t.cells l' xs'/\w.grownBy w' v.ownBlock)
def AL (P:Program) (Γ:sP):Prop:= ∀f s,f<1000000000->Γ f=some s->v7 P f s.C/\∀F,s.row=some F->SF P f F
theorem aAn {g:Gh}{w:pB}{t:Ty}{x:t.den}{v:pC}{k:p9}(h:rD g w (.val t x,k) v):rD g w (.val t x,CB t k) v:=by
 refine⟨h.1,?_⟩;cases t with
 |list u=>exact h.2
 |_=>trivial
theorem aI7 {t:Ty}{k:p9}: ∀c,CB t k=some c->∃u,t= .list u:=by
 cases t with
 |list u=>exact fun _ _=>⟨u,rfl⟩
 |_=>intro c h;cases h
theorem SG {g g':Gh}{w:pB}(hS:g'.S=g.S) {t:Ty}(hp:t.pure=true) {x:t.den}{v:pC}{k k':p9}(hl: ∀c,k=some c->∃u,t= .list u) (h:rD g w (.val t x,k) v) (hk: ∀c,k=some c->∃c',k'=some c'/\∀n u,g.cur c n=some u->g'.cur c' n=some u) (hk0:k=none->k'=none):rD g' w (.val t x,k') v:=by
 have hv:sM g' w t x v:=h.1.imp (fun⟨a,cs,e,q⟩=>⟨a,cs,e,uO hS hp q⟩) (fun⟨a,q⟩=>⟨a,uO hS hp q⟩);refine⟨hv,?_⟩;cases k with
 |none=>rw[hk0 rfl];trivial
 |some c=>
  obtain⟨c',rfl,h2⟩:=hk c rfl;have h1:=h.2;cases t with
  |list u=>exact h2 _ _ h1
  |pair a b=>obtain⟨u,e⟩:=hl c rfl;cases e
  |_=>exact h1.elim
section
variable {P:Program}{o:Oper}{a:Act}{g:Gh}{w:pB}{H:rH}{T:rW}{Γ:sP}(hT:vK P T) (hΓ:AL P Γ) (hH:rR g w H)
include hT hΓ hH
theorem XE {ti:Option TI}{s:pN}{v:pC}(h:rD g w s v):rD g w (JG ti s) v:=by
 unfold JG;split
 .have:v= .slice none 0 0:=h.1;subst this;exact⟨.inr ⟨rfl,none,0,rfl,aQ4 _,.inl rfl⟩,trivial⟩
 .exact h
theorem aAo {ρ:Operand->pN}: ∀{xs:List Operand}{ts:List TypeId},xs.length=ts.length->(∀x∈xs,rD g w (ρ x) (a.eval x))->uB g w (DM T ρ xs ts) (xs.map a.eval)
 |[],[],_,_=>rfl
 |x::xs,t::ts,h,hx=>⟨_,_,rfl,XE hT hΓ hH (hx x oY),aAo (by simpa using h) (fun y hy=>hx y (by simp [hy]))⟩
theorem aI8 {l m:List pN}{vs us:p7}(h:uB g w l vs) (k:uB g w m us):uB g w (l++m) (vs++us):=by
 induction l generalizing vs with
 |nil=>rw[show vs=[] from h];exact k
 |cons s l ih=>
  obtain⟨v,vs',rfl,h1,h2⟩:=h;exact⟨v,_,rfl,h1,ih h2⟩
theorem aAp: ∀{caps:p5}{vs:p7},wI g caps vs->uB g w (WA caps) vs
 |[],_,h=>h
 |(i,o)::caps,_,⟨p,vs',h1,h2,h3⟩=>⟨_,_,h2,⟨.inr ⟨rfl,p,h1,rfl⟩,trivial⟩,aAp h3⟩
end
theorem aAq {P:Program}{o:Oper}{a:Act}{f:FuncId}{fop:Operand}{args:Array Operand}{tys:Array TypeId}(ho:o.op= .call ⟨.value fop,args,tys⟩) {caps:p7}(hf:a.eval fop= .func (.func f) #[] caps.toArray)
  (hen: ∀args w,(callFunc f args).run P w= .ok (.enter f args) w) {w:pB}{K:Act->pB->Prop}{Q:Exit->Act->pB->Prop}
  (h:Calls P f ((args.toList.map a.eval)++caps).toArray w (fun e w'=> ∃v,e= .returned v/\K (a.put o.dst v) w')):o.wp P a w K Q:=by
 unfold Oper.wp;have:(execOp a.eval o).run P w= .ok (.enter f ((args.toList.map a.eval)++caps).toArray) w:=by
  unfold execOp;rw[ho];simp only[resolve,hf,Deferred.ofValue,aQS,aQ6,aQK,invoke];rw[hen];congr 2;apply aRA.1;simp
 rw[this];unfold Oper.upon;refine h.mono fun e w' ⟨v,he,hk⟩=> ?_;subst he;exact hk
def uV (g:Gh):Option rC->Option Pl
 |some (.box i _ _ _ o)=>(g.J i).map fun p=>⟨p.1,p.2+o,p.3⟩
 |some (.tok k)=>g.J k
 |none=>none
def yY (g:Gh):Option rC->Nat->Option pC
 |some (.tok k),n=>g.cur k n
 |_,_=>none
def uE (g:Gh) (ws:List rC):Gh:=⟨g.S,fun c=>uV g ws[c]?,fun c n=>yY g ws[c]? n⟩
def SH (H:rH) (ws:List rC):rC->pM->Prop
 | .box i u x toks o,.cells t y ts=>pQ H i=some (.cells u x toks)/\qZ t u x o=some y/\∀q n,(q,n)∈ts->∃k,ws[n]? =some (.tok k)/\vR toks (o+q)=some k/\q<t.cells
 | .tok k,.grow e c m=>pQ H k=some (.grow e c m)
 | .tok k,.map s t l=>pQ H k=some (.map s t l)/\s.pure=true/\t.pure=true
 | .tok k,.row e t l n=>pQ H k=some (.row e t l n)/\t.pure=true
 |_,_=>False
structure DR (H:rH) (ws:List rC) (L:List pM):Prop where
 len:ws.length=L.length
 ok: ∀(c:Nat) wh b,ws[c]? =some wh->L[c]? =some b->SH H ws wh b
 nodup:(rQ ws).Nodup
def XF (ws:List rC) (t:Ty) (x y:t.den):Prop:=(t.pure=true/\y=x)\/AG ws t x=some y
def SI (H:rH) (ws:List rC):rC->pM->Prop
 | .box i u x toks o,.cells t y ts=>pQ H i=some (.cells u x toks)/\(∃y0,qZ t u x o=some y0/\XF ws t y0 y)/\∀q n,(q,n)∈ts->∃k,ws[n]? =some (.tok k)/\vR toks (o+q)=some k/\q<t.cells
 | .tok k,.grow e c m=>pQ H k=some (.grow e c m)
 | .tok k,.map s t l=>pQ H k=some (.map s t l)/\s.pure=true/\t.pure=true
 | .tok k,.row e t l n=>pQ H k=some (.row e t l n)/\t.pure=true
 |_,_=>False
theorem SJ {i o:Nat}: ∀{ws:List rC}{c0:Nat}{c q:Nat},DI i o ws c0=some (c,q)->∃d u x toks oc,c=c0+d/\ws[d]? =some (.box i u x toks oc)/\o=oc+q
 |[],_,_,_,h=>by simp [DI] at h
 | .box j u x toks oc::r,c0,c,q,h=>by
  simp only[DI] at h;split at h
  .rename_i hc;simp only[aQE,aRc] at h;obtain⟨rfl,rfl⟩:=h;obtain⟨rfl,h2⟩:=hc;exact⟨0,u,x,toks,oc,rfl,rfl,oW⟩
  .obtain⟨d,u',x',toks',oc',h1,h2,h3⟩:=SJ h;exact⟨d+1,u',x',toks',oc',oW,by simpa using h2,h3⟩
 | .tok k::r,c0,c,q,h=>by
  simp only[DI] at h;obtain⟨d,u',x',toks',oc',h1,h2,h3⟩:=SJ h;exact⟨d+1,u',x',toks',oc',oW,by simpa using h2,h3⟩
theorem K4 {i:Nat}: ∀{ws:List rC}{c0 c:Nat},uX i ws c0=some c->∃d,c=c0+d/\ws[d]? =some (.tok i)
 |[],_,_,h=>by simp [uX] at h
 | .tok j::r,c0,c,h=>by
  simp only[uX] at h;split at h
  .rename_i hc;simp only[aQE] at h;subst h;subst hc;exact⟨0,rfl,rfl⟩
  .obtain⟨d,h1,h2⟩:=K4 h;exact⟨d+1,oW,by simpa using h2⟩
 | .box _ _ _ _ _::r,c0,c,h=>by
  simp only[uX] at h;obtain⟨d,h1,h2⟩:=K4 h;exact⟨d+1,oW,by simpa using h2⟩
theorem XG {α β:Type}{a:Option α}{b:Option β}{p:α×β}(h:H5 a b=some p):a=some p.1/\b=some p.2:=by
 cases a<;>cases b<;>simp [H5] at h
 subst h;exact⟨rfl,rfl⟩
theorem aI9 {x y:Option (Nat×p5)}(h:M9 x=some y):y=x/\∀f l,x=some (f,l)->l=[]:=by
 unfold M9 at h;split at h
 .cases h;exact⟨rfl,fun _ _ h=>by cases h⟩
 .cases h;exact⟨rfl,fun _ _ h=>by cases h;rfl⟩
 .cases h
theorem aJa {g g':Gh}{x:Option (Nat×p5)}{cs:p7}(hx: ∀f l,x=some (f,l)->l=[]) (h:MW g x cs):MW g' x cs:=by
 cases x with
 |none=>exact h
 |some q=>
  obtain⟨f,l⟩:=q;obtain rfl:=hx f l rfl;exact h
theorem SK {g g':Gh}{w:pB}(hS:g'.S=g.S) (f:(t:Ty)->t.den->Option t.den)
  (hp: ∀a b x,f (.pair a b) x=H5 (if a.pure=true then some x.1 else f a x.1) (if b.pure=true then some x.2 else f b x.2))
  (hl: ∀t x,f (.list t) x=if t.pure=true then some x else none) (hb: ∀x,f .bool x=some x) (hi: ∀k x,f (.int k) x=some x) (hs: ∀x,f .str x=some x) (hu: ∀x,f .unit x=some x) (hfn: ∀x,f .fn x=some x) (hrl: ∀e t x y cs,f (.rl e t) x=some y->CH g x cs->CH g' y cs) (hmr: ∀x y cs,f .mref x=some y->MX g x cs->MX g' y cs)
  (hr: ∀x y cs,f .ref x=some y->MV g x cs->MV g' y cs) (hm: ∀x y cs,f .mp x=some y->HJ g x cs->HJ g' y cs) (hc: ∀x,f .clo x=M9 x):
  ∀{t:Ty}{x y:t.den}{cs:p7},Rd g w t x cs->f t x=some y->Rd g' w t y cs
 | .bool,_,_,_,r,h=>by rw[hb] at h;cases h;exact r
 | .int _,_,_,_,r,h=>by rw[hi] at h;cases h;exact r
 | .str,_,_,_,r,h=>by rw[hs] at h;cases h;exact r
 | .unit,_,_,_,r,h=>by rw[hu] at h;cases h;exact r
 | .rl e t,x,y,_,r,h=>hrl e t x y _ h r
 | .fn,_,_,_,r,h=>by rw[hfn] at h;cases h;exact r
 | .mref,x,y,_,r,h=>hmr x y _ h r
 | .list t,x,y,_,r,h=>by
  rw[hl] at h;split at h
  .rename_i hpu;cases h;exact uO hS (t:= .list t) (by simpa[Ty.pure] using hpu) r
  .cases h
 | .ref,x,y,_,r,h=>hr x y _ h r
 | .clo,x,y,_,r,h=>by
  rw[hc] at h;obtain⟨rfl,h2⟩:=aI9 h;exact aJa h2 r
 | .mp,x,y,_,r,h=>hm x y _ h r
 | .pair a b,x,y,_,⟨c1,c2,e,r1,r2⟩,h=>by
  rw[hp] at h;obtain⟨h1,h2⟩:=XG h;refine⟨c1,c2,e,?_,?_⟩
  .split at h1
   .rename_i hpu;exact(aQH h1)▸uO hS hpu r1
   .exact SK hS f hp hl hb hi hs hu hfn hrl hmr hr hm hc r1 h1
  .split at h2
   .rename_i hpu;exact(aQH h2)▸uO hS hpu r2
   .exact SK hS f hp hl hb hi hs hu hfn hrl hmr hr hm hc r2 h2
theorem XH (f:(t:Ty)->t.den->Option t.den)
  (hp: ∀a b x,f (.pair a b) x=H5 (if a.pure=true then some x.1 else f a x.1) (if b.pure=true then some x.2 else f b x.2))
  (hl: ∀t x,f (.list t) x=if t.pure=true then some x else none) {u:Ty}: ∀{t:Ty}{x y:t.den}{o:Nat}{l:List u.den},f t x=some y->qZ (.list u) t x o=some l->qZ (.list u) t y o=some l:=by
 intro t
 induction t with
 |pair a b iha ihb=>
  intro x y o l h hg;rw[hp] at h;obtain⟨h1,h2⟩:=XG h;have key: ∀z:(Ty.pair a b).den,∀q,qZ (.list u) (.pair a b) z q=if q<a.cells then qZ (.list u) a z.1 q else qZ (.list u) b z.2 (q-a.cells):=by
   intro z q;cases q with
   |zero=>
    conv=>lhs;unfold qZ
    rw[aSe (by intro e;cases e),Nat.zero_sub]
   |succ q=>simp [qZ]
  rw[key] at hg|-;split
  .rename_i ho;rw[aQI ho] at hg;split at h1
   .rw[<-aQH h1];exact hg
   .exact iha h1 hg
  .rename_i ho;rw[aQO ho] at hg;split at h2
   .rw[<-aQH h2];exact hg
   .exact ihb h2 hg
 |list v=>
  intro x y o l h hg;rw[hl] at h;split at h
  .cases h;exact hg
  .cases h
 |_=>
  intro x y o l h hg;cases o with
  |zero=>
   unfold qZ at hg;split at hg
   .rename_i e;cases e
   .cases hg
  |succ o=>simp [qZ] at hg
theorem aJb {g:Gh}{w:pB}{ws:List rC}{t:Ty}{x y:t.den}{cs:p7}(r:Rd g w t x cs) (h:AG ws t x=some y):Rd (uE g ws) w t y cs:=by
 refine SK (g:=g) (g':=uE g ws) rfl (AG ws) (fun a b x=>rfl) (fun t x=>rfl) (fun _=>rfl) (fun _ _=>rfl) (fun _=>rfl) (fun _=>rfl) (fun _=>rfl) (fun _ _ x y cs h r=> ?_) (fun x y cs h r=> ?_) (fun x y cs h r=> ?_) (fun x y cs h r=> ?_) (fun _=>rfl) r h
 .cases x with
  |none=>cases h;exact r
  |some q=>
   obtain⟨k,n⟩:=q;simp only[AG,a83] at h;cases hc:uX k ws 0 with
   |none=>rw[hc] at h;cases h
   |some c=>
    rw[hc] at h;cases h;obtain⟨d,rfl,h2⟩:=K4 hc;obtain⟨v,hv,hs⟩:=r;refine⟨v,?_,hs⟩;show yY g ws[0+d]? n=_;rw[aRf,h2];exact hv
 .cases x with
  |none=>cases h;exact r
  |some q=>
   obtain⟨i,o⟩:=q;simp only[AG,QT] at h;cases hc:DI i o ws 0 with
   |none=>rw[hc] at h;cases h
   |some q=>
    obtain⟨c,q⟩:=q;rw[hc] at h;cases h;obtain⟨d,u,x,toks,oc,rfl,h2,rfl⟩:=SJ hc;obtain⟨p,hp,hv⟩:=r;refine⟨⟨p.1,p.2+oc,p.3⟩,?_,by have:=hv.1;rwa [<-aRm] at this,hv.2.imp id fun hv=>by rw[hv];simp [aRm]⟩;show uV g ws[0+d]? =_;rw[aRf,h2];simp [uV,hp]
 .cases x with
  |none=>cases h;exact r
  |some q=>
   obtain⟨i,o⟩:=q;simp only[AG,QT] at h;cases hc:DI i o ws 0 with
   |none=>rw[hc] at h;cases h
   |some q=>
    obtain⟨c,q⟩:=q;rw[hc] at h;cases h;obtain⟨d,u,x,toks,oc,rfl,h2,rfl⟩:=SJ hc;obtain⟨p,hp,hv⟩:=r;refine⟨⟨p.1,p.2+oc,p.3⟩,?_,by rw[hv];simp [aRm]⟩;show uV g ws[0+d]? =_;rw[aRf,h2];simp [uV,hp]
 .cases x with
  |none=>cases h;exact r
  |some i=>
   simp only[AG,a82] at h;cases hc:uX i ws 0 with
   |none=>rw[hc] at h;cases h
   |some c=>
    rw[hc] at h;cases h;obtain⟨d,rfl,h2⟩:=K4 hc;obtain⟨p,hp,hv⟩:=r;refine⟨p,?_,hv⟩;show uV g ws[0+d]? =_;rw[aRf,h2];exact hp
theorem aJc {g:Gh}{w:pB}{ws:List rC}{t:Ty}{x y:t.den}{cs:p7}(h:XF ws t x y) (r:Rd g w t x cs):Rd (uE g ws) w t y cs:=by
 rcases h with⟨hp,rfl⟩ |h
 .exact uO (g:=g) (g':=uE g ws) rfl hp r
 .exact aJb r h
theorem aJd {ws:List rC}{t u:Ty}{x y:t.den}{o:Nat}{l:List u.den}(h:XF ws t x y) (hg:qZ (.list u) t x o=some l):qZ (.list u) t y o=some l:=by
 rcases h with⟨_,rfl⟩ |h
 .exact hg
 .exact XH (AG ws) (fun _ _ _=>rfl) (fun _ _=>rfl) h hg
structure NA (H:rH) (ws:List rC) (L:List pM):Prop where
 len:ws.length=L.length
 ok: ∀(c:Nat) wh b,ws[c]? =some wh->L[c]? =some b->SI H ws wh b
 nodup:(rQ ws).Nodup
theorem XI: ∀(ws:List rC) (c:Nat),(rQ ws)[c]? =(ws[c]?).map rC.id
 |[],c=>by simp [rQ]
 |w::ws,0=>rfl
 |w::ws,c+1=>by simpa[rQ] using XI ws c
theorem FI: ∀ws ws':List rC,rQ (ws++ws')=rQ ws++rQ ws'
 |[],_=>rfl
 |w::ws,ws'=>by simp [rQ,FI ws ws']
theorem FJ: ∀{i:Nat}{l:pA},zK i l=true↔i∈l
 |i,[]=>by simp [zK]
 |i,j::r=>by
  simp only[zK,aQV];by_cases h:i=j
  .simp [h]
  .rw[aQO h,FJ];simp [h]
theorem SL {ws:List rC}(h:(rQ ws).Nodup) {c c':Nat}{x y:rC}(hx:ws[c]? =some x) (hy:ws[c']? =some y) (he:x.id=y.id):c=c':=by
 have h1:(rQ ws)[c]? =some x.id:=by rw[XI,hx];rfl
 have h2:(rQ ws)[c']? =some x.id:=by rw[XI,hy,he];rfl
 obtain⟨l1,e1⟩:=aQP.1 h1;obtain⟨l2,e2⟩:=aQP.1 h2;have hp:=aSp.1 h;rcases Nat.lt_trichotomy c c' with h3|h3|h3
 .exact absurd (e1.trans e2.symm) (hp c c' l1 l2 h3)
 .exact h3
 .exact absurd (e2.trans e1.symm) (hp c' c l2 l1 h3)
theorem aAr: ∀{toks:p5}{q k:Nat},vR toks q=some k->(q,k)∈toks
 |[],_,_,h=>by simp [vR] at h
 |(q',k')::r,q,k,h=>by
  simp only[vR] at h;split at h
  .rename_i e;subst e;simp only[aQE] at h;subst h;simp
  .exact aQZ _ (aAr h)
theorem aJe {v t:Ty}: ∀{u:Ty}{x:u.den}{o q:Nat}{y:t.den}{l:(Ty.list v).den},qZ t u x o=some y->qZ (.list v) u x (o+q)=some l->q<t.cells->qZ (.list v) t y q=some l:=by
 intro u
 induction u with
 |pair a b iha ihb=>
  intro x o q y l h g hq;by_cases hu:o=0/\t= .pair a b
  .obtain⟨rfl,rfl⟩:=hu;unfold qZ at h;rw[aSC rfl] at h;simp only[tI,aQE] at h;subst h;simpa using g
  .have keyh:(if o<a.cells then qZ t a x.1 o else qZ t b x.2 (o-a.cells))=some y:=by
    cases o with
    |zero=>
     unfold qZ at h;rw[aSe (fun e=>hu ⟨rfl,e.symm⟩)] at h;simpa using h
    |succ o=>simpa[qZ] using h
   have keyg: ∀z,qZ (.list v) (.pair a b) x z=(if z<a.cells then qZ (.list v) a x.1 z else qZ (.list v) b x.2 (z-a.cells)):=by
    intro z;cases z with
    |zero=>
     conv=>lhs;unfold qZ
     rw[aSe (by intro e;cases e),Nat.zero_sub]
    |succ z=>simp [qZ]
   rw[keyg] at g;by_cases ho:o<a.cells
   .rw[aQI ho] at keyh;have hfit:o+t.cells<=a.cells:=by
     have: ∀{u:Ty}{x:u.den}{o:Nat}{y:t.den},qZ t u x o=some y->o+t.cells<=u.cells:=by
      intro u
      induction u with
      |pair a b iha ihb=>
       intro x o y h;have key: ∀o,(if o<a.cells then qZ t a x.1 o else qZ t b x.2 (o-a.cells))=some y->o+t.cells<=a.cells+b.cells:=by
        intro o h;by_cases ho:o<a.cells
        .rw[aQI ho] at h;have:=iha h;omega
        .rw[aQO ho] at h;have:=ihb h;omega
       cases o with
       |zero=>
        unfold qZ at h;split at h
        .rename_i e;subst e;simp
        .exact key 0 (by simpa using h)
       |succ o=>exact key (o+1) (by simpa[qZ] using h)
      |_=>
       intro x o y h;cases o with
       |zero=>
        unfold qZ at h;split at h
        .rename_i e;subst e;simp
        .simp at h
       |succ o=>simp [qZ] at h
     exact this keyh
    rw[aQI oW] at g;exact iha keyh g hq
   .rw[aQO ho] at keyh;rw[aQO oW,show o+q-a.cells=o-a.cells+q from by omega] at g;exact ihb keyh g hq
 |_=>
  intro x o q y l h g hq;cases o with
  |zero=>
   unfold qZ at h;split at h
   .rename_i e;subst e;simp only[tI,aQE] at h
    try subst h
    simpa using g
   .simp at h
  |succ o=>simp [qZ] at h
theorem aJf {g:Gh}{w:pB}{H:rH}{ws:List rC}{L:List pM}(hH:rR g w H) (hm:NA H ws L):rR (uE g ws) w (pX 0 L):=by
 have wsL: ∀c b,pQ (pX 0 L) c=some b->∃wh,ws[c]? =some wh/\SI H ws wh b:=by
  intro c b h;rw[vE] at h;have hlt:c<ws.length:=hm.len▸(aQP.1 h).1;exact⟨ws[c],aQM hlt,hm.ok c _ b (aQM hlt) h⟩
 have own: ∀c b wh,ws[c]? =some wh->SI H ws wh b->∀bb oo,rK (uE g ws) c b bb oo->∃blk,pQ H wh.id=some blk/\rK g wh.id blk bb oo:=by
  intro c b wh hwh hw bb oo ho;cases wh with
  |box i u x toks off=>
   cases b with
   |cells t y ts=>
    obtain⟨h1,⟨y0,h2,h3⟩,h4⟩:=hw;obtain⟨p,hp,e1,e2,e3⟩:=ho;have hp':uV g ws[c]? =some p:=hp;rw[hwh] at hp';obtain⟨p0,hp0,rfl⟩:=aQQ.1 hp';obtain⟨p1,cs,hp1,hR,_⟩:=hH.blk i _ h1;obtain⟨c1,c2,c3,hcs,hl,hR2⟩:=BC hR h2;have l1:=s3 hR;have l2:=s3 hR2;rw[hcs] at l1;simp only[aQG] at l1;exact⟨_,h1,p0,hp0,e1,by simp at e2;omega,by simp at e3;omega⟩
   |_=>exact hw.elim
  |tok k=>
   cases b with
   |grow e cc m=>
    obtain⟨v,hv,hb⟩:=ho;have hv':yY g ws[c]? m=some v:=hv;rw[hwh] at hv';exact⟨_,hw,v,hv',hb⟩
   |map s t l=>
    obtain⟨p,hp,hb⟩:=ho;have hp':uV g ws[c]? =some p:=hp;rw[hwh] at hp';exact⟨_,hw.1,p,hp',hb⟩
   |row e t l m=>
    obtain⟨v,hv,hb⟩:=ho;have hv':yY g ws[c]? m=some v:=hv;rw[hwh] at hv';exact⟨_,hw.1,v,hv',hb⟩
   |_=>exact hw.elim
 refine⟨fun c b h=> ?_,fun c c' b b' bb oo hne h1 h2 o1 o2=> ?_,hH.sl,hH.tab.1,fun c b bb oo h ho=> ?_⟩
 rotate_right
 .obtain⟨wh,hwh,hw⟩:=wsL c b h;obtain⟨k1,g1,p1⟩:=own c b wh hwh hw bb oo ho;exact hH.tab.2 _ _ bb oo g1 p1
 .obtain⟨wh,hwh,hw⟩:=wsL c b h;cases wh with
  |box i u x toks off=>
   cases b with
   |cells t y ts=>
    obtain⟨h1,⟨y0,h2,h3⟩,h4⟩:=hw;obtain⟨p,cs,hp,hR,hra,hth,hns,htk⟩:=hH.blk i _ h1;obtain⟨c1,c2,c3,rfl,rfl,hR2⟩:=BC hR h2;have l1:=s3 hR;have l2:=s3 hR2;simp only[aQG] at l1;refine⟨⟨p.1,p.2+c1.length,p.3⟩,c2,?_,aJc h3 hR2,fun j v hv=> ?_,⟨fun j hj=> ?_,fun h0 s hs=>hth.2 oW s hs⟩,fun j hj hs=> ?_,fun q n hm'=> ?_⟩
    .show uV g ws[c]? =_;rw[hwh];simp [uV,hp]
    .have:=hra (c1.length+j) v (by
      have hj':=(aQP.1 hv).1;rw[aQR,aQN oW,aRr,aQT hj'];exact hv)
     rw[aRm];exact this
    .have:=hth.1 (c1.length+j) oW;rw[aRm];exact this
    .exact hns (c1.length+j) oW (by rw[<-aRm];exact hs)
    .obtain⟨k,k1,k2,k3⟩:=h4 q n hm';have hmem:(c1.length+q,k)∈toks:=aAr k2;obtain⟨u',l,v,g1,g2,g3⟩:=htk _ _ hmem;refine⟨u',l,v,aJd h3 (aJe h2 g1 k3),?_,?_⟩
     .rw[aQR,aQN oW,aRr,aQT oW] at g2;exact g2
     .show yY g ws[n]? _=_;rw[k1];exact g3
   |_=>exact hw.elim
  |tok k=>
   cases b with
   |grow e cc m=>
    have e1:(uE g ws).cur c=g.cur k:=by
     funext n;show yY g ws[c]? n=_;rw[hwh];rfl
    obtain⟨v,xs,hv,hr,hn,hs⟩:=hH.blk k _ hw;exact⟨v,xs,by rw[e1];exact hv,hr,fun m hm'=>by rw[e1];exact hn m hm',hs⟩
   |map s t l=>
    obtain⟨p,es,cl,hp,hp0,hh,hM,hS⟩:=hH.blk k _ hw.1;refine⟨p,es,cl,?_,hp0,hh,MY (g:=g) (g':=uE g ws) rfl hw.2.1 hw.2.2 hM,hS⟩;show uV g ws[c]? =_;rw[hwh];exact hp
   |row e t l m=>
    have e1:(uE g ws).cur c=g.cur k:=by
     funext n;show yY g ws[c]? n=_;rw[hwh];rfl
    obtain⟨hl,v,xs,hv,hr,hF,hn,hs⟩:=hH.blk k _ hw.1;exact⟨hl,v,xs,by rw[e1];exact hv,hr,AJ (fun _ _ h=>uO (g:=g) (g':=uE g ws) rfl hw.2 h) hF,fun m hm'=>by rw[e1];exact hn m hm',hs⟩
   |_=>exact hw.elim
 .obtain⟨wh,hwh,hw⟩:=wsL c b h1;obtain⟨wh',hwh',hw'⟩:=wsL c' b' h2;obtain⟨k1,g1,p1⟩:=own c b wh hwh hw bb oo o1;obtain⟨k2,g2,p2⟩:=own c' b' wh' hwh' hw' bb oo o2;exact hH.dis wh.id wh'.id k1 k2 bb oo (fun e=>hne (SL hm.nodup hwh hwh' e)) g1 g2 p1 p2
theorem aAs {H:rH}{ws more:List rC}: ∀{wh:rC}{b:pM},SH H ws wh b->SH H (ws++more) wh b
 | .box _ _ _ _ _,.cells _ _ _,⟨h1,h2,h4⟩=>⟨h1,h2,fun q n h=>let ⟨k,k1,k2⟩:=h4 q n h;⟨k,by rw[aQT (aQP.1 k1).1];exact k1,k2⟩⟩
 | .box _ _ _ _ _,.grow _ _ _,h=>h.elim
 | .box _ _ _ _ _,.dead,h=>h.elim
 | .box _ _ _ _ _,.row _ _ _ _,h=>h.elim
 | .box _ _ _ _ _,.map _ _ _,h=>h.elim
 | .box _ _ _ _ _,.iter _ _,h=>h.elim
 | .tok _,.iter _ _,h=>h.elim
 | .tok _,.row _ _ _ _,h=>h
 | .tok _,.grow _ _ _,h=>h
 | .tok _,.map _ _ _,h=>h
 | .tok _,.cells _ _ _,h=>h.elim
 | .tok _,.dead,h=>h.elim
theorem K5 (g:Gh) (w:pB) (ws more:List rC):Le (uE g ws) w (uE g (ws++more)) w:=by
 refine⟨fun _ _ h=>h,fun _ _ _=>rfl,fun c p h=> ?_,fun c n v h=> ?_⟩
 .have h':uV g ws[c]? =some p:=h;show uV g (ws++more)[c]? =some p;cases hc:ws[c]? with
  |none=>rw[hc] at h';cases h'
  |some wh=>rw[aQT (aQP.1 hc).1];exact h'
 .have h':yY g ws[c]? n=some v:=h;show yY g (ws++more)[c]? n=some v;cases hc:ws[c]? with
  |none=>rw[hc] at h';cases h'
  |some wh=>rw[aQT (aQP.1 hc).1];exact h'
theorem K6 {g g':Gh}{w w':pB}(h:Le g w g' w'): ∀{ss:List pN}{vs:p7},uB g w ss vs->uB g' w' ss vs
 |[],_,r=>r
 |_::_,_,⟨v,vs',e,r1,r2⟩=>⟨v,vs',e,yW h r1,K6 h r2⟩
theorem DS {g:Gh}{w:pB}: ∀{ss:List pN}{vs:p7}{s:pN}{v:pC},uB g w ss vs->rD g w s v->uB g w (ss++[s]) (vs++[v])
 |[],_,_,_,h,k=>by rw[show _=[] from h];exact⟨_,_,rfl,k,rfl⟩
 |_::_,_,_,_,⟨v,vs',e,r1,r2⟩,k=>⟨v,vs'++_,by rw[e];rfl,r1,DS r2 k⟩
theorem DR.tok {H:rH}{ws:List rC}{L:List pM}(h:DR H ws L) {k:Nat}{b0:pM}(hk:SH H (ws++[.tok k]) (.tok k) b0) (hn:k∉rQ ws):DR H (ws++[.tok k]) (L++[b0]):=by
 refine⟨by simp [h.len],fun i wh b h1 h2=> ?_,?_⟩
 .by_cases hi:i<ws.length
  .rw[aQT hi] at h1;rw[aQT (h.len▸hi)] at h2;exact aAs (h.ok i wh b h1 h2)
  .rw[aQN oW] at h1;rw[aQN (by rw[<-h.len];omega),<-h.len] at h2;obtain⟨d,hd⟩: ∃d,i-ws.length=d:=⟨_,rfl⟩;rw[hd] at h1 h2;cases d with
   |zero=>
    simp only[aQ8,aQE] at h1 h2;subst h1;subst h2;exact hk
   |succ d=>simp at h1
 .rw[FI];exact List.nodup_append.2 ⟨h.nodup,by simp [rQ],fun a ha b hb=>by
   simp only[rQ,rC.id,aQ2] at hb;subst hb;intro e;exact hn (e▸ha)⟩
theorem aAt: ∀{os:pA}{n q m:Nat},(q,m)∈H0 os n->∃j:Nat,os[j]? =some q/\m=n+j
 |[],_,_,_,h=>by simp [H0] at h
 |q'::os,n,q,m,h=>by
  simp only[H0,aQV,aRc] at h;rcases h with⟨rfl,rfl⟩ |h
  .exact⟨0,rfl,rfl⟩
  .obtain⟨j,h1,h2⟩:=aAt h;exact⟨j+1,by simpa using h1,oW⟩
theorem aAu {n:Nat}: ∀{os:pA}{j q:Nat},JH n os=true->os[j]? =some q->q<n
 |[],_,_,_,h=>by simp at h
 |q'::os,0,q,h,h2=>by
  simp only[JH,aQU,aQY] at h;simp only[aQ8,aQE] at h2;exact h2▸h.1
 |q'::os,j+1,q,h,h2=>by
  simp only[JH,aQU] at h;exact aAu h.2 (by simpa using h2)
theorem SM {H:rH}{toks:p5}{o:Nat}: ∀{os:pA}{a a':sF},wP H toks o os (some a)=some a'->
  ∃(ks:pA) (bs:List pM),ks.length=os.length/\bs.length=os.length/\a'.args=a.args/\a'.H.reverse=a.H.reverse++bs/\a'.ws.reverse=a.ws.reverse++ks.map rC.tok/\a'.n=a.n+os.length/\
   (∀(j:Nat) q k,os[j]? =some q->ks[j]? =some k->vR toks (o+q)=some k)/\(∀(j:Nat) k b,ks[j]? =some k->bs[j]? =some b->pQ H k=some b/\∃e c m,b= .grow e c m)/\(∀k∈ks,k∉rQ a.ws.reverse)/\ks.Nodup
 |[],a,a',h=>by
  simp only[wP,aQE] at h;subst h;exact⟨[],[],rfl,rfl,rfl,by simp,by simp,rfl,by simp,by simp,by simp,by simp⟩
 |q::os,a,a',h=>by
  simp only[wP] at h;have none_no: ∀os,wP H toks o os none=none:=by
   intro os
   induction os with
   |nil=>rfl
   |cons q os ih=>
    have:xC H (vR toks (o+q)) none=none:=by
     cases vR toks (o+q) with
     |none=>rfl
     |some k=>simp only[xC];cases pQ H k with
      |none=>rfl
      |some b=>cases b<;>rfl
    simp only[wP,this,ih]
  cases hk:vR toks (o+q) with
  |none=>rw[hk] at h;simp only[xC,none_no] at h;cases h
  |some k=>
   rw[hk] at h;simp only[xC] at h;cases hb:pQ H k with
   |none=>rw[hb] at h;simp only[zL,none_no] at h;cases h
   |some b=>
    rw[hb] at h;cases b with
    |grow e c m=>
     simp only[zL] at h;by_cases hm:zK k (rQ a.ws)=true
     .rw[aQI hm,none_no] at h;cases h
     .rw[aQO hm] at h;obtain⟨ks,bs,h1,h2,h3,h4,h5,h6,h7,h8,h9,h10⟩:=SM h;simp only[aRl] at h4 h5 h9;have hrev: ∀ws:List rC,∀i,i∈rQ ws.reverse↔i∈rQ ws:=by
       intro ws i
       induction ws with
       |nil=>simp
       |cons x r ih=>rw[aRl,FI];simp [rQ,ih,or_comm]
      refine⟨k::ks,.grow e c m::bs,by simp [h1],by simp [h2],h3,by rw[h4];simp,by rw[h5];simp,by rw[h6];simp;omega,fun j q' k'=> ?_,fun j k' b'=> ?_,fun k' hk'=> ?_,?_⟩
      .cases j with
       |zero=>intro e1 e2;simp only[aQ8,aQE] at e1 e2;subst e1;subst e2;exact hk
       |succ j=>intro e1 e2;exact h7 j q' k' (by simpa using e1) (by simpa using e2)
      .cases j with
       |zero=>intro e1 e2;simp only[aQ8,aQE] at e1 e2;subst e1;subst e2;exact⟨hb,_,_,_,rfl⟩
       |succ j=>intro e1 e2;exact h8 j k' b' (by simpa using e1) (by simpa using e2)
      .rcases aQV.1 hk' with rfl|hk'
       .rw[hrev];exact fun hmem=>hm (FJ.2 hmem)
       .intro hmem;exact h9 k' hk' (by rw[FI];exact List.mem_append_left _ hmem)
      .refine List.nodup_cons.2 ⟨fun hmem=>h9 k hmem (by rw[FI];simp [rQ,rC.id]),h10⟩
    |cells t y ts=>simp only[zL,none_no] at h;cases h
    |row=>simp only[zL,none_no] at h;cases h
    |map=>simp only[zL,none_no] at h;cases h
    |iter=>simp only[zL,none_no] at h;cases h
    |dead=>simp only[zL,none_no] at h;cases h
theorem aAv: ∀ks:pA,rQ (ks.map rC.tok)=ks
 |[]=>rfl
 |k::ks=>by simp [rQ,rC.id,aAv ks]
theorem DR.box {H:rH}{ws:List rC}{L:List pM}(h:DR H ws L) {t u:Ty}{x:u.den}{y:t.den}{toks:p5}{i o:Nat}{os ks:pA}{bs:List pM}(hi:pQ H i=some (.cells u x toks)) (hy:qZ t u x o=some y) (hlt:JH t.cells os=true) (hn:i∉rQ ws)
  (h1:ks.length=os.length) (h2:bs.length=os.length) (h7: ∀(j:Nat) q k,os[j]? =some q->ks[j]? =some k->vR toks (o+q)=some k) (h8: ∀(j:Nat) k b,ks[j]? =some k->bs[j]? =some b->pQ H k=some b/\∃e c m,b= .grow e c m) (h9: ∀k∈ks,k∉rQ (ws++[.box i u x toks o])) (h10:ks.Nodup):
  DR H ((ws++[.box i u x toks o])++ks.map rC.tok) ((L++[.cells t y (H0 os (ws.length+1))])++bs):=by
 have hlen1:(ws++[rC.box i u x toks o]).length=ws.length+1:=by simp
 have hlen2:(L++[pM.cells t y (H0 os (ws.length+1))]).length=ws.length+1:=by simp [h.len]
 refine⟨by simp [h.len,h1,h2],fun c wh b e1 e2=> ?_,?_⟩
 .by_cases hc:c<ws.length
  .rw[aQT oW,aQT hc] at e1;rw[aQT oW,aQT (h.len▸hc)] at e2;rw[aQR];exact aAs (h.ok c wh b e1 e2)
  .by_cases hc2:c=ws.length
   .subst hc2;rw[aQT oW,aQN (aQ4 _),aSu] at e1;rw[aQT oW,aQN (by rw[h.len];exact aQ4 _),h.len,aSu] at e2;simp only[aQ8,aQE] at e1 e2;subst e1;subst e2;refine⟨hi,hy,fun q n hm=> ?_⟩;rw[<-h.len] at hm;obtain⟨j,hj,rfl⟩:=aAt hm;have hjl:j<ks.length:=by rw[h1];exact(aQP.1 hj).1
    refine⟨ks[j],?_,h7 j q _ hj (aQM hjl),aAu hlt hj⟩;rw[aQN oW,hlen1,show ws.length+1+j- (ws.length+1)=j from by omega];simp [hjl]
   .rw[aQN oW,hlen1] at e1;rw[aQN oW,hlen2] at e2;rw[List.getElem?_map] at e1;obtain⟨k,hk,rfl⟩:=aQQ.1 e1;obtain⟨hg,e,cc,m,rfl⟩:=h8 _ k b hk e2;exact hg
 .rw[FI,aAv];refine List.nodup_append.2 ⟨?_,h10,fun a ha b hb e=>h9 b hb (e▸ha)⟩;rw[FI];exact List.nodup_append.2 ⟨h.nodup,by simp [rQ],fun a ha b hb=>by
   simp only[rQ,rC.id,aQ2] at hb;subst hb;intro e;exact hn (e▸ha)⟩
theorem SN (ws:List rC) (i:Nat):i∈rQ ws.reverse↔i∈rQ ws:=by
 induction ws with
 |nil=>simp
 |cons x r ih=>rw[aRl,FI];simp [rQ,ih,or_comm]
structure yZ (g:Gh) (w:pB) (H:rH) (vals:p7) (a:sF):Prop where
 n:a.n=a.ws.reverse.length
 m:DR H a.ws.reverse a.H.reverse
 args:uB (uE g a.ws.reverse) w a.args.reverse vals
theorem aJg {g:Gh}{w:pB}{ws:List rC}{t:Ty}(hp:t.pure=true) {x:t.den}{v:pC}{k:p9}(h:rD g w (.val t x,k) v):rD (uE g ws) w (.val t x,none) v:=
 ⟨h.1.imp (fun⟨a,cs,e,q⟩=>⟨a,cs,e,uO (g:=g) (g':=uE g ws) rfl hp q⟩) (fun⟨a,q⟩=>⟨a,uO (g:=g) (g':=uE g ws) rfl hp q⟩),trivial⟩
theorem aJh {H:rH}{k:p9}{a b:sF}{l m:List pN}(h:xC H k (some ⟨l,a.H,a.ws,a.n⟩)=some b):b.args=l/\xC H k (some ⟨m,a.H,a.ws,a.n⟩)=some ⟨m,b.H,b.ws,b.n⟩:=by
 cases k with
 |none=>cases h
 |some k=>
  simp only[xC] at h|-;cases hb:pQ H k with
  |none=>rw[hb] at h;simp [zL] at h
  |some bl=>
   rw[hb] at h;cases bl with
   |grow e c n=>
    simp only[zL] at h|-;split at h
    .cases h
    .rename_i hc;rw[aQO hc];cases h;exact⟨rfl,rfl⟩
   |_=>simp [zL] at h
theorem aAw {H:rH}{toks:p5}{o:Nat}{m:List pN}: ∀{os:pA}{a b:sF},wP H toks o os (some a)=some b->b.args=a.args/\wP H toks o os (some ⟨m,a.H,a.ws,a.n⟩)=some ⟨m,b.H,b.ws,b.n⟩
 |[],a,b,h=>by simp only[wP,aQE] at h;subst h;exact⟨rfl,rfl⟩
 |q::os,a,b,h=>by
  simp only[wP] at h|-;have none_no: ∀os,wP H toks o os none=none:=by
   intro os
   induction os with
   |nil=>rfl
   |cons q os ih=>
    have:xC H (vR toks (o+q)) none=none:=by
     cases vR toks (o+q) with
     |none=>rfl
     |some k=>simp only[xC];cases pQ H k with
      |none=>rfl
      |some b=>cases b<;>rfl
    simp only[wP,this,ih]
  cases hm:xC H (vR toks (o+q)) (some a) with
  |none=>rw[hm,none_no] at h;cases h
  |some c=>
   rw[hm] at h;obtain⟨h1,h2⟩:=aJh (a:=a) (l:=a.args) (m:=m) hm;obtain⟨h3,h4⟩:=aAw (m:=m) h;rw[h2];exact⟨h3.trans h1,h4⟩
theorem aJi {H:rH}{t:Ty}{os:pA}{i o:Nat}{a b:sF}{m:List pN}(h:uN H t os i o a (pQ H i)=some b):uN H t os i o ⟨m,a.H,a.ws,a.n⟩ (pQ H i)=some ⟨(.val .ref (some (a.n,0)),none)::m,b.H,b.ws,b.n⟩:=by
 cases hb:pQ H i with
 |none=>rw[hb] at h;simp [uN] at h
 |some bl=>
  rw[hb] at h;cases bl with
  |cells u x toks=>
   simp only[uN] at h|-;cases hy:qZ t u x o with
   |none=>rw[hy] at h;simp [CC] at h
   |some y=>
    rw[hy] at h;simp only[CC] at h|-;split at h
    .rename_i hc;rw[aQI hc];exact(aAw (m:=(.val .ref (some (a.n,0)),none)::m) h).2
    .cases h
  |_=>simp [uN] at h
theorem aAx {g:Gh}{i o:Nat}{p:Pl}{v:pC}: ∀{l:p5}{vs:p7},wI g l vs->g.J i=some p->v= .pointer (some ⟨p.1,p.2+o,none⟩)->wI g (l++[(i,o)]) (vs++[v])
 |[],vs,h,hp,hv=>by rw[show vs=[] from h];exact⟨p,[],hp,by rw[hv];rfl,rfl⟩
 |(_,_)::l,vs,⟨q,vs',h1,h2,h3⟩,hp,hv=>⟨q,vs'++[v],h1,by rw[h2];rfl,aAx h3 hp hv⟩
theorem aAy {α:Type}: ∀(l acc:List α),xB l acc=l.reverse++acc
 |[],_=>rfl
 |x::l,acc=>by simp [xB,aAy l]
theorem aAz {g:Gh}{w:pB}{H:rH}(hH:rR g w H) {t:Ty}{os:pA}{i o:Nat}{vals:p7}{a a':sF}(ha:yZ g w H vals a) {p:Pl}(hp:g.J i=some p) (h:uN H t os i o a (pQ H i)=some a'):
  yZ g w H vals ⟨a.args,a'.H,a'.ws,a'.n⟩/\∃more,a'.ws.reverse=a.ws.reverse++more/\a'.args=(.val .ref (some (a.n,0)),none)::a.args/\(uE g a'.ws.reverse).J a.n=some ⟨p.1,p.2+o,p.3⟩:=by
 cases hb:pQ H i with
 |none=>rw[hb] at h;simp [uN] at h
 |some b=>
  rw[hb] at h;cases b with
  |cells u x toks=>
   simp only[uN] at h;cases hy:qZ t u x o with
   |none=>rw[hy] at h;simp [CC] at h
   |some y=>
    rw[hy] at h;simp only[CC] at h;split at h
    .rename_i hc;simp only[aQU,aRj] at hc;obtain⟨ks,bs,h1,h2,h3,h4,h5,h6,h7,h8,h9,h10⟩:=SM h;simp only[aRl] at h3 h4 h5 h6 h9;have hnm:i∉rQ a.ws.reverse:=fun hmem=>by
      have:=FJ.2 ((SN _ _).1 hmem);rw[hc.2] at this;cases this
     have e5:a'.ws.reverse=a.ws.reverse++([rC.box i u x toks o]++ks.map rC.tok):=by rw[h5];simp only[aQR]
     refine⟨⟨by rw[h6];simp only;rw[h5,ha.n];simp [h1];omega,?_,?_⟩,_,e5,h3,?_⟩
     .simp only;rw[h4,h5,ha.n];exact ha.m.box hb hy hc.1 hnm h1 h2 h7 h8 h9 h10
     .simp only;rw[e5];exact K6 (K5 g w _ _) ha.args
     .show uV g a'.ws.reverse[a.n]? =_;rw[e5,ha.n,aQN (aQ4 _),aSu];show (g.J i).map _=_;rw[hp];rfl
    .cases h
  |grow=>simp [uN] at h
  |row=>simp [uN] at h
  |map=>simp [uN] at h
  |iter=>simp [uN] at h
  |dead=>simp [uN] at h
theorem aAA {H:rH}{f:FuncId}{args0:List pN}: ∀{ks:List (Ty×pA)}{cs ids:p5}{a a':sF},w6 H f args0 ks cs ids (some a)=some a'->∃s more,a'.args=s::args0/\a'.ws.reverse=a.ws.reverse++more
 |[],[],ids,a,a',h=>by
  simp only[w6,aQE] at h;subst h;exact⟨_,[],rfl,by simp⟩
 |[],_::_,_,_,_,h=>by simp [w6] at h
 |_::_,[],_,_,_,h=>by simp [w6] at h
 |(t,os)::ks,(i,o)::cs,ids,a,a',h=>by
  simp only[w6] at h;cases hb:uN H t os i o a (pQ H i) with
  |none=>rw[hb] at h;cases ks<;>cases cs<;>simp [w6] at h
  |some b=>
   rw[hb] at h;obtain⟨s,more,h1,h2⟩:=aAA h;obtain⟨more0,h3⟩: ∃more0,b.ws.reverse=a.ws.reverse++more0:=by
    unfold uN at hb;split at hb
    .unfold CC at hb;split at hb
     .split at hb
      .obtain⟨ks,bs,_,_,_,_,h5,_⟩:=SM hb;exact⟨_,by rw[h5];simp only[aRl];exact aQR ..⟩
      .cases hb
     .cases hb
    .cases hb
   exact⟨s,more0++more,h1,by rw[h2,h3,aQR]⟩
theorem aAB {g:Gh}{w:pB}{H:rH}(hH:rR g w H) {f:FuncId}{args0:List pN}{vals:p7}: ∀{ks:List (Ty×pA)}{cs:p5}{ids:p5}{vs us:p7}{a a':sF},yZ g w H vals ⟨args0,a.H,a.ws,a.n⟩->
  wI g cs vs->wI (uE g a.ws.reverse) ids.reverse us->w6 H f args0 ks cs ids (some a)=some a'->
  yZ g w H vals ⟨args0,a'.H,a'.ws,a'.n⟩/\∃ids',a'.args=(.val .clo (some (f,ids')),none)::args0/\(∃more,a'.ws.reverse=a.ws.reverse++more)/\wI (uE g a'.ws.reverse) ids' (us++vs)
 |[],[],ids,vs,us,a,a',ha,hv,hu,h=>by
  simp only[w6,aAy,List.append_nil,aQE] at h;subst h;rw[show vs=[] from hv,List.append_nil];exact⟨ha,_,rfl,⟨[],by simp⟩,hu⟩
 |[],_::_,_,_,_,_,_,_,_,_,h=>by simp [w6] at h
 |_::_,[],_,_,_,_,_,_,_,_,h=>by simp [w6] at h
 |(t,os)::ks,(i,o)::cs,ids,vs,us,a,a',ha,⟨p,vs',hp,hv1,hv2⟩,hu,h=>by
  simp only[w6] at h;cases hb:uN H t os i o a (pQ H i) with
  |none=>rw[hb] at h;cases ks<;>cases cs<;>simp [w6] at h
  |some b=>
   rw[hb] at h;have hb':uN H t os i o ⟨args0,a.H,a.ws,a.n⟩ (pQ H i)=some ⟨(.val .ref (some (a.n,0)),none)::args0,b.H,b.ws,b.n⟩:=aJi hb;obtain⟨q1,more,q2,q3,q4⟩:=aAz hH ha hp hb';simp only at q1 q2 q3 q4;have hmono:=K5 g w a.ws.reverse more;rw[<-q2] at hmono;have hu2:wI (uE g b.ws.reverse) ((a.n,0)::ids).reverse (us++[.pointer (some ⟨p.1,p.2+o,none⟩)]):=by
    simp only[aRl];exact aAx (WL hmono.J hu) q4 oY
   obtain⟨z1,ids',z2,⟨more',z3⟩,z4⟩:=aAB hH (a:=b) q1 hv2 hu2 h;refine⟨z1,ids',z2,⟨more++more',by rw[z3,q2,aQR]⟩,?_⟩;rw[hv1];rw[aQR] at z4;exact z4
theorem aAC {g:Gh}{w:pB}{H:rH}(hH:rR g w H) {p:PK}{s:pN}{v:pC}{vals:p7}{a a':sF}(ha:yZ g w H vals a) (hs:rD g w s v) (h:wF H a p s=some a'):yZ g w H (vals++[v]) a':=by
 unfold wF at h;split at h
 .rename_i f k;simp only[QR,aQE] at h;subst h;refine⟨ha.n,ha.m,?_⟩;simp only[aRl];refine DS ha.args ⟨?_,trivial⟩;rcases hs.1 with⟨h1,_⟩ |⟨h1,vs,h2,h3⟩
  .cases h1
  .rw[show vs=[] from h2] at h3;exact .inr ⟨rfl,[],rfl,h3⟩
 .rename_i t x k _;simp only[QQ] at h;split at h
  .rename_i hp;simp only[aQE] at h;subst h;refine⟨ha.n,ha.m,?_⟩;simp only[aRl];exact DS ha.args (aJg hp hs)
  .cases h
 .simp only[QS,aQE] at h;subst h;refine⟨ha.n,ha.m,?_⟩;simp only[aRl];exact DS ha.args ⟨hs.1,trivial⟩
 .rename_i t x k;cases hb:pQ H k with
  |none=>rw[hb] at h;simp [zM] at h
  |some b=>
   rw[hb] at h;cases b with
   |grow e c m=>
    simp only[zM] at h;split at h
    .rename_i hc;simp only[aQU,aRj] at hc;simp only[aQE] at h;subst h;have hnm:k∉rQ a.ws.reverse:=fun hmem=>by
      have:=FJ.2 ((SN _ _).1 hmem);rw[hc.2] at this;cases this
     refine⟨by simp [ha.n],by simpa using ha.m.tok (b0:= .grow e c m) hb hnm,?_⟩;simp only[aRl];refine DS (K6 (K5 g w _ _) ha.args) (SG (g:=g) (g':=uE g (a.ws.reverse++[.tok k])) (k':=some a.n) rfl hc.1 (fun _ _=>⟨_,rfl⟩) hs (fun c' e1=> ?_) (fun e1=>by cases e1));cases e1;refine⟨_,rfl,fun n u hu=> ?_⟩;show yY g (a.ws.reverse++[rC.tok k])[a.n]? n=some u;rw[ha.n,aQN (aQ4 _),aSu];exact hu
    .cases h
   |cells=>simp [zM] at h
   |row=>simp [zM] at h
   |map=>simp [zM] at h
   |iter=>simp [zM] at h
   |dead=>simp [zM] at h
 .rename_i t os i o k;obtain⟨p,hp,hv⟩:=xI hs.1;obtain⟨h1,more,h2,h3,h4⟩:=aAz hH ha hp h;refine⟨h1.n,h1.m,?_⟩;rw[h3];simp only[aRl];exact DS h1.args ⟨.inr ⟨rfl,_,h4,by rw[hv];rfl⟩,trivial⟩
 .rename_i i k;cases hb:pQ H i with
  |none=>rw[hb] at h;simp [zN] at h
  |some b=>
   rw[hb] at h;cases b with
   |map s t l=>
    simp only[zN] at h;split at h
    .rename_i hc;simp only[aQU,aRj] at hc;simp only[aQE] at h;subst h;have hnm:i∉rQ a.ws.reverse:=fun hmem=>by
      have:=FJ.2 ((SN _ _).1 hmem);rw[hc.2] at this;cases this
     refine⟨by simp [ha.n],by simpa using ha.m.tok (b0:= .map s t l) ⟨hb,hc.1.1,hc.1.2⟩ hnm,?_⟩;simp only[aRl];obtain⟨p,hp,hv⟩: ∃p,g.J i=some p/\v= .map (some p.1):=by
      obtain⟨p,h1,e⟩:=yI rfl hs.1;simp only[aRq,and_true] at e;exact⟨p,h1,e⟩
     refine DS (K6 (K5 g w _ _) ha.args) ⟨.inr ⟨rfl,p,?_,by rw[hv]⟩,trivial⟩;show uV g (a.ws.reverse++[rC.tok i])[a.n]? =_;rw[ha.n,aQN (aQ4 _),aSu];exact hp
    .cases h
   |cells=>simp [zN] at h
   |row=>simp [zN] at h
   |grow=>simp [zN] at h
   |iter=>simp [zN] at h
   |dead=>simp [zN] at h
 .rename_i k n k';cases hb:pQ H k with
  |none=>rw[hb] at h;simp [zO] at h
  |some b=>
   rw[hb] at h;cases b with
   |row e t l m=>
    simp only[zO] at h;split at h
    .rename_i hc;simp only[aQU,aRj] at hc;simp only[aQE] at h;subst h;have hnm:k∉rQ a.ws.reverse:=fun hmem=>by
      have:=FJ.2 ((SN _ _).1 hmem);rw[hc.2] at this;cases this
     refine⟨by simp [ha.n],by simpa using ha.m.tok (b0:= .row e t l m) ⟨hb,hc.1⟩ hnm,?_⟩;simp only[aRl];obtain⟨h1,h2⟩:=hs.1;refine DS (K6 (K5 g w _ _) ha.args) ⟨⟨?_,h2⟩,trivial⟩;show yY g (a.ws.reverse++[rC.tok k])[a.n]? n=_;rw[ha.n,aQN (aQ4 _),aSu];exact h1
    .cases h
   |cells=>simp [zO] at h
   |grow=>simp [zO] at h
   |map=>simp [zO] at h
   |iter=>simp [zO] at h
   |dead=>simp [zO] at h
 .rename_i ks f cs k';obtain⟨vs,hv1,hv2⟩: ∃vs,wI g cs vs/\v= .func (.func f) #[] vs.toArray:=by
   rcases hs.1 with⟨h1,_⟩ |⟨_,vs,h2,h3⟩
   .cases h1
   .simp only[aRq,and_true] at h3;exact⟨vs,h2,h3⟩
  obtain⟨z1,ids',z2,_,z4⟩:=aAB hH (ids:=[]) (a:=a) (us:=[]) ha hv1 rfl h;refine⟨z1.n,z1.m,?_⟩;rw[z2];simp only[aRl];exact DS z1.args ⟨.inr ⟨rfl,vs,by simpa using z4,by rw[hv2]⟩,trivial⟩
 .cases h
theorem aAD {g:Gh}{w:pB}{H:rH}(hH:rR g w H): ∀{ps:List PK}{ss:List pN}{vs vals:p7}{a a':sF},yZ g w H vals a->uB g w ss vs->w7 H ps ss (some a)=some a'->yZ g w H (vals++vs) a'
 |[],[],vs,vals,a,a',ha,hs,h=>by
  simp only[w7,aQE] at h;subst h;rw[show vs=[] from hs,List.append_nil];exact ha
 |p::ps,s::ss,vs,vals,a,a',ha,⟨v,vs',e,h1,h2⟩,h=>by
  simp only[w7] at h;cases ho:wF H a p s with
  |none=>rw[ho] at h;cases ps<;>cases ss<;>simp [w7] at h
  |some a1=>
   rw[ho] at h;have:=aAD hH (aAC hH ha h1 ho) h2 h;rw[e];simpa using this
 |[],_::_,_,_,_,_,_,_,h=>by simp [w7] at h
 |_::_,[],_,_,_,_,_,_,h=>by simp [w7] at h
theorem yZ.nil (g:Gh) (w:pB) (H:rH):yZ g w H [] ⟨[],[],[],0⟩:=
 ⟨rfl,⟨rfl,fun c wh b h _=>by simp at h,by simp [rQ]⟩,rfl⟩
theorem aAE: ∀(l:List pM) (n:Nat),F4 l n=l[n]?
 |[],_=>by simp [F4]
 |_::_,0=>rfl
 |_::r,n+1=>by simpa[F4] using aAE r n
theorem aJj {g:Gh}{w:pB}: ∀{t:Ty}{x:t.den}{cs:p7}{o:Nat}{y:p8},Rd g w t x cs->DH t x o=some y->∃cs',CH g y cs':=by
 intro t
 induction t with
 |pair a b iha ihb=>
  intro x cs o y r h;obtain⟨c1,c2,_,r1,r2⟩:=r;simp only[DH] at h;split at h
  .exact iha r1 h
  .exact ihb r2 h
 |rl e u=>
  intro x cs o y r h;cases o with
  |zero=>simp only[DH,aQE] at h;subst h;exact⟨cs,r⟩
  |succ o=>simp [DH] at h
 |_=>intro x cs o y r h;cases o<;>simp [DH] at h
theorem aJk {g:Gh}{w:pB}{H:rH}(hH:rR g w H) {vals:p7}{a:sF}(ha:yZ g w H vals a) (c q:Nat) (pk:PK): ∃v,rD g w (H4 q pk (F4 a.H c)) v:=by
 rw[aAE];have any: ∃v,rD g w (.any,none) v:=⟨undef,trivial,trivial⟩;cases hb:a.H[c]? with
 |none=>cases pk<;>exact any
 |some b=>
  cases b with
  |cells t y ts=>
   have hlt:c<a.H.length:=(aQP.1 hb).1;have hb':a.H.reverse[a.H.length-1-c]? =some (.cells t y ts):=by
    rw[List.getElem?_reverse oW,show a.H.length-1- (a.H.length-1-c)=c by omega];exact hb
   obtain⟨wh,hwh⟩: ∃wh,a.ws.reverse[a.H.length-1-c]? =some wh:=by
    have hl:=ha.m.len;simp only[List.length_reverse] at hl;exact⟨_,aQM (by rw[List.length_reverse];omega)⟩
   have hw:=ha.m.ok _ wh _ hwh hb';cases wh with
   |tok k=>exact hw.elim
   |box i u x toks off=>
    obtain⟨h1,h2,_⟩:=hw;obtain⟨p,cs,hp,hR,_⟩:=hH.blk i _ h1;obtain⟨c1,c2,c3,hcs,hl,hR2⟩:=BC hR h2;cases pk with
    |p t' os=>
     simp only[H4];cases hg:qZ .ref t y q with
     |none=>exact any
     |some z=>
      cases z with
      |none=>exact any
      |some z=>
       obtain⟨d1,d2,d3,_,_,hR3⟩:=BC hR2 hg;obtain⟨p',hp',e⟩:=hR3;exact⟨_,.inr ⟨rfl,p',hp',rfl⟩,trivial⟩
    |m=>
     simp only[H4];cases hg:qZ .mp t y q with
     |none=>exact any
     |some z=>
      cases z with
      |none=>exact any
      |some z=>
       obtain⟨d1,d2,d3,_,_,hR3⟩:=BC hR2 hg;obtain⟨p',hp',e⟩:=hR3;exact⟨_,.inr ⟨rfl,p',hp',rfl⟩,trivial⟩
    |v=>exact any
    |own=>exact any
    |f ks=>exact any
    |r=>
     simp only[H4];cases hg:DH t y q with
     |none=>exact any
     |some z=>
      cases z with
      |none=>exact any
      |some z=>
       obtain⟨cs',hR3⟩:=aJj hR2 hg;obtain⟨v,hv,_,hsh⟩:=hR3;exact⟨v,⟨hv,hsh⟩,trivial⟩
  |_=>cases pk<;>exact any
theorem aAF {g:Gh}{w:pB}{H:rH}(hH:rR g w H) {vals:p7}: ∀{gs:List (Nat×Nat×PK)}{a a':sF},yZ g w H vals a->yT H gs (some a)=some a'->yZ g w H vals a'
 |[],a,a',ha,h=>by
  simp only[yT,aQE] at h;subst h;exact ha
 |(c,q,pk)::gs,a,a',ha,h=>by
  simp only[yT] at h;obtain⟨v,hv⟩:=aJk hH ha (a.n-1-c) q pk;cases hp:wF H a pk (H4 q pk (F4 a.H (a.n-1-c))) with
  |none=>
   rw[hp] at h;simp only[JI] at h;cases gs<;>simp [yT] at h
  |some b=>
   rw[hp] at h;simp only[JI] at h;have hb:=aAC hH ha hv hp;refine aAF hH (a:=⟨a.args,b.H,b.ws,b.n⟩) ⟨hb.n,hb.m,?_⟩ h;obtain⟨s,more,e1,e2⟩: ∃s more,b.args=s::a.args/\b.ws.reverse=a.ws.reverse++more:=by
    have hp':=hp;unfold wF at hp';split at hp'
    .simp only[QR,aQE] at hp';subst hp';exact⟨_,[],rfl,by simp⟩
    .simp only[QQ] at hp';split at hp'
     .simp only[aQE] at hp';subst hp';exact⟨_,[],rfl,by simp⟩
     .cases hp'
    .simp only[QS,aQE] at hp';subst hp';exact⟨_,[],rfl,by simp⟩
    .unfold zM at hp';split at hp'
     .split at hp'
      .simp only[aQE] at hp';subst hp';exact⟨_,[_],rfl,aRl ..⟩
      .cases hp'
     .cases hp'
    .unfold uN at hp';split at hp'
     .unfold CC at hp';split at hp'
      .split at hp'
       .obtain⟨ks,bs,_,_,h3,_,h5,_⟩:=SM hp';exact⟨_,_,h3,by rw[h5];simp only[aRl];exact aQR ..⟩
       .cases hp'
      .cases hp'
     .cases hp'
    .unfold zN at hp';split at hp'
     .split at hp'
      .simp only[aQE] at hp';subst hp';exact⟨_,[_],rfl,aRl ..⟩
      .cases hp'
     .cases hp'
    .unfold zO at hp';split at hp'
     .split at hp'
      .simp only[aQE] at hp';subst hp';exact⟨_,[_],rfl,aRl ..⟩
      .cases hp'
     .cases hp'
    .exact aAA hp'
    .cases hp'
   rw[e2];exact K6 (K5 g w _ _) ha.args
theorem aJl {b:Option pM}{l:Option (List pM)}{r:List pM}(h:VC b l=some r): ∃b' l',b=some b'/\l=some l'/\r=b'::l':=by
 cases b<;>cases l<;>simp [VC] at h
 exact⟨_,_,rfl,rfl,h.symm⟩
theorem aAG {W:List rC}: ∀{L0 L:List pM},F5 W L0=some L->L.length=L0.length/\∀(c:Nat) (b:pM),L[c]? =some b->∃b0,L0[c]? =some b0/\QU W b0=some b
 |[],L,h=>by
  simp only[F5,aQE] at h;subst h;exact⟨rfl,fun c b h=>by simp at h⟩
 |b0::L0,L,h=>by
  simp only[F5] at h;obtain⟨b',l',h1,h2,rfl⟩:=aJl h;obtain⟨k1,k2⟩:=aAG h2;refine⟨by simp [k1],fun c b hc=> ?_⟩;cases c with
  |zero=>simp only[aQ8,aQE] at hc;subst hc;exact⟨b0,rfl,h1⟩
  |succ c=>obtain⟨b1,q1,q2⟩:=k2 c b (by simpa using hc);exact⟨b1,by simpa using q1,q2⟩
theorem DR.ren {H:rH}{ws:List rC}{L0 L:List pM}(h:DR H ws L0) (hc:F5 ws L0=some L):NA H ws L:=by
 obtain⟨k1,k2⟩:=aAG hc;refine⟨h.len.trans k1.symm,fun c wh b hw hb=> ?_,h.nodup⟩;obtain⟨b0,q1,q2⟩:=k2 c b hb;have hok:=h.ok c wh b0 hw q1;cases b0 with
 |cells t y ts=>
  cases wh with
  |tok k=>exact hok.elim
  |box i u x toks o=>
   obtain⟨h1,h2,h3⟩:=hok;simp only[QU] at q2;split at q2
   .rename_i hp;obtain rfl:=aQH q2;exact⟨h1,⟨y,h2,.inl ⟨hp,rfl⟩⟩,h3⟩
   .cases hy:AG ws t y with
    |none=>rw[hy] at q2;cases q2
    |some z=>
     rw[hy] at q2;obtain rfl:=aQH q2;exact⟨h1,⟨y,h2,.inr hy⟩,h3⟩
 |_=>
  simp only[QU,aQE] at q2;subst q2;cases wh<;>exact hok
theorem xY: ∀(W:List rC) (c:Nat),yD W c=W[c]?
  |[],c=>by simp [yD]
  |_::_,0=>rfl
  |_::W,c+1=>by simpa[yD] using xY W c
theorem aAH: ∀L:List pM,qD L=L.length
  |[]=>rfl
  |_::L=>by simp [qD,aAH L]
theorem aAI {α:Type}: ∀(l acc:List α),xB l acc=l.reverse++acc
  |[],_=>rfl
  |x::l,acc=>by simp [xB,aAI l]
theorem XJ {a:Option (Nat×pM)}{b:Option (List (Nat×pM))}{l:List (Nat×pM)}(h:MA a b=some l): ∃q r,a=some q∧b=some r∧l=q::r:=by
  cases a<;>cases b<;>simp [MA] at h
  exact⟨_,_,rfl,rfl,h.symm⟩
def FK (base n:Nat) (W ws:List rC) (R:List pM) (c0:Nat) (id:Nat) (b:pM):Prop:=
  (∃(c:Nat) (i:Nat) (u:Ty) (x:u.den) (toks:p5) (o:Nat) (b0:pM),ws[c]? =some (.box i u x toks o)∧id=i∧R[c]? =some b0∧w8 base n i o W u x toks b0=some (i,b))∨
  (∃(c k:Nat) (b0:pM),ws[c]? =some (.tok k)∧id=k∧R[c]? =some b0∧xR k b0=some (k,b))∨
  (∃(c:Nat) (b0:pM),R[c]? =some b0∧id=base+(c0+c)∧ws[c]? =none∧B7 base n (c0+c) W b0=some (id,b))
theorem FK.succ {base n:Nat}{W:List rC}{wh:rC}{ws:List rC}{b0:pM}{R:List pM}{c0 id:Nat}{b:pM}(h:FK base n W ws R (c0+1) id b):FK base n W (wh::ws) (b0::R) c0 id b:=by
  rcases h with⟨c,i,u,x,toks,o,b1,h1,h2,h3,h4⟩ |⟨c,k,b1,h1,h2,h3,h4⟩ |⟨c,b1,h1,h2,h3,h4⟩
  .exact .inl ⟨c+1,i,u,x,toks,o,b1,by simpa using h1,h2,by simpa using h3,h4⟩
  .exact .inr (.inl ⟨c+1,k,b1,by simpa using h1,h2,by simpa using h3,h4⟩)
  .exact .inr (.inr ⟨c+1,b1,by simpa using h1,by rw[h2];omega,by simpa using h3,by rw[show c0+(c+1)=c0+1+c from by omega];exact h4⟩)
theorem FK.succ0 {base n:Nat}{W:List rC}{b0:pM}{R:List pM}{c0 id:Nat}{b:pM}(h:FK base n W [] R (c0+1) id b):FK base n W [] (b0::R) c0 id b:=by
  rcases h with⟨c,i,u,x,toks,o,b1,h1,_⟩ |⟨c,k,b1,h1,_⟩ |⟨c,b1,h1,h2,h3,h4⟩
  .simp at h1
  .simp at h1
  .exact .inr (.inr ⟨c+1,b1,by simpa using h1,by rw[h2];omega,by simp,by rw[show c0+(c+1)=c0+1+c from by omega];exact h4⟩)
theorem aAJ {i:Nat}{t:Ty}{ts:p5}{o:Option t.den}{q:Nat×pM}(h:a87 i t ts o=some q): ∃y,o=some y∧q=(i,.cells t y ts):=by
  cases o with
  |none=>cases h
  |some y=>exact⟨y,rfl,(aQH h).symm⟩
theorem aJm {base n c:Nat}{W:List rC}{b:pM}{q:Nat×pM}(h:B7 base n c W b=some q):q.1=base+c:=by
  cases b<;>simp only[B7] at h
  · split at h
    .exact(aQH h)▸rfl
    .obtain⟨y,_,rfl⟩:=aAJ h;rfl
  .exact(aQH h)▸rfl
  · split at h
    .exact(aQH h)▸rfl
    .cases h
  · split at h
    .exact(aQH h)▸rfl
    .cases h
  .cases h
  .exact(aQH h)▸rfl
def bY (base n:Nat) (W:List rC) (t:Ty) (x y:t.den):Prop:=(t.pure=true∧y=x)∨zP base n W t x=some y
theorem XK {base n i o:Nat}{W:List rC}{u t:Ty}{x:u.den}{y:t.den}{toks ts:p5}{q:Nat×pM}(h:w8 base n i o W u x toks (.cells t y ts)=some q):
    ∃y2 z,bY base n W t y y2∧rZ t y2 u x o=some z∧q=(i,.cells u z (qH (B6 base n W o ts) (uG toks o t.cells))):=by
  simp only[w8] at h;split at h
  · rename_i hp
    cases hs:rZ t y u x o with
    |none=>rw[hs] at h;simp [QW] at h
    |some z=>rw[hs] at h;exact⟨y,z,.inl ⟨hp,rfl⟩,hs,(aQH h).symm⟩
  · cases hy:zP base n W t y with
    |none=>rw[hy] at h;cases h
    | some y2=>
      rw[hy] at h;simp only[a88] at h;cases hs:rZ t y2 u x o with
      |none=>rw[hs] at h;simp [QW] at h
      |some z=>rw[hs] at h;exact⟨y2,z,.inr hy,hs,(aQH h).symm⟩
theorem aJn {k:Nat}{b:pM}{q:Nat×pM}(h:xR k b=some q):q.1=k:=by
  cases b<;>simp only[xR] at h
  .cases h
  .exact(aQH h)▸rfl
  · split at h
    .exact(aQH h)▸rfl
    .cases h
  · split at h
    .exact(aQH h)▸rfl
    .cases h
  .cases h
  .exact(aQH h)▸rfl
theorem aJo {base n i o:Nat}{W:List rC}{u:Ty}{x:u.den}{toks:p5}{b:pM}{q:Nat×pM}(h:w8 base n i o W u x toks b=some q):q.1=i:=by
  cases b with
  |cells t y ts=>obtain⟨y2,z,_,_,rfl⟩:=XK h;rfl
  |grow=>simp [w8] at h
  |row=>simp [w8] at h
  |map=>simp [w8] at h
  |iter=>simp [w8] at h
  |dead=>simp only[w8,aQE] at h;exact h▸rfl
theorem K7 {base n:Nat}{W:List rC}: ∀{ws:List rC}{R:List pM}{c0:Nat}{upd:List (Nat×pM)},yU base n W c0 ws R=some upd→
    ws.length≤R.length∧(∀id b,pQ upd id=some b→FK base n W ws R c0 id b)∧(∀id,id∈pS upd→∃b,pQ upd id=some b)∧
    (∀(c:Nat) wh,ws[c]? =some wh→wh.id∈pS upd)∧(∀(c:Nat) b,R[c]? =some b→ws[c]? =none→base+(c0+c)∈pS upd)
  | [],[],_,upd,h=>by
    simp only[yU,aQE] at h;subst h;exact⟨aQ4 _,fun _ _ h=>by simp [pQ] at h,fun _ h=>by simp [pS] at h,fun _ _ h=>by simp at h,fun _ _ h=>by simp at h⟩
  | [],b::R,c0,upd,h=>by
    simp only[yU] at h;obtain⟨q,r,h1,h2,rfl⟩:=XJ h;obtain⟨k1,k2,k3,k4,k5⟩:=K7 h2;have hq:=aJm h1;obtain⟨q1,q2⟩:=q;simp only at hq;subst hq;refine⟨by simp,fun id b' hg=> ?_,fun id hi=> ?_,fun c wh hw=>by simp at hw,fun c b' hb hn=> ?_⟩
    · simp only[pQ] at hg
      split at hg
      · rename_i e
        obtain rfl:=aQH hg;subst e;exact .inr (.inr ⟨0,b,rfl,rfl,by simp,h1⟩)
      .exact(k2 id b' hg).succ0
    · simp only[pQ]
      by_cases e:base+c0=id
      .rw[aQI e];exact⟨_,rfl⟩
      · rw[aQO e]
        simp only[pS,aQV] at hi;exact k3 id (hi.resolve_left (Ne.symm e))
    · cases c with
      |zero=>simp [pS]
      | succ c=>
        have:=k5 c b' (by simpa using hb) oY;simp only[pS,aQV];right;rw[show base+(c0+(c+1))=base+(c0+1+c) from by omega];exact this
  | .box i u x toks o::ws,[],c0,upd,h=>by simp [yU] at h
  | .tok k::ws,[],c0,upd,h=>by simp [yU] at h
  | .box i u x toks o::ws,b::R,c0,upd,h=>by
    simp only[yU] at h;obtain⟨q,r,h1,h2,rfl⟩:=XJ h;obtain⟨k1,k2,k3,k4,k5⟩:=K7 h2;have hq:=aJo h1;obtain⟨q1,q2⟩:=q;simp only at hq;subst hq;refine⟨by simp;omega,fun id b' hg=> ?_,fun id hi=> ?_,fun c wh hw=> ?_,fun c b' hb hn=> ?_⟩
    · simp only[pQ] at hg
      split at hg
      · rename_i e
        obtain rfl:=aQH hg;subst e;exact .inl ⟨0,q1,u,x,toks,o,b,rfl,rfl,rfl,h1⟩
      .exact(k2 id b' hg).succ
    · simp only[pQ]
      by_cases e:q1=id
      .rw[aQI e];exact⟨_,rfl⟩
      · rw[aQO e]
        simp only[pS,aQV] at hi;exact k3 id (hi.resolve_left (Ne.symm e))
    · cases c with
      |zero=>simp only[aQ8,aQE] at hw;subst hw;simp [pS,rC.id]
      |succ c=>simp only[pS,aQV];exact .inr (k4 c wh (by simpa using hw))
    · cases c with
      |zero=>simp at hn
      | succ c=>
        have:=k5 c b' (by simpa using hb) (by simpa using hn);simp only[pS,aQV];right;rw[show base+(c0+(c+1))=base+(c0+1+c) from by omega];exact this
  | .tok k::ws,b::R,c0,upd,h=>by
    simp only[yU] at h;obtain⟨q,r,h1,h2,rfl⟩:=XJ h;obtain⟨k1,k2,k3,k4,k5⟩:=K7 h2;have hq:=aJn h1;obtain⟨q1,q2⟩:=q;simp only at hq;subst hq;refine⟨by simp;omega,fun id b' hg=> ?_,fun id hi=> ?_,fun c wh hw=> ?_,fun c b' hb hn=> ?_⟩
    · simp only[pQ] at hg
      split at hg
      · rename_i e
        obtain rfl:=aQH hg;subst e;exact .inr (.inl ⟨0,q1,b,rfl,rfl,rfl,h1⟩)
      .exact(k2 id b' hg).succ
    · simp only[pQ]
      by_cases e:q1=id
      .rw[aQI e];exact⟨_,rfl⟩
      · rw[aQO e]
        simp only[pS,aQV] at hi;exact k3 id (hi.resolve_left (Ne.symm e))
    · cases c with
      |zero=>simp only[aQ8,aQE] at hw;subst hw;simp [pS,rC.id]
      |succ c=>simp only[pS,aQV];exact .inr (k4 c wh (by simpa using hw))
    · cases c with
      |zero=>simp at hn
      | succ c=>
        have:=k5 c b' (by simpa using hb) (by simpa using hn);simp only[pS,aQV];right;rw[show base+(c0+(c+1))=base+(c0+1+c) from by omega];exact this
def sS (g g':Gh) (base:Nat) (W:List rC) (ids:pA):Gh:=
  ⟨g'.S,fun i=>if base≤i∧i∈ids then g'.J (i-base) else match uX i W 0 with|some c=>g'.J c|none=>g.J i,
   fun i=>if base≤i∧i∈ids then g'.cur (i-base) else match uX i W 0 with|some c=>g'.cur c|none=>g.cur i⟩
theorem SO {n c:Nat}{wh:Option rC}:JJ n c wh=true↔c<n∧wh=none:=by
  cases wh with
  |none=>simp [JJ]
  |some wh=>simp [JJ]
theorem aJp {base n c i:Nat}{wh:Option rC}(h:yE base n c wh=some i):wh=some (.tok i)∨(wh=none∧c<n∧i=base+c):=by
  cases wh with
  | none=>
    simp only[yE] at h;split at h
    .rename_i hc;exact .inr ⟨rfl,hc,(aQH h).symm⟩
    .cases h
  | some wh=>
    cases wh with
    |box=>cases h
    |tok k=>simp only[yE,aQE] at h;subst h;exact .inl rfl
theorem SP {i:Nat}: ∀{ws:List rC}{c0:Nat},(∀c:Nat,ws[c]? ≠some (.tok i))→uX i ws c0=none
  |[],_,_=>rfl
  | .tok j::r,c0,h=>by
    simp only[uX];split
    .rename_i e;subst e;exact absurd rfl (h 0)
    .exact SP (fun c=>by have:=h (c+1);simpa using this)
  | .box _ _ _ _ _::r,c0,h=>by
    simp only[uX];exact SP (fun c=>by have:=h (c+1);simpa using this)
theorem aJq {i c:Nat}{ws:List rC}(hnd:(rQ ws).Nodup) (h:ws[c]? =some (.tok i)):uX i ws 0=some c:=by
  cases hc:uX i ws 0 with
  | none=>
    exfalso
    have: ∀{ws:List rC}{c0 c:Nat},ws[c]? =some (.tok i)→uX i ws c0≠none:=by
      intro ws
      induction ws with
      |nil=>intro c0 c h;simp at h
      | cons wh r ih=>
        intro c0 c h;cases c with
        | zero=>
          simp only[aQ8,aQE] at h;subst h;simp [uX]
        | succ c=>
          simp only[aRi] at h;cases wh with
          |box=>exact ih h
          | tok j=>
            simp only[uX];split
            .simp
            .exact ih h
    exact this h hc
  | some d=>
    obtain⟨d',e1,h2⟩:=K4 hc;rw[aRf] at e1;subst e1;rw[SL hnd h h2 rfl]
theorem Fr.mono {A B:Nat→Nat→Prop}{w w':pB}{S S':Nat→Nat→Prop}(h:Fr A w w' S S') (hAB: ∀b o,A b o→B b o):Fr B w w' S S':=
  ⟨h.os,h.tape,h.output,h.size,fun b hb hn=>h.blk b hb (fun o ho=>hn o (hAB b o ho)),fun b o hb hn=>h.cell b o hb (fun ho=>hn (hAB b o ho)),fun b o hs=>(h.new b o hs).imp id (Or.imp id (hAB b o)),fun b s hs=>(h.shape b s hs).imp id fun h o=>hAB b o (h o)⟩
theorem SQ {base n:Nat}{W:List rC}{o:Nat}: ∀{ts:p5}{q k:Nat},(q,k)∈B6 base n W o ts→∃q' c,(q',c)∈ts∧yE base n c (yD W c)=some k∧q=o+q'
  |[],_,_,h=>by simp [B6] at h
  | (q',c)::r,q,k,h=>by
    simp only[B6] at h;cases hn:yE base n c (yD W c) with
    | none=>
      rw[hn] at h;obtain⟨a,b,h1,h2⟩:=SQ h;exact⟨a,b,aQZ _ h1,h2⟩
    | some k'=>
      rw[hn] at h;rcases aQV.1 h with h|h
      · simp only[aRc] at h
        obtain⟨rfl,rfl⟩:=h;exact⟨q',c,by simp,hn,rfl⟩
      · obtain⟨a,b,h1,h2⟩:=SQ h
        exact⟨a,b,aQZ _ h1,h2⟩
theorem vL {α:Type}{x:α}: ∀{l m:List α},x∈qH l m↔x∈l∨x∈m
  |[],m=>by simp [qH]
  |y::l,m=>by simp [qH,vL (l:=l),or_assoc]
theorem XL: ∀{toks:p5}{off n q k:Nat},(q,k)∈uG toks off n→(q,k)∈toks∧¬(off≤q∧q<off+n)
  |[],_,_,_,_,h=>by simp [uG] at h
  | (q',k')::r,off,n,q,k,h=>by
    simp only[uG] at h;split at h
    · obtain⟨h1,h2⟩:=XL h
      exact⟨aQZ _ h1,h2⟩
    · rename_i hn
      rcases aQV.1 h with h|h
      · cases h
        exact⟨by simp,hn⟩
      · obtain⟨h1,h2⟩:=XL h
        exact⟨aQZ _ h1,h2⟩
section
variable {g g':Gh}{w w':pB}{H:rH}{W:List rC}{L:List pM}{r:pR}{v:pC}{base:Nat}{upd:List (Nat×pM)}
variable (hH:rR g w H) (hm:NA H W L) (hr:BG (uE g W) w L r g' w' v) (hb:yU base r.H.length W 0 W r.H=some upd) (hf: ∀i,i∈pS upd→base≤i→g.J i=none∧∀n,g.cur i n=none)
include hH hm hr hb hf
theorem CJ {c:Nat}{wh:rC}(hw:W[c]? =some wh):wh.id∈pS upd∧wh.id<base∧∃b,L[c]? =some b∧SI H W wh b:=by
  have hin:=(K7 hb).2.2.2.1 c wh hw;have hlt:c<L.length:=hm.len▸(aQP.1 hw).1;have hok:=hm.ok c wh _ hw (aQM hlt);refine⟨hin,Nat.lt_of_not_le fun hle=> ?_,_,aQM hlt,hok⟩;have hfr:=hf _ hin hle;cases wh with
  | box i u x toks o=>
    cases hL:L[c] with
    | cells t y ts=>
      rw[hL] at hok;obtain⟨p,cs,hp,_⟩:=hH.blk i _ hok.1;rw[show (rC.box i u x toks o).id=i from rfl] at hfr;rw[hfr.1] at hp;cases hp
    |_=>rw[hL] at hok;exact hok.elim
  | tok k=>
    cases hL:L[c] with
    | grow e cc m=>
      rw[hL] at hok;obtain⟨v,xs,hv,_⟩:=hH.blk k _ hok;rw[show (rC.tok k).id=k from rfl] at hfr;rw[hfr.2] at hv;cases hv
    | map s t l=>
      rw[hL] at hok;obtain⟨p,es,cl,hp,_⟩:=hH.blk k _ hok.1;rw[show (rC.tok k).id=k from rfl] at hfr;rw[hfr.1] at hp;cases hp
    | row e t l m=>
      rw[hL] at hok;obtain⟨_,v,xs,hv,_⟩:=hH.blk k _ hok.1;rw[show (rC.tok k).id=k from rfl] at hfr;rw[hfr.2] at hv;cases hv
    |_=>rw[hL] at hok;exact hok.elim
theorem aJr {c:Nat}(hc:c<r.H.length) (hn:W[c]? =none):base+c∈pS upd:=by
  have:=(K7 hb).2.2.2.2 c _ (aQM hc) hn;simpa using this
theorem K8 {c:Nat}(hc:c<r.H.length) (hn:W[c]? =none):(sS g g' base W (pS upd)).J (base+c)=g'.J c∧(sS g g' base W (pS upd)).cur (base+c)=g'.cur c:=by
  have hin:=aJr hH hm hr hb hf hc hn;refine⟨?_,?_⟩
  · show (if base≤base+c∧base+c∈pS upd then _ else _)=_
    rw[aQI ⟨oW,hin⟩,aRr]
  · show (if base≤base+c∧base+c∈pS upd then _ else _)=_
    rw[aQI ⟨oW,hin⟩,aRr]
theorem aAK {i:Nat}(hi: ¬(base≤i∧i∈pS upd)) (hn:uX i W 0=none):(sS g g' base W (pS upd)).J i=g.J i∧(sS g g' base W (pS upd)).cur i=g.cur i:=by
  refine⟨?_,?_⟩
  · show (if base≤i∧i∈pS upd then _ else _)=_
    rw[aQO hi,hn]
  · show (if base≤i∧i∈pS upd then _ else _)=_
    rw[aQO hi,hn]
theorem aAL {c k:Nat}(hw:W[c]? =some (.tok k)):(sS g g' base W (pS upd)).J k=g'.J c∧(sS g g' base W (pS upd)).cur k=g'.cur c:=by
  have hlt:=(CJ hH hm hr hb hf hw).2.1;simp only[rC.id] at hlt;have hc:=aJq hm.nodup hw;refine⟨?_,?_⟩
  · show (if base≤k∧k∈pS upd then _ else _)=_
    rw[aQO oW,hc]
  · show (if base≤k∧k∈pS upd then _ else _)=_
    rw[aQO oW,hc]
theorem NB {c i:Nat}{u:Ty}{x:u.den}{toks:p5}{o:Nat}(hw:W[c]? =some (.box i u x toks o)):(sS g g' base W (pS upd)).J i=g.J i∧(sS g g' base W (pS upd)).cur i=g.cur i:=by
  have hlt:=(CJ hH hm hr hb hf hw).2.1;simp only[rC.id] at hlt;refine aAK hH hm hr hb hf oW (SP fun d hd=> ?_);have:=SL hm.nodup hw hd rfl;subst this;rw[hw] at hd;cases hd
theorem HO {c i:Nat}(hi:yE base r.H.length c W[c]? =some i):(sS g g' base W (pS upd)).J i=g'.J c∧(sS g g' base W (pS upd)).cur i=g'.cur c:=by
  rcases aJp hi with h|⟨h1,h2,rfl⟩
  .exact aAL hH hm hr hb hf h
  .exact K8 hH hm hr hb hf h2 h1
theorem aAM:Le g w (sS g g' base W (pS upd)) w':=by
  have len: ∀{i c:Nat},uX i W 0=some c→W[c]? =some (.tok i)∧c<L.length:=by
    intro i c h;obtain⟨d,e1,h2⟩:=K4 h;rw[aRf] at e1;subst e1;exact⟨h2,hm.len▸(aQP.1 h2).1⟩
  refine⟨fun b o h=>(hr.shut b o h).1,fun b o h=>(hr.shut b o h).2,fun i p h=> ?_,fun i n u h=> ?_⟩
  · show (if base≤i∧i∈pS upd then _ else _)=_
    rw[aQO (fun⟨h1,h2⟩=>by rw[(hf i h2 h1).1] at h;cases h)];cases hc:uX i W 0 with
    |none=>exact h
    | some c=>
      obtain⟨h1,h2⟩:=len hc;refine hr.Jt c p h2 ?_;show uV g W[c]? =_;rw[h1];exact h
  · show (if base≤i∧i∈pS upd then g'.cur (i-base) else match uX i W 0 with|some c=>g'.cur c|none=>g.cur i) n=_
    rw[aQO (fun⟨h1,h2⟩=>by rw[(hf i h2 h1).2] at h;cases h)];cases hc:uX i W 0 with
    |none=>exact h
    | some c=>
      obtain⟨h1,h2⟩:=len hc;refine hr.cur c n u h2 ?_;show yY g W[c]? n=_;rw[h1];exact h
theorem aJs {t:Ty}{x y:t.den}{cs:p7}(hx:Rd g' w' t x cs) (h:zP base r.H.length W t x=some y):Rd (sS g g' base W (pS upd)) w' t y cs:=by
  refine SK (g:=g') (g':=sS g g' base W (pS upd)) rfl (zP base r.H.length W) (fun a b x=>rfl) (fun t x=>rfl) (fun _=>rfl) (fun _ _=>rfl) (fun _=>rfl) (fun _=>rfl) (fun _=>rfl) (fun _ _ x y cs h hx=> ?_) (fun x y cs h hx=> ?_) (fun x y cs h hx=> ?_) (fun x y cs h hx=> ?_) (fun _=>rfl) hx h
  · cases x with
    |none=>cases h;exact hx
    | some q=>
      obtain⟨c,n⟩:=q;simp only[zP,a86,xY] at h;obtain⟨i,hi,rfl⟩:=aQQ.1 h;obtain⟨v,hv,hs⟩:=hx;exact⟨v,by rw[(HO hH hm hr hb hf hi).2];exact hv,hs⟩
  · cases x with
    |none=>cases h;exact hx
    | some q=>
      obtain⟨c,o⟩:=q;simp only[zP,H7] at h;obtain⟨p,hp,hv⟩:=hx;unfold H7.back2 at h;split at h
      · rename_i i uu x toks o' hwh
        cases h;rw[xY] at hwh;obtain⟨_,hlt,b,hL,hok⟩:=CJ hH hm hr hb hf hwh;cases b with
        | cells t y ts=>
          have hJ:=hr.J c t y ts hL;rw[hp] at hJ;have hJ':uV g W[c]? =some p:=hJ.symm;rw[hwh] at hJ';obtain⟨p0,hp0,rfl⟩:=aQQ.1 hJ';exact⟨p0,by rw[(NB hH hm hr hb hf hwh).1];exact hp0,by have:=hv.1;rwa [aRm] at this,hv.2.imp id fun hv=>by rw[hv];simp [aRm]⟩
        |_=>exact hok.elim
      · split at h
        · rename_i hn
          cases h;obtain⟨h1,h2⟩:=SO.1 hn;rw[xY] at h2;exact⟨p,by rw[(K8 hH hm hr hb hf h1 h2).1];exact hp,hv⟩
        .cases h
  · cases x with
    |none=>cases h;exact hx
    | some q=>
      obtain⟨c,o⟩:=q;simp only[zP,H7] at h;obtain⟨p,hp,hv⟩:=hx;unfold H7.back2 at h;split at h
      · rename_i i uu x toks o' hwh
        cases h;rw[xY] at hwh;obtain⟨_,hlt,b,hL,hok⟩:=CJ hH hm hr hb hf hwh;cases b with
        | cells t y ts=>
          have hJ:=hr.J c t y ts hL;rw[hp] at hJ;have hJ':uV g W[c]? =some p:=hJ.symm;rw[hwh] at hJ';obtain⟨p0,hp0,rfl⟩:=aQQ.1 hJ';exact⟨p0,by rw[(NB hH hm hr hb hf hwh).1];exact hp0,by rw[hv];simp [aRm]⟩
        |_=>exact hok.elim
      · split at h
        · rename_i hn
          cases h;obtain⟨h1,h2⟩:=SO.1 hn;rw[xY] at h2;exact⟨p,by rw[(K8 hH hm hr hb hf h1 h2).1];exact hp,hv⟩
        .cases h
  · cases x with
    |none=>cases h;exact hx
    | some c=>
      simp only[zP,a85,xY] at h;obtain⟨i,hi,rfl⟩:=aQQ.1 h;obtain⟨p,hp,hv⟩:=hx;exact⟨p,by rw[(HO hH hm hr hb hf hi).1];exact hp,hv⟩
theorem aAN {t:Ty}{x y:t.den}{cs:p7}(hx:Rd g' w' t x cs) (h:bY base r.H.length W t x y):Rd (sS g g' base W (pS upd)) w' t y cs:=by
  rcases h with⟨hp,rfl⟩ |h
  .exact uO (g:=g') (g':=sS g g' base W (pS upd)) rfl hp hx
  .exact aJs hH hm hr hb hf hx h
omit hH hm hr hb hf in
theorem aAO {n:Nat}{t u:Ty}{x y:t.den}{o:Nat}{l:List u.den}(h:bY base n W t x y) (hg:qZ (.list u) t x o=some l):qZ (.list u) t y o=some l:=by
  rcases h with⟨_,rfl⟩ |h
  .exact hg
  .exact XH (zP base n W) (fun _ _ _=>rfl) (fun _ _=>rfl) h hg
theorem aAP: ∀(cs:p5) {l:p5}{vs:p7},wI g' cs vs→JK base r.H.length W cs=some l→wI (sS g g' base W (pS upd)) l vs
  |[],l,vs,h,e=>by cases e;exact h
  | (c,o)::cs,l,vs,⟨p,vs',hp,hv,hr'⟩,e=>by
    unfold JK at e;cases h1:VD base r.H.length c o (yD W c) with
    |none=>rw[h1] at e;cases e
    | some q=>
      cases h2:JK base r.H.length W cs with
      |none=>rw[h1,h2] at e;cases e
      | some l'=>
        rw[h1,h2] at e;cases e;refine(?_ : ∃p vs',_);have ih:=aAP cs hr' h2;unfold VD at h1;split at h1
        · rename_i i uu x toks o' hwh
          cases h1;rw[xY] at hwh;obtain⟨_,hlt,b,hL,hok⟩:=CJ hH hm hr hb hf hwh;cases b with
          | cells t y ts=>
            have hJ:=hr.J c t y ts hL;rw[hp] at hJ;have hJ':uV g W[c]? =some p:=hJ.symm;rw[hwh] at hJ';obtain⟨p0,hp0,rfl⟩:=aQQ.1 hJ';exact⟨p0,vs',by rw[(NB hH hm hr hb hf hwh).1];exact hp0,by rw[hv];simp [aRm],ih⟩
          |_=>exact hok.elim
        · split at h1
          · rename_i hn
            cases h1;obtain⟨h3,h4⟩:=SO.1 hn;rw[xY] at h4;exact⟨p,vs',by rw[(K8 hH hm hr hb hf h3 h4).1];exact hp,hv,ih⟩
          .cases h1
theorem aJt {s:pN}{u:pC}(h:rD g' w' s u):rD (sS g g' base W (pS upd)) w' (QV base r.H.length W s) u:=by
  obtain⟨d,k⟩:=s
  have tokk: ∀{t:Ty}(hp:t.pure=true) {x:t.den}{k:p9},(∀c,k=some c→∃u,t= .list u)→rD g' w' (.val t x,k) u→rD (sS g g' base W (pS upd)) w' (.val t x,H6 base r.H.length W k) u:=by
    intro t hp x k hl h;cases k with
    |none=>exact SG (g:=g') (g':=sS g g' base W (pS upd)) (k:=none) (k':=none) rfl hp (fun c e=>by cases e) h (fun c e=>by cases e) (fun _=>rfl)
    | some c=>
      simp only[H6,xY];cases hn:yE base r.H.length c W[c]? with
      | some i=>
        refine SG (g:=g') (g':=sS g g' base W (pS upd)) (k:=some c) (k':=some i) rfl hp hl h (fun c' e=> ?_) (fun e=>by cases e);cases e;refine⟨_,rfl,fun n u hu=> ?_⟩;rw[(HO hH hm hr hb hf hn).2];exact hu
      | none=>
        exact SG (g:=g') (g':=sS g g' base W (pS upd)) (k:=none) (k':=none) rfl hp (fun c e=>by cases e) ⟨h.1,trivial⟩ (fun c e=>by cases e) (fun _=>rfl)
  unfold QV;split
  · rename_i c m k' heq
    simp only[aRc] at heq;obtain⟨rfl,rfl⟩:=heq;simp only[H6,xY];cases hn:yE base r.H.length c W[c]? with
    | some i=>
      obtain⟨h3,h4⟩:=h.1;exact⟨⟨by rw[(HO hH hm hr hb hf hn).2];exact h3,h4⟩,trivial⟩
    |none=>exact⟨trivial,trivial⟩
  · rename_i c o k' heq
    simp only[aRc] at heq;obtain⟨rfl,rfl⟩:=heq;obtain⟨p,hp,hv⟩:=xI h.1;unfold a84;split
    · rename_i i uu x toks o' hwh
      rw[xY] at hwh;obtain⟨_,hlt,b,hL,hok⟩:=CJ hH hm hr hb hf hwh;cases b with
      | cells t y ts=>
        have hJ:=hr.J c t y ts hL;rw[hp] at hJ;have hJ':uV g W[c]? =some p:=hJ.symm;rw[hwh] at hJ';obtain⟨p0,hp0,rfl⟩:=aQQ.1 hJ';refine⟨.inr ⟨rfl,p0,by rw[(NB hH hm hr hb hf hwh).1];exact hp0,?_⟩,trivial⟩;rw[hv];simp [aRm]
      |_=>exact hok.elim
    · split
      · rename_i hn
        obtain⟨h1,h2⟩:=SO.1 hn;rw[xY] at h2;exact⟨.inr ⟨rfl,p,by rw[(K8 hH hm hr hb hf h1 h2).1];exact hp,by rw[hv]⟩,trivial⟩
      .exact⟨trivial,trivial⟩
  · rename_i k' heq
    simp only[aRc] at heq;obtain⟨rfl,rfl⟩:=heq;rcases h.1 with⟨h1,_⟩ |⟨h1,h2⟩
    .cases h1
    .exact⟨.inr ⟨h1,h2⟩,trivial⟩
  · rename_i c k' heq
    simp only[aRc] at heq;obtain⟨rfl,rfl⟩:=heq;simp only[H6,xY];cases hn:yE base r.H.length c W[c]? with
    | some i=>
      obtain⟨p,hp,hv⟩:HJ g' (some c) [u]:=yI rfl h.1;exact⟨.inr ⟨rfl,p,by rw[(HO hH hm hr hb hf hn).1];exact hp,hv⟩,trivial⟩
    |none=>exact⟨trivial,trivial⟩
  · rename_i k' heq
    simp only[aRc] at heq;obtain⟨rfl,rfl⟩:=heq;rcases h.1 with⟨h1,_⟩ |⟨h1,h2⟩
    .cases h1
    .exact⟨.inr ⟨h1,h2⟩,trivial⟩
  · rename_i f cs k' heq
    simp only[aRc] at heq;obtain⟨rfl,rfl⟩:=heq;cases hc:JK base r.H.length W cs with
    |none=>exact⟨trivial,trivial⟩
    | some l=>
      rcases h.1 with⟨h1,_⟩ |⟨_,vs,h2,h3⟩
      .cases h1
      .exact⟨.inr ⟨rfl,vs,aAP hH hm hr hb hf cs h2 hc,h3⟩,trivial⟩
  · rename_i t x k' hno hno0 hno2 hno3 hno4 heq
    simp only[aRc] at heq;obtain⟨rfl,rfl⟩:=heq;split
    · rename_i hp
      exact tokk hp aI7 (aAn h)
    .exact⟨trivial,trivial⟩
  .exact⟨trivial,trivial⟩
end
theorem aAQ {g:Gh}{w:pB}{H:rH}{W:List rC}{L:List pM}(hH:rR g w H) (hm:NA H W L) {bb oo:Nat}(h:wB (uE g W) (pX 0 L) bb oo):
  ∃(c:Nat) (wh:rC) (b blk:pM),W[c]? =some wh/\L[c]? =some b/\rK (uE g W) c b bb oo/\pQ H wh.id=some blk/\rK g wh.id blk bb oo:=by
 obtain⟨c,b,hc,ho⟩:=h;rw[vE] at hc;have hlt:c<W.length:=hm.len▸(aQP.1 hc).1;have hwh:W[c]? =some W[c]:=aQM hlt;have hw:=hm.ok c _ b hwh hc;refine⟨c,W[c],b,?_⟩;generalize W[c]=wh at hwh hw;cases wh with
 |box i u x toks off=>
  cases b with
  |cells t y ts=>
   obtain⟨h1,⟨y0,h2,h3⟩,h4⟩:=hw;obtain⟨p,hp,e1,e2,e3⟩:=ho;have hp':uV g W[c]? =some p:=hp;rw[hwh] at hp';obtain⟨p0,hp0,rfl⟩:=aQQ.1 hp';obtain⟨p1,cs,hp1,hR,_⟩:=hH.blk i _ h1;obtain⟨c1,c2,c3,hcs,hl,hR2⟩:=BC hR h2;have l1:=s3 hR;have l2:=s3 hR2;rw[hcs] at l1;simp only[aQG] at l1;exact⟨_,hwh,hc,⟨_,hp,e1,e2,e3⟩,h1,p0,hp0,e1,by simp at e2;omega,by simp at e3;omega⟩
  |_=>exact hw.elim
 |tok k=>
  cases b with
  |grow e cc m=>
   obtain⟨v,hv,hb⟩:=ho;have hv':yY g W[c]? m=some v:=hv;rw[hwh] at hv';exact⟨_,hwh,hc,⟨v,hv,hb⟩,hw,v,hv',hb⟩
  |map s t l=>
   obtain⟨p,hp,hb⟩:=ho;have hp':uV g W[c]? =some p:=hp;rw[hwh] at hp';exact⟨_,hwh,hc,⟨p,hp,hb⟩,hw.1,p,hp',hb⟩
  |row e t l m=>
   obtain⟨v,hv,hb⟩:=ho;have hv':yY g W[c]? m=some v:=hv;rw[hwh] at hv';exact⟨_,hwh,hc,⟨v,hv,hb⟩,hw.1,v,hv',hb⟩
  |_=>exact hw.elim
section
variable {g g':Gh}{w w':pB}{H:rH}{W:List rC}{L:List pM}{r:pR}{v:pC}{base:Nat}{upd:List (Nat×pM)}
variable (hH:rR g w H) (hm:NA H W L) (hr:BG (uE g W) w L r g' w' v) (hb:yU base r.H.length W 0 W r.H=some upd) (hf: ∀i,i∈pS upd->base<=i->g.J i=none/\∀n,g.cur i n=none)
include hH hm hr hb hf
theorem XM {b o:Nat}(h:wB (uE g W) (pX 0 L) b o):s6 g H (pS upd) b o:=by
 obtain⟨c,wh,b0,blk,h1,h2,h3,h4,h5⟩:=aAQ hH hm h;exact⟨wh.id,blk,(CJ hH hm hr hb hf h1).1,h4,h5⟩
theorem aJu:Fr (s6 g H (pS upd)) w w' g.S (sS g g' base W (pS upd)).S:=hr.fr.mono fun _ _ h=>XM hH hm hr hb hf h
theorem SR {id:Nat}{b:pM}(hi:id∈pS upd) (hg:pQ (qH upd H) id=some b):FK base r.H.length W W r.H 0 id b:=by
 obtain⟨_,k2,k3,_⟩:=K7 hb;obtain⟨b',hb'⟩:=k3 id hi;have:pQ (qH upd H) id=some b':=by
  have: ∀{u:List (Nat×pM)},pQ u id=some b'->pQ (qH u H) id=some b':=by
   intro u
   induction u with
   |nil=>intro h;cases h
   |cons q u ih=>
    intro h;simp only[qH,pQ] at h|-;split
    .rename_i e;rw[aQI e] at h;exact h
    .rename_i e;rw[aQO e] at h;exact ih h
  exact this hb'
 rw[this] at hg;obtain rfl:=aQH hg;exact k2 id b' hb'
theorem XN {c i o:Nat}{u:Ty}{x:u.den}{toks:p5}{b0 b:pM}(hW:W[c]? =some (.box i u x toks o)) (hR:r.H[c]? =some b0) (hbb:w8 base r.H.length i o W u x toks b0=some (i,b)):
  xW (sS g g' base W (pS upd)) w' i b/\(∀bb oo,rK (sS g g' base W (pS upd)) i b bb oo->rK g i (.cells u x toks) bb oo/\pQ H i=some (.cells u x toks))/\
   ∀bb oo,rK (sS g g' base W (pS upd)) i b bb oo->rK g' c b0 bb oo\/(bb<w.heap.size/\¬wB (uE g W) (pX 0 L) bb oo):=by
 obtain⟨hin,hlt,bL,hL,hok⟩:=CJ hH hm hr hb hf hW;have hJi:=(NB hH hm hr hb hf hW).1;have hle:=aAM hH hm hr hb hf;cases bL with
 |grow=>exact hok.elim
 |row=>exact hok.elim
 |map=>exact hok.elim
 |iter=>exact hok.elim
 |dead=>exact hok.elim
 |cells tL yL tsL=>
  obtain⟨h1,h2,h4⟩:=hok;obtain⟨p,cs,hp,hRd,hra,hth,hns,htk⟩:=hH.blk i _ h1;cases b0 with
  |grow=>simp [w8] at hbb
  |row=>simp [w8] at hbb
  |map=>simp [w8] at hbb
  |iter=>simp [w8] at hbb
  |dead=>
   simp only[w8,aQE,aRc,true_and] at hbb;subst hbb;exact⟨trivial,fun _ _ h=>h.elim,fun _ _ h=>h.elim⟩
  |cells t y ts=>
   have htt:=hr.ty c _ _ _ _ _ _ hL hR;subst htt;obtain⟨y2,z,hbY,hset,hq⟩:=XK hbb
   .simp only[aRc,true_and] at hq;subst hq;have hblk:=hr.heap.blk c _ (by rw[vE];exact hR);obtain⟨p',cs',hp',hRd',hra',hth',hns',htk'⟩:=hblk;have hJc:=hr.J c _ _ _ hL;have hpc:g'.J c=some ⟨p.1,p.2+o,p.3⟩:=by
     rw[hJc];show uV g W[c]? =_;rw[hW];simp [uV,hp]
    rw[hpc] at hp';obtain rfl:=aQH hp';have hRdx:Rd (sS g g' base W (pS upd)) w' u x cs:=vU hle hRd;have hRdy:Rd (sS g g' base W (pS upd)) w' t y2 cs':=aAN hH hm hr hb hf hRd' hbY;obtain⟨c1,c2,c3,hcs,hl1,hl2,hz⟩:=S5 hRdy hRdx hset;subst hcs;subst hl1;have l0:=s3 hRd;have l1:=s3 hRd';simp only[aQG] at l0;have hfar: ∀q,q<u.cells->¬(c1.length<=q/\q<c1.length+t.cells)->¬wB (uE g W) (pX 0 L) p.1 (p.2+q):=by
     intro q hq hno hown;obtain⟨c',wh',b',blk',k1,k2,k3,k4,k5⟩:=aAQ hH hm hown;by_cases hcc:c'=c
     .subst hcc;rw[hW] at k1;obtain rfl:=aQH k1;rw[hL] at k2;obtain rfl:=aQH k2;obtain⟨pp,hpp,e1,e2,e3⟩:=k3;have hpp':uV g W[c']? =some pp:=hpp;rw[hW] at hpp';simp only[uV,hp,Option.map_some,aQE] at hpp';subst hpp';simp only at e2 e3;exact hno ⟨oW,oW⟩
     .have hid:wh'.id≠i:=fun e=>hcc (SL hm.nodup k1 hW e);exact hH.dis wh'.id i blk' _ p.1 (p.2+q) hid k4 h1 k5 ⟨p,hp,rfl,oW,oW⟩
    have hlt': ∀q,q<u.cells->p.1<w.heap.size:=fun q hq=>HK (hH.blk i _ h1) (b:=p.1) (o:=p.2+q) ⟨p,hp,rfl,oW,oW⟩;have hkeep: ∀q,q<u.cells->¬(c1.length<=q/\q<c1.length+t.cells)->w'.cell? ⟨p.1,p.2+q,none⟩=w.cell? ⟨p.1,p.2+q,none⟩/\w'.frozen? ⟨p.1,p.2+q,none⟩=w.frozen? ⟨p.1,p.2+q,none⟩:=fun q hq hno=>hr.fr.cell _ _ (hlt' q hq) (hfar q hq hno);refine⟨⟨p,c1++cs'++c3,by rw[hJi];exact hp,hz,fun q vv hv=> ?_,⟨fun q hq=> ?_,fun h0 s hs=> ?_⟩,fun q hq hs=> ?_,?_⟩,fun bb oo ho=>⟨?_,h1⟩,fun bb oo ho=> ?_⟩
    .by_cases a1:q<c1.length
     .rw[(hkeep q oW oW).1];refine hra q vv ?_;rw[aQR,aQT a1] at hv|-;exact hv
     .by_cases a2:q<c1.length+t.cells
      .rw[aQR,aQN oW,aQT oW] at hv;have:=hra' (q-c1.length) vv hv;rwa [show p.2+c1.length+(q-c1.length)=p.2+q from by omega] at this
      .rw[aQR,aQN oW,aQN oW] at hv;have hq:q<u.cells:=by
        have:=(aQP.1 hv).1;omega
       rw[(hkeep q hq oW).1];refine hra q vv ?_;rw[aQR,aQN oW,aQN oW,hl2];rw[l1] at hv;exact hv
    .by_cases a1:c1.length<=q/\q<c1.length+t.cells
     .have:=hth'.1 (q-c1.length) oW;rwa [show p.2+c1.length+(q-c1.length)=p.2+q from by omega] at this
     .rw[(hkeep q hq a1).1,(hkeep q hq a1).2];exact hth.1 q hq
    .by_cases ht0:0<t.cells
     .exact hth'.2 ht0 s hs
     .exact(hr.fr.shape p.1 s (hth.2 h0 s hs)).resolve_right fun h=>hfar 0 h0 oW (h (p.2+0))
    .by_cases a1:c1.length<=q/\q<c1.length+t.cells
     .exact hns' (q-c1.length) oW (by rw[show p.2+c1.length+(q-c1.length)=p.2+q from by omega];exact hs)
     .rcases hr.fr.new _ _ hs with k|k|k
      .exact hns q hq k
      .have:=hlt' q hq;omega
      .exact hfar q hq a1 k
    .intro q kk hmem;rcases vL.1 hmem with hmem|hmem
     .obtain⟨q',c',k1,k2,rfl⟩:=SQ hmem;rw[xY] at k2;obtain⟨u',l,vv,g1,g2,g3⟩:=htk' q' c' k1;have hq':=aAg g1;refine⟨u',l,vv,aAf hset (aAO hbY g1) hq',?_,?_⟩
      .rw[aQR,aQN oW,aRr,aQT oW];exact g2
      .rw[(HO hH hm hr hb hf k2).2];exact g3
     .obtain⟨k1,k2⟩:=XL hmem;obtain⟨u',l,vv,g1,g2,g3⟩:=htk q kk k1;refine⟨u',l,vv,a95 hH hset g1 k2,?_,hle.cur _ _ _ g3⟩;rcases aRw q c1.length with a1|a1
      .rw[aQR,aQT a1] at g2|-;exact g2
      .rw[aQR,aQN oW,aQN oW] at g2|-;rw[l1];rw[hl2] at g2;exact g2
    .obtain⟨pp,hpp,e1,e2,e3⟩:=ho;rw[hJi,hp] at hpp;obtain rfl:=aQH hpp;exact⟨p,hp,e1,e2,e3⟩
    .obtain⟨pp,hpp,e1,e2,e3⟩:=ho;rw[hJi,hp] at hpp;obtain rfl:=aQH hpp;subst e1;by_cases a1:c1.length<=oo-p.2/\oo-p.2<c1.length+t.cells
     .exact .inl ⟨_,hpc,rfl,by simp only;omega,by simp only;omega⟩
     .right;refine⟨hlt' (oo-p.2) oW,?_⟩;have:=hfar (oo-p.2) oW a1;rwa [show p.2+(oo-p.2)=oo from by omega] at this
theorem XO {c:Nat}{b0 b:pM}(hn:W[c]? =none) (hR:r.H[c]? =some b0) (hbn:B7 base r.H.length c W b0=some (base+c,b)):
  xW (sS g g' base W (pS upd)) w' (base+c) b/\∀bb oo,rK (sS g g' base W (pS upd)) (base+c) b bb oo->rK g' c b0 bb oo:=by
 have hc:=(aQP.1 hR).1;obtain⟨hJ,hcur⟩:=K8 hH hm hr hb hf hc hn;have hblk:=hr.heap.blk c _ (by rw[vE];exact hR);cases b0 with
 |dead=>
  simp only[B7,aQE,aRc,true_and] at hbn;subst hbn;exact⟨trivial,fun _ _ h=>h.elim⟩
 |grow e m k=>
  simp only[B7,aQE,aRc,true_and] at hbn;subst hbn;obtain⟨u,xs,hv,h1,h2,h3⟩:=hblk;exact⟨⟨u,xs,by rw[hcur];exact hv,h1,fun m hm'=>by rw[hcur];exact h2 m hm',h3⟩,fun bb oo ⟨v',hv',hb'⟩=>⟨v',by rw[hcur] at hv';exact hv',hb'⟩⟩
 |row e t l n=>
  simp only[B7] at hbn;split at hbn
  .rename_i hp;simp only[aQE,aRc,true_and] at hbn;subst hbn;obtain⟨h0,u,xs,hv,h1,h4,h2,h3⟩:=hblk;exact⟨⟨h0,u,xs,by rw[hcur];exact hv,h1,AJ (fun _ _ h=>uO (g:=g') (g':=sS g g' base W (pS upd)) rfl hp h) h4,fun m hm'=>by rw[hcur];exact h2 m hm',h3⟩,fun bb oo ⟨v',hv',hb'⟩=>⟨v',by rw[hcur] at hv';exact hv',hb'⟩⟩
  .cases hbn
 |iter s n=>simp [B7] at hbn
 |map k v l=>
  simp only[B7] at hbn;split at hbn
  .rename_i hp;rw[aQU] at hp;simp only[aQE,aRc,true_and] at hbn;subst hbn;obtain⟨p,es,cl,hp1,hp0,hh,hM,hS⟩:=hblk;exact⟨⟨p,es,cl,by rw[hJ];exact hp1,hp0,hh,MY (g:=g') (g':=sS g g' base W (pS upd)) rfl hp.1 hp.2 hM,hS⟩,fun bb oo ⟨pp,hpp,e⟩=>⟨pp,by rw[hJ] at hpp;exact hpp,e⟩⟩
  .cases hbn
 |cells t y ts=>
  have uD: ∀y2,bY base r.H.length W t y y2->xW (sS g g' base W (pS upd)) w' (base+c) (.cells t y2 (B6 base r.H.length W 0 ts))/\∀bb oo,rK (sS g g' base W (pS upd)) (base+c) (.cells t y2 (B6 base r.H.length W 0 ts)) bb oo->rK g' c (.cells t y ts) bb oo:=by
   intro y2 hbY;obtain⟨p,cs,hp1,hR1,h1,h2,h3,h4⟩:=hblk;refine⟨⟨p,cs,by rw[hJ];exact hp1,aAN hH hm hr hb hf hR1 hbY,h1,h2,h3,fun q kk hmem=> ?_⟩,fun bb oo ⟨pp,hpp,e⟩=>⟨pp,by rw[hJ] at hpp;exact hpp,e⟩⟩;obtain⟨q',c',k1,k2,rfl⟩:=SQ hmem;rw[xY] at k2;obtain⟨u',l,vv,g1,g2,g3⟩:=h4 q' c' k1;exact⟨u',l,vv,by rw[aRf];exact aAO hbY g1,by rw[aRf];exact g2,by rw[(HO hH hm hr hb hf k2).2];exact g3⟩
  simp only[B7] at hbn;split at hbn
  .rename_i hp;simp only[aQE,aRc,true_and] at hbn;subst hbn;exact uD y (.inl ⟨hp,rfl⟩)
  .obtain⟨y2,hy,hq⟩:=aAJ hbn;simp only[aRc,true_and] at hq;subst hq;exact uD y2 (.inr hy)
theorem XP {c k:Nat}{b0 b:pM}(hW:W[c]? =some (.tok k)) (hR:r.H[c]? =some b0) (hbk:xR k b0=some (k,b)):
  xW (sS g g' base W (pS upd)) w' k b/\∀bb oo,rK (sS g g' base W (pS upd)) k b bb oo->rK g' c b0 bb oo:=by
 obtain⟨hJ,hcur⟩:=aAL hH hm hr hb hf hW;have hblk:=hr.heap.blk c _ (by rw[vE];exact hR);cases b0 with
 |dead=>
  simp only[xR,aQE,aRc,true_and] at hbk;subst hbk;exact⟨trivial,fun _ _ h=>h.elim⟩
 |grow e m n=>
  simp only[xR,aQE,aRc,true_and] at hbk;subst hbk;obtain⟨u,xs,hv,h1,h2,h3⟩:=hblk;exact⟨⟨u,xs,by rw[hcur];exact hv,h1,fun m hm'=>by rw[hcur];exact h2 m hm',h3⟩,fun bb oo ⟨v',hv',hb'⟩=>⟨v',by rw[hcur] at hv';exact hv',hb'⟩⟩
 |row e t l n=>
  simp only[xR] at hbk;split at hbk
  .rename_i hp;simp only[aQE,aRc,true_and] at hbk;subst hbk;obtain⟨h0,u,xs,hv,h1,h4,h2,h3⟩:=hblk;exact⟨⟨h0,u,xs,by rw[hcur];exact hv,h1,AJ (fun _ _ h=>uO (g:=g') (g':=sS g g' base W (pS upd)) rfl hp h) h4,fun m hm'=>by rw[hcur];exact h2 m hm',h3⟩,fun bb oo ⟨v',hv',hb'⟩=>⟨v',by rw[hcur] at hv';exact hv',hb'⟩⟩
  .cases hbk
 |iter s n=>simp [xR] at hbk
 |map s v l=>
  simp only[xR] at hbk;split at hbk
  .rename_i hp;rw[aQU] at hp;simp only[aQE,aRc,true_and] at hbk;subst hbk;obtain⟨p,es,cl,hp1,hp0,hh,hM,hS⟩:=hblk;exact⟨⟨p,es,cl,by rw[hJ];exact hp1,hp0,hh,MY (g:=g') (g':=sS g g' base W (pS upd)) rfl hp.1 hp.2 hM,hS⟩,fun bb oo ⟨pp,hpp,e⟩=>⟨pp,by rw[hJ] at hpp;exact hpp,e⟩⟩
  .cases hbk
 |cells t y ts=>simp [xR] at hbk
theorem aJv {side:List Prop}{s:pN}{rds:pA}{vv:pC}(hs:rD (sS g g' base W (pS upd)) w' s vv):rL g w H ⟨side,s,upd,rds⟩ (sS g g' base W (pS upd)) w' vv:=by
 have le:=aAM hH hm hr hb hf;have fr:=aJu hH hm hr hb hf;have gho: ∀i,i∉pS upd->(sS g g' base W (pS upd)).J i=g.J i/\(sS g g' base W (pS upd)).cur i=g.cur i:=fun i hi=>
  aAK hH hm hr hb hf (fun h=>hi h.2) (SP fun c hc=>hi ((CJ hH hm hr hb hf hc).1))
 have perm: ∀i blk b o,i∈pS upd->pQ (qH upd H) i=some blk->rK (sS g g' base W (pS upd)) i blk b o->w.heap.size<=b\/s6 g H (pS upd) b o:=by
  intro i blk b o hi hg ho;rcases SR hH hm hr hb hf hi hg with⟨c,i',u,x,toks,off,b0,h1,h2,h3,h4⟩ |⟨c,k,b0,h1,h2,h3,h4⟩ |⟨c,b0,h1,h2,h3,h4⟩
  .subst h2;obtain⟨_,k2,_⟩:=XN hH hm hr hb hf h1 h3 h4;exact .inr ⟨i,_,hi,(k2 b o ho).2,(k2 b o ho).1⟩
  .subst h2;obtain⟨_,k2⟩:=XP hH hm hr hb hf h1 h3 h4;exact(hr.perm c b0 b o h3 (k2 b o ho)).imp id fun h=>XM hH hm hr hb hf h
  .rw[aRf] at h2 h4;subst h2;obtain⟨_,k2⟩:=XO hH hm hr hb hf h3 h1 h4;exact(hr.perm c b0 b o h1 (k2 b o ho)).imp id fun h=>XM hH hm hr hb hf h
 refine⟨le,hs,hH.upd le fr perm gho (fun i blk hi hg=> ?_) (fun i j bi bj b o hi hj hij hgi hgj hoi hoj=> ?_) (fun b o h=>hr.heap.sl b o h),fr,perm,gho,fun i u' y us h=> ?_⟩
 .rcases SR hH hm hr hb hf hi hg with⟨c,i',u,x,toks,off,b0,h1,h2,h3,h4⟩ |⟨c,k,b0,h1,h2,h3,h4⟩ |⟨c,b0,h1,h2,h3,h4⟩
  .subst h2;exact(XN hH hm hr hb hf h1 h3 h4).1
  .subst h2;exact(XP hH hm hr hb hf h1 h3 h4).1
  .rw[aRf] at h2 h4;subst h2;exact(XO hH hm hr hb hf h3 h1 h4).1
 .have cls: ∀{i:Nat}{blk:pM},i∈pS upd->pQ (qH upd H) i=some blk->rK (sS g g' base W (pS upd)) i blk b o->
    (∃c u x toks off b0,W[c]? =some (.box i u x toks off)/\r.H[c]? =some b0/\rK g i (.cells u x toks) b o/\pQ H i=some (.cells u x toks)/\(rK g' c b0 b o\/(b<w.heap.size/\¬wB (uE g W) (pX 0 L) b o)))\/
    (∃c b0,yE base r.H.length c W[c]? =some i/\r.H[c]? =some b0/\rK g' c b0 b o):=by
   intro i blk hi hg ho;rcases SR hH hm hr hb hf hi hg with⟨c,i',u,x,toks,off,b0,h1,h2,h3,h4⟩ |⟨c,k,b0,h1,h2,h3,h4⟩ |⟨c,b0,h1,h2,h3,h4⟩
   .subst h2;obtain⟨_,k2,k3⟩:=XN hH hm hr hb hf h1 h3 h4;exact .inl ⟨c,u,x,toks,off,b0,h1,h3,(k2 b o ho).1,(k2 b o ho).2,k3 b o ho⟩
   .subst h2;obtain⟨_,k2⟩:=XP hH hm hr hb hf h1 h3 h4;exact .inr ⟨c,b0,by rw[h1];rfl,h3,k2 b o ho⟩
   .rw[aRf] at h2 h4;subst h2;obtain⟨_,k2⟩:=XO hH hm hr hb hf h3 h1 h4;exact .inr ⟨c,b0,by rw[h3];simp only[yE];rw[aQI (aQP.1 h1).1],h1,k2 b o ho⟩
  have cross: ∀{c c':Nat}{b0 b1:pM},c≠c'->r.H[c]? =some b0->r.H[c']? =some b1->rK g' c b0 b o->rK g' c' b1 b o->False:=fun hne h1 h2 o1 o2=>
   hr.heap.dis _ _ _ _ b o hne (by rw[vE];exact h1) (by rw[vE];exact h2) o1 o2
  rcases cls hi hgi hoi with⟨c,u,x,toks,off,b0,h1,h2,h3,h4,h5⟩ |⟨c,b0,h1,h3,h4⟩<;>rcases cls hj hgj hoj with⟨c',u',x',toks',off',b0',k1,k2,k3,k4,k5⟩ |⟨c',b0',k1,k3,k4⟩
  .exact hH.dis i j _ _ b o hij h4 k4 h3 k3
  .rcases h5 with h5|⟨h5,h6⟩
   .exact cross (fun e=>by subst e;rw[h1] at k1;cases k1) h2 k3 h5 k4
   .rcases hr.perm c' b0' b o k3 k4 with h|h
    .omega
    .exact h6 h
  .rcases k5 with k5|⟨k5,k6⟩
   .exact cross (fun e=>by subst e;rw[k1] at h1;cases h1) h3 k2 h4 k5
   .rcases hr.perm c b0 b o h3 h4 with h|h
    .omega
    .exact k6 h
  .exact cross (fun e=>by subst e;rw[h1] at k1;exact hij (aQH k1)) h3 k3 h4 k4
 .by_cases hi:i∈pS upd
  .rcases SR hH hm hr hb hf hi h with⟨c,i',u,x,toks,off,b0,h1,h2,h3,h4⟩ |⟨c,k,b0,h1,h2,h3,h4⟩ |⟨c,b0,h1,h2,h3,h4⟩
   .subst h2;obtain⟨_,_,bL,hL,hok⟩:=CJ hH hm hr hb hf h1;cases b0 with
    |cells t y0 ts=>
     obtain⟨y2,z,_,hset,hq⟩:=XK h4;simp only[aRc,pM.cells.injEq,true_and] at hq;obtain⟨rfl,_⟩:=hq;cases bL with
     |cells=>exact .inl ⟨x,toks,hok.1⟩
     |_=>exact hok.elim
    |grow=>simp [w8] at h4
    |row=>simp [w8] at h4
    |map=>simp [w8] at h4
    |iter=>simp [w8] at h4
    |dead=>simp [w8] at h4
   .cases b0 with
    |cells t y0 ts=>simp [xR] at h4
    |iter=>simp [xR] at h4
    |map=>simp only[xR] at h4;split at h4<;>simp at h4
    |row=>simp only[xR] at h4;split at h4<;>simp at h4
    |_=>simp [xR] at h4
   .rw[aRf] at h2;exact .inr (hf i hi oW)
  .exact .inl ⟨y,us,(zX hi).symm.trans h⟩
end
section
variable {P:Program}{g:Gh}{w:pB}
def aJw (P:Program) (g:Gh) (w:pB) (d:Nat) (ty:Ty) (x y:ty.den):WO->Prop
 | .ty t=> ∀vx vy,sM g w ty x vx->sM g w ty y vy->∃b,zJ ty x y=some b/\(Op.equalIn (d+1) t vx vy).run P w= .ok b w
 | .fs o l=> ∀px py cx cy,px.length=o->py.length=o->Rd g w ty x cx->Rd g w ty y cy->∃b,zJ ty x y=some b/\(Op.eqFields (d+1) (px++cx).toArray (py++cy).toArray l).run P w= .ok b w
 | .el e i m=> ∀px py cx cy,px.length=i*P.cellsOf e->py.length=i*P.cellsOf e->Rd g w ty x cx->Rd g w ty y cy->∃b,zJ ty x y=some b/\(Op.eqItems (d+1) e (P.cellsOf e) (px++cx).toArray (py++cy).toArray (List.range' i m)).run P w= .ok b w
theorem aJx {e:TypeId}{n:Nat}(h:(P.info? e).map (·.size)=some n):P.cellsOf e=n:=by
 obtain⟨i,h1,h2⟩:=aQQ.1 h;simp [Program.cellsOf,h1,h2]
theorem wR.run {n:Nat}{ix:WO}{ty:Ty}(h:wR P n ix ty): ∀(d:Nat),n<=d->∀x y:ty.den,aJw P g w d ty x y ix:=by
 induction h with
 |bool hu=>
  intro d _ x y vx vy hx hy;obtain rfl:=uI hx;obtain rfl:=uI hy;exact⟨_,rfl,run_equalIn_bool' w d _ _ _ hu⟩
 |int hu=>
  intro d _ x y vx vy hx hy;obtain rfl:=uT hx;obtain rfl:=uT hy;refine⟨_,rfl,(run_equalIn_int w d _ _ _ _ _ hu).trans ?_⟩;congr 1
 |str hu=>
  intro d _ x y vx vy hx hy;obtain rfl:=uZ hx;obtain rfl:=uZ hy;refine⟨_,rfl,(run_equalIn_string w d _ _ _ hu).trans ?_⟩;congr 1;rw[ByteArray.toList_eq,ByteArray.toList_eq];exact N2 _ _
 | @struct h0 t0 fs0 ty0 hr hu hs _ ih=>
  intro d hd x y vx vy hx hy;obtain⟨cx,rfl,rx⟩:=HM hr hx;obtain⟨cy,rfl,ry⟩:=HM hr hy;obtain⟨d,rfl⟩: ∃d',d=d'+1:=⟨d-1,oW⟩;obtain⟨b,h1,h2⟩:=ih d oW x y [] [] cx cy rfl rfl rx ry;refine⟨b,h1,?_⟩;have hf:P.fieldsOf t0=fs0:=by unfold Program.fieldsOf;rw[hu]
  rw[run_equalIn_struct w _ _ _ _ (by rw[hf];exact hu) hs,hf];simpa using h2
 |arr hr hu hi _ ih=>
  intro d hd x y vx vy hx hy;obtain⟨cx,rfl,rx⟩:=HM hr hx;obtain⟨cy,rfl,ry⟩:=HM hr hy;obtain⟨d,rfl⟩: ∃d',d=d'+1:=⟨d-1,oW⟩;obtain⟨b,h1,h2⟩:=ih d oW x y [] [] cx cy oY oY rx ry;refine⟨b,h1,?_⟩;obtain⟨i,hi⟩:=aQF.1 hi;rw[run_equalIn_array w _ _ _ hu hi,List.range_eq_range'];simpa using h2
 |nil=>
  intro d _ x y px py cx cy _ _ _ _;exact⟨true,rfl,by simp [Op.eqFields]⟩
 |anil=>
  intro d _ x y px py cx cy _ _ _ _;exact⟨true,rfl,by simp [Op.eqItems]⟩
 | @cons h o f r a b hn ho hsz hrow _ _ iha ihb=>
  intro d hd x y px py cx cy hpx hpy ⟨x1,x2,ex,rx1,rx2⟩ ⟨y1,y2,ey,ry1,ry2⟩;subst ex;subst ey;obtain⟨vx,p1,v1⟩:=N3 (P:=P) (c1:=px) (c3:=x2) hsz hrow rx1;obtain⟨vy,p2,v2⟩:=N3 (P:=P) (c1:=py) (c3:=y2) hsz hrow ry1;obtain⟨b1,e1,r1⟩:=iha d hd x.1 y.1 vx vy v1 v2;obtain⟨b2,e2,r2⟩:=ihb d hd x.2 y.2 (px++x1) (py++y1) x2 y2 (by rw[aQG,hpx,s3 rx1]) (by rw[aQG,hpy,s3 ry1]) rx2 ry2;refine⟨b1&&b2,by simp only[zJ,e1,e2,zJ.eqAnd],?_⟩;rw[aQR] at p1 p2 r2;rw[aQR] at r2;rw[hpx,<-ho] at p1;rw[hpy,<-ho] at p2;simp only[Op.eqFields,aQI hn,aQS,p1,p2,aQK,r1];cases b1
  .simp
  .simpa using r2
 | @acons h e i m a b hsz hrow _ _ iha ihb=>
  intro d hd x y px py cx cy hpx hpy ⟨x1,x2,ex,rx1,rx2⟩ ⟨y1,y2,ey,ry1,ry2⟩;subst ex;subst ey;have hc:=aJx hsz;obtain⟨vx,p1,v1⟩:=N3 (P:=P) (c1:=px) (c3:=x2) hsz hrow rx1;obtain⟨vy,p2,v2⟩:=N3 (P:=P) (c1:=py) (c3:=y2) hsz hrow ry1;obtain⟨b1,e1,r1⟩:=iha d hd x.1 y.1 vx vy v1 v2;obtain⟨b2,e2,r2⟩:=ihb d hd x.2 y.2 (px++x1) (py++y1) x2 y2 (by rw[aQG,hpx,s3 rx1,hc,aRB]) (by rw[aQG,hpy,s3 ry1,hc,aRB]) rx2 ry2;refine⟨b1&&b2,by simp only[zJ,e1,e2,zJ.eqAnd],?_⟩;rw[aQR] at p1 p2 r2;rw[aQR] at r2;rw[hpx] at p1;rw[hpy] at p2;simp only[aSq,Op.eqItems,aQS,p1,p2,aQK,r1];cases b1
  .simp
  .simpa using r2
variable {o:Oper}{a:Act}{H:rH}{T:rW}(hT:vK P T) (hH:rR g w H)
include hT hH
theorem aJy {op:BinOp}{xt yt:TypeId}{x y:Operand}(ho:o.op= .binOp op xt x y yt) {sx sy:pN}(hx:rD g w sx (a.eval x)) (hy:rD g w sy (a.eval y)) {e:q9}
  (hr:yA (V7 (rE T xt) op sx sy)=some e):r7 P o a g w H e:=by
 obtain⟨q,hq,rfl⟩:=FH hr;have go: ∀{u v:pC},a.eval x=u->a.eval y=v->(∃z,(do eqGuard op xt x y u v;Go.binOp op xt u v:Sem pC).run P w= .ok z w/\xV g w q.2 z)->r7 P o a g w H ⟨q.1,(q.2,none),[],[]⟩:=by
  rintro u v rfl rfl ⟨z,hz,hd⟩;refine r7.pure hH (v:=z) ?_ hd;unfold execOp;rw[ho];simp only[aQS,aQ6] at hz|-;rw[hz];rfl
 replace hx:=hx.1;replace hy:=hy.1;generalize hti:rE T xt=oti at hq;unfold V7 at hq;split at hq
 .rename_i u el by' ar ls_ t l k k';have hd:=(sI hT hti).2;simp only[wJ] at hd;obtain⟨ax,cx,ex,hle,hll⟩:=AK hx;have hnil:ax=none->l=[]:=fun h=>by
   rcases hll with h1|⟨b,o,h1,_⟩
   .exact h1
   .rw[h] at h1;cases h1
  have ey:a.eval y= .slice none 0 0:=hy;refine go ex ey ?_;unfold QM at hq;split at hq
  .cases hq;have h1:(do eqGuard .eql xt x y (.slice ax (List.length l) cx) (.slice none 0 0);Go.binOp .eql xt (.slice ax (List.length l) cx) (.slice none 0 0):Sem pC).run P w= .ok (.bool ax.isNone) w:=by
    simp only[aQS];rw[show (eqGuard .eql xt x y (.slice ax (List.length l) cx) (.slice none 0 0)).run P w= .ok () w from by simp [eqGuard]];exact Lib.run_eql_slice_nil (P:=P) w xt _ ax (List.length l) cx 0 0 hd.1
   exact⟨_,h1,_,rfl,fun h=>hnil (by simpa using h),fun _=>trivial⟩
  .cases hq;have h1:(do eqGuard .neq xt x y (.slice ax (List.length l) cx) (.slice none 0 0);Go.binOp .neq xt (.slice ax (List.length l) cx) (.slice none 0 0):Sem pC).run P w= .ok (.bool (!ax.isNone)) w:=by
    simp only[aQS];rw[show (eqGuard .neq xt x y (.slice ax (List.length l) cx) (.slice none 0 0)).run P w= .ok () w from by simp [eqGuard]];exact run_neq_slice_nil_any (P:=P) w xt _ ax (List.length l) cx 0 0 hd.1
   exact⟨_,h1,_,rfl,fun _=>trivial,fun h=>hnil (by simpa using h)⟩
  .cases hq
 .rename_i u el by' ar ls_ k t l k';have hd:=(sI hT hti).2;simp only[wJ] at hd;obtain⟨ay,cy,ey,hle,hll⟩:=AK hy;have hnil:ay=none->l=[]:=fun h=>by
   rcases hll with h1|⟨b,o,h1,_⟩
   .exact h1
   .rw[h] at h1;cases h1
  have ex:a.eval x= .slice none 0 0:=hx;refine go ex ey ?_;unfold QM at hq;split at hq
  .cases hq;have h1:(do eqGuard .eql xt x y (.slice none 0 0) (.slice ay (List.length l) cy);Go.binOp .eql xt (.slice none 0 0) (.slice ay (List.length l) cy):Sem pC).run P w= .ok (.bool ay.isNone) w:=by
    simp only[aQS];rw[show (eqGuard .eql xt x y (.slice none 0 0) (.slice ay (List.length l) cy)).run P w= .ok () w from by simp [eqGuard]];exact run_eql_nil_slice (P:=P) w xt _ ay (List.length l) cy 0 0 hd.1
   exact⟨_,h1,_,rfl,fun h=>hnil (by simpa using h),fun _=>trivial⟩
  .cases hq;have h1:(do eqGuard .neq xt x y (.slice none 0 0) (.slice ay (List.length l) cy);Go.binOp .neq xt (.slice none 0 0) (.slice ay (List.length l) cy):Sem pC).run P w= .ok (.bool (!ay.isNone)) w:=by
    simp only[aQS];rw[show (eqGuard .neq xt x y (.slice none 0 0) (.slice ay (List.length l) cy)).run P w= .ok () w from by simp [eqGuard]];exact run_neq_nil_slice (P:=P) w xt _ ay (List.length l) cy 0 0 hd.1
   exact⟨_,h1,_,rfl,fun _=>trivial,fun h=>hnil (by simpa using h)⟩
  .cases hq
 .rename_i u el b ar ls_ t x' k t' y' k';unfold a8Z at hq;split at hq
  .rename_i htt;subst htt;split at hq
   .rename_i hc;obtain⟨rfl,hc⟩:=hc;simp only[tI] at hq;obtain⟨r,hr1,hr2⟩: ∃r,zJ t' x' y'=some r/\((op= .eql/\q=([],.val .bool r))\/(op= .neq/\q=([],.val .bool (!r)))):=by
     generalize hgen:zJ t' x' y'=od at hq;unfold a8X at hq;split at hq
     .rename_i r;cases hq;exact⟨r,rfl,.inl ⟨rfl,rfl⟩⟩
     .rename_i r;cases hq;exact⟨r,rfl,.inr ⟨rfl,rfl⟩⟩
     .cases hq
    have hti':=sI hT hti;rcases hc with rfl|⟨hrow,rfl⟩
    .have hd:=hti'.2;simp only[wJ] at hd;obtain hbx:=uI hx;obtain hby:=uI hy;refine go hbx hby ?_;have hrr:r=(x'==y'):=(aQH hr1).symm;subst hrr;have hrun:=run_equalIn_bool' (P:=P) w 9999 xt x' y' hd;rcases hr2 with⟨rfl,rfl⟩ |⟨rfl,rfl⟩
     .refine⟨.bool (x'==y'),?_,v6 _ _ _⟩;simp only[aQS];rw[show (eqGuard .eql xt x y (.bool x') (.bool y')).run P w= .ok () w from by simp [eqGuard]];simp only[aQK,Go.binOp,Op.equal,Op.maxDepth,aQS,hrun,aQ6]
     .refine⟨.bool (!(x'==y')),?_,v6 _ _ _⟩;simp only[aQS];rw[show (eqGuard .neq xt x y (.bool x') (.bool y')).run P w= .ok () w from by simp [eqGuard]];simp only[aQK,Go.binOp,Op.equal,Op.maxDepth,aQS,hrun,aQ6]
    .have h2:=hti'.2;have heq:P.eqGuardType P.depth xt=false/\∃h,h<9000/\wR P h (.ty xt) t':=by
      unfold wJ at h2;cases t'<;>simp only[Ty.isRow,aSg] at hrow
      all_goals exact h2.2 rfl
     obtain⟨hg1,hh,hlt,hE⟩:=heq;obtain⟨cx,ex,rx⟩:=HM hrow hx;obtain⟨cy,ey,ry⟩:=HM hrow hy;obtain⟨b',hb1,hb2⟩:=hE.run (g:=g) (w:=w) 9999 oW x' y' _ _ hx hy;rw[hr1] at hb1;obtain rfl:=aQH hb1;rw[ex,ey] at hb2;refine go ex ey ?_;rcases hr2 with⟨rfl,rfl⟩ |⟨rfl,rfl⟩
     .refine⟨.bool r,?_,v6 _ _ _⟩;simp only[aQS];rw[run_eqGuard_agg w _ _ _ _ _ _ hg1];simp only[aQK];rw[run_eql_struct,hb2];rfl
     .refine⟨.bool (!r),?_,v6 _ _ _⟩;simp only[aQS];rw[run_eqGuard_agg w _ _ _ _ _ _ hg1];simp only[aQK];rw[run_neq_struct,hb2];rfl
   .cases hq
  .cases hq
 .cases hq
end
end Go.Proofs.YtkpflnijijccpaaGreatDoor.Vc
namespace Go.Proofs.YtkpflnijijccpaaGreatDoor.Vc
open Go.RowKit
theorem aJz (s:oT):Lib.strCells ⟨s.toArray⟩=s.map fun b=>Value.int .u8 b.toNat:=by
 simp [Lib.strCells]
theorem aJA {P:Program}(w:pB) (t u ty e:TypeId) (i:TypeInfo) (ht:P.underlying t=some (.slice e)) (hu:P.underlying u=some .string) (hi:P.info? e=some i) (hz:i.zero=some (.int .u8 0))
  (hsize:i.size=1) (hby:i.bytes=1) (v:pC) (n:Nat) (xs:p7) (hown:w.ownsRow 0 e 1 v n xs) (s:ByteArray) (hm:0<s.size)
  (h63:n+s.size<=maxLen) (hbytes:n+s.size<=140737488355328):
  ∃q cap w',(Builtin.append_ #[t,u] ty #[v,.string s]).run P w= .ok (.slice (some ⟨q,0,none⟩) (n+s.size) cap) w'/\w'.ownsRow 0 e 1 (.slice (some ⟨q,0,none⟩) (n+s.size) cap) (n+s.size) (xs++Lib.strCells s)/\
   (q=w.heap.size\/v.ownBlock=some q)/\w.grownBy w' v.ownBlock/\n+s.size<=cap/\
   ∀b o,b<w.heap.size->(v.ownBlock=some b->o<n*1)->w'.cell? ⟨b,o,none⟩=w.cell? ⟨b,o,none⟩:=by
 have hsmall:n+s.size<=9223372036854775807:=by simp only[maxLen] at h63;omega
 have hxl:xs.length=n:=by simpa using hown.1
 have hlen:(xs++Lib.strCells s).length=(n+s.size)*1:=by rw[aQG,hxl,Lib.strCells_length,aSt]
 have grown: ∀(old:Nat),old<n+s.size->∀(row:p9),
   (w.drew.alloc (.cells (xs.toArray++(Lib.strCells s).toArray++Builtin.zeroCells (Value.int .u8 0).cells (grownCap w (n+s.size) old e- (n+s.size))) e)).ownsRow 0 e 1
    (.slice (some ⟨w.heap.size,0,none⟩) (n+s.size) (grownCap w (n+s.size) old e)) (n+s.size) (xs++Lib.strCells s)/\
   w.grownBy (w.drew.alloc (.cells (xs.toArray++(Lib.strCells s).toArray++Builtin.zeroCells (Value.int .u8 0).cells (grownCap w (n+s.size) old e- (n+s.size))) e)) row/\n+s.size<=grownCap w (n+s.size) old e/\
   ∀b o,b<w.heap.size->(w.drew.alloc (.cells (xs.toArray++(Lib.strCells s).toArray++Builtin.zeroCells (Value.int .u8 0).cells (grownCap w (n+s.size) old e- (n+s.size))) e)).cell? ⟨b,o,none⟩=w.cell? ⟨b,o,none⟩:=by
  intro old ho row;have hge:=grownCap_ge w (n+s.size) old e;have hcm:grownCap w (n+s.size) old e<=maxLen:=grownCap_le_maxLen w (n+s.size) old e h63;refine⟨⟨hlen,.inr ⟨w.heap.size,_,_,rfl,aRJ _,aSz w.drew _,hge,hcm,?_,?_⟩⟩,⟨rfl,rfl,rfl,by simp,fun k hk _=>aRa w.drew _ k hk⟩,hge,fun b o hb=>aQ5 (w:=w) (a:=⟨b,o,none⟩) (aRa w.drew _ b hb)⟩
  .have hz1:(Value.int IntKind.u8 0).cells.size=1:=rfl;simp only[aSm,aRo,size_zeroCells,hz1,hxl,Lib.strCells_length];omega
  .simp only[Array.toList_append,aQR];rw[<-aQR,<-hlen];exact aRZ
 rcases hown.2 with⟨rfl,rfl⟩ |⟨g,cap,cur,rfl,hbg,hg,hnc,hcm,hcs,htake⟩
 .have hx:xs=[]:=aRe hxl;subst hx;have hr:=run_append_nil_string (P:=P) w t u ty e i (.int .u8 0) ht hu hi hz s oW oW (by rw[hby];omega);have hgr:=grown 0 oW (Value.ownBlock (.slice none 0 0));simp only[aRf,List.nil_append,Array.empty_append] at hgr|-;have e1:(s.data.map fun b=>Value.int .u8 b.toNat)=(Lib.strCells s).toArray:=by
   apply Array.ext';simp [Lib.strCells]
  rw[e1] at hr;exact⟨_,_,_,hr,hgr.1,.inl rfl,hgr.2.1,hgr.2.2.1,fun b o hb _=>hgr.2.2.2 b o hb⟩
 .by_cases hroom:n+s.size<=cap
  .have hcs':cur.size=cap:=by simpa using hcs
   have hr:=Lib.run_append_room_string (P:=P) w t u ty e i ht hu hi hsize g n cap cur hg s hroom oW;refine⟨_,_,_,hr,⟨hlen,.inr ⟨g,cap,_,rfl,hbg,aSs w g cur _ e _ hg,hroom,hcm,?_,?_⟩⟩,.inr rfl,⟨rfl,rfl,rfl,by simp,fun k _ hk=>aRY w g k _ (fun e=>hk (by simp [Value.ownBlock,e]))⟩,hroom,fun b o hb hso=> ?_⟩
   .simp only[aRo,aQG,aRd,aRg,aRb,Lib.strCells_length];omega
   .have ht':cur.toList.take n=xs:=by simpa using htake
    rw[ht',<-hlen];exact aRZ
   .by_cases hbg':b=g
    .subst hbg';have ho:=hso rfl;rw[cell_setRow_same w b o cur _ e _ hg,cell_of_row w b o cur e (0,0) hg];have hlt:o<(cur.toList.take n).length:=by rw[aRd,aRb];omega
     have hlt2:o<cur.size:=by rw[aRd,aRb] at hlt;omega
     simp only[List.getElem?_toArray,aQR];rw[aQT hlt,aSf,aQI oW];simp
    .exact aQ5 (a:=⟨b,o,none⟩) (aRY w g b _ hbg')
  .have holds: ∀j u,xs[j]? =some u->w.cell? ((⟨g,0,none⟩:Addr).add j)=some u:=hown.cells (g:=g) rfl;have hr:=Lib.run_append_grow_string (P:=P) w t u ty e i (.int .u8 0) ht hu hi hz ⟨g,0,none⟩ n cap xs (by rw[hsize];simpa using hxl) holds s oW oW (by rw[hby];exact growslice_fits oW oW);have hgr:=grown cap oW (Value.ownBlock (.slice (some ⟨g,0,none⟩) n cap));exact⟨_,_,_,hr,hgr.1,.inl rfl,hgr.2.1,hgr.2.2.1,fun b o hb _=>hgr.2.2.2 b o hb⟩
theorem aJB {P:Program}(w:pB) (t u ty e:TypeId) (i:TypeInfo) (ht:P.underlying t=some (.slice e)) (hu:P.underlying u=some .string) (hi:P.info? e=some i) (hsize:i.size=1) (ad:Option Addr) (n c:Nat) (hle:n<=c):
  (Builtin.append_ #[t,u] ty #[.slice ad n c,.string ⟨#[]⟩]).run P w= .ok (.slice ad n c) w:=by
 have hf:=Lib.run_firstCells_string (P:=P) w 1 ⟨#[]⟩;have hm:(⟨#[]⟩:ByteArray).size=0:=rfl;rw[hm] at hf;cases ad<;>simp [Builtin.append_,aQX ht,aQX hu,sizeOf,typeInfo,hi,hsize,Builtin.lenOf,hm,hf,hle,Lib.strCells,storeCells]
theorem aAR (g:Gh) (w:pB): ∀s:oT,sQ (Rd g w (.int .u8)) 1 (tY s) (s.map fun b=>Value.int .u8 b.toNat)
 |[]=>rfl
 |b::s=>⟨[.int .u8 b.toNat],_,rfl,rfl,rfl,aAR g w s⟩
section
variable {P:Program}{o:Oper}{a:Act}{g:Gh}{w:pB}{H:rH}{T:rW}(hT:vK P T) (hH:rR g w H)
include hT hH
theorem aJC {t t':TypeId}{x:Operand}(ho:o.op= .convert t t' x) {sx:pN}(hx:rD g w sx (a.eval x)) {e:q9}
  (hr:yA (VA T (rE T t) (rE T t') sx)=some e):r7 P o a g w H e:=by
 obtain⟨q,hq,rfl⟩:=FH hr;replace hx:=hx.1;generalize h1:rE T t=o1 at hq;generalize h2:rE T t'=o2 at hq;unfold VA at hq;split at hq
 .rename_i e b1 a1 l1 e2 b2 a2 l2 l k;generalize h3:rE T e=o3 at hq;unfold a80 at hq;split at hq
  .cases hq;have d1:=(sI hT h1).2;have d2:=(sI hT h2).2;have d3:=(sI hT h3).2;simp only[wJ] at d1 d2 d3;obtain⟨ad,cap,hv,hle,hl⟩:=AK hx;refine r7.pure hH (v:= .string ⟨(sN l).toArray⟩) ?_ (yX _ _ _);simp only[execOp,ho,hv,aQS];have run:(convert t t' (.slice ad (List.length l) cap)).run P w= .ok (.string ⟨(sN l).toArray⟩) w:=by
    rcases hl with rfl|⟨b,off,rfl,hL⟩
    .rw[run_convert_bytes_string w t t' e ad _ cap d1.1 d3 d2];cases ad with
     |none=>simp [Conv.bytesToString,sN];rfl
     |some ad=>simp [Conv.bytesToString,loadCells,loadCellsFrom,sN];rfl
    .have:=run_convert_bytes_arg (P:=P) w t e d1.1 d3 b off (List.length l) cap l rfl (fun i hi=>by
      obtain⟨cs,_,c2,_,c4⟩:=JZ hL (aQM hi);have c5:cs=[.int .u8 (l[i]:Int)]:=c4;subst c5;have:=c2 0 _ rfl;have hcell:Ty.cells (.int .u8)=1:=rfl;rw[hcell,aSt,aRL] at this;rw[this,aQ9,aQM hi];rfl) t' d2
     exact this
   rw[run];rfl
  .cases hq
 .cases hq
theorem aJD {args:Array Operand}{tys:Array TypeId}(ho:o.op= .call ⟨.builtin .append,args,tys⟩) {ρ:Operand->pN}(hρ: ∀x∈args.toList,rD g w (ρ x) (a.eval x)) {e:q9}
  (hr:RQ T H (uH ρ args.toList) tys.toList=some e) (hs: ∀p∈e.side,p):r7 P o a g w H e:=by
 unfold RQ at hr;split at hr
 .rename_i t u htu;have htys:tys= #[t,u]:=by apply aRA.1;rw[htu]
  split at hr
  .rename_i e1;subst e1;exact aIX hT hH ho hρ htys hr hs
  .clear htu;subst htys;generalize hst:rE T t=ot at hr;generalize hsu:rE T u=ou at hr;generalize hss:uH ρ args.toList=ss at hr;unfold WB at hr;split at hr
   .rename_i el ar ls_ e2 b2 a2 ls2 l k s k2;generalize hk:pQ H k=ob at hr;unfold RP at hr;split at hr
    .rename_i e' c n;split at hr
     .rename_i hec;obtain⟨rfl,rfl⟩:=hec;cases hr;rw[aQG];have hsl:List.length (tY s)=List.length s:=by simp [tY]
      rw[hsl];have hln:=hs _ (by simp:(List.length l=n)∈_);have hby:=hs _ (by simp:(List.length l+List.length s<=140737488355328)∈_);obtain⟨v,vr,hv,hs1,hs2⟩:=SB hT hH hρ hss;obtain⟨h2,h3,_⟩:=(sI hT hst).2;have hu:=(sI hT hsu).2;simp only[wJ] at hu;obtain⟨ei,hei,hz⟩:=aQQ.1 h3;simp only[aRc] at hz;obtain⟨cs,hx⟩:=DQ (a:=a) hT hH ho;obtain⟨v0,xs,hv0,hown,hnone,hseal⟩:=hH.blk k _ hk;have hcur:g.cur k (List.length l)=some v:=hs1.2;rw[hln,hv0] at hcur;obtain rfl:=aQH hcur;obtain⟨adl,capl,hvl,hlel,hll⟩:=AK hs1.1;have hvr:=uZ hs2.1;have hsz:(⟨List.toArray s⟩:ByteArray).size=List.length s:=by simp [ByteArray.size]
      by_cases hm:List.length s=0
      .obtain rfl:s=[]:=aRe hm;have hget: ∀i,pQ (qH [(k,pM.grow e' 1 (List.length l+List.length ([]:oT)))] H) i=pQ H i:=by
        intro i;simp only[qH,pQ];by_cases hi:k=i
        .subst hi;rw[aQI rfl,hk,hln];rfl
        .rw[aQO hi]
       have hkeep:rL g w H ⟨[List.length l=n,List.length l+List.length ([]:oT)<=140737488355328],(.val (.list (.int .u8)) (l++tY []),some k),[(k,.grow e' 1 (List.length l+List.length ([]:oT)))],[k]⟩ g w v0:=by
        refine⟨.refl _ _,?_,⟨fun i b h=>hH.blk i b ((hget i).symm.trans h),fun i j bi bj b o' hij h1 h2=>hH.dis i j bi bj b o' hij ((hget i).symm.trans h1) ((hget j).symm.trans h2),hH.sl,hH.tab.1,fun i blk b o' h ho'=>hH.tab.2 i blk b o' ((hget i).symm.trans h) ho'⟩,.refl _ _ _,fun i blk b o' hi hg ho'=> .inr ⟨i,blk,hi,(hget i).symm.trans hg,ho'⟩,fun _ _=>⟨rfl,rfl⟩,fun i u' y us h=> .inl ⟨y,us,(hget i).symm.trans h⟩⟩;rw[show l++tY []=l from by simp [tY]];exact hs1
       refine r7.value (v:=v0) (w':=w) ?_ hkeep;rw[hx,hv,hvr,hvl];have:=aJB (P:=P) w t u o.type e' ei h2 hu hei (by rw[hz.1];rfl) adl (List.length l) capl hlel;simp only[builtin,aQS];rw[this];simp only[aQK,aQ6]
      .have hxs:sQ (Rd g w (.int .u8)) 1 l xs:=by
        by_cases h0:List.length l=0
        .obtain rfl:l=[]:=aRe h0;have:xs=[]:=aRe (by rw[hown.1,<-hln];simp);exact this
        .rcases hll with rfl|⟨b0,off0,rfl,hL0⟩
         .exact absurd rfl h0
         .obtain⟨ls,hF0,hra0,_⟩:=K2 hL0;rcases hown.2 with⟨e1,e2⟩ |⟨q,cap,cur,e1,e2⟩
          .exact absurd (hln.trans e2) h0
          .rw[hvl] at e1;simp only[aSy,aQE,Addr.mk.injEq] at e1;obtain⟨⟨rfl,rfl,_⟩,_,rfl⟩:=e1;have hvn:v0= .slice (some ⟨b0,0,none⟩) n capl:=by rw[hvl,hln]
           have hrx:=X3 (hvn▸hown);have:ls=xs:=by
            have hl1:=FG hF0;have hl2:=hown.1;have hc1:Ty.cells (.int .u8)=1:=rfl;rw[hc1] at hl1;apply List.ext_getElem?;intro j;by_cases hj:j<ls.length
            .have h1:=hra0 j ls[j] (aQM hj);have hj':j<xs.length:=by rw[hl2,<-hln,<-hl1];exact hj
             have h2:=hrx j xs[j] (aQM hj');rw[h1] at h2;rw[aQM hj,aQM hj',aQH h2]
            .rw[aRU oW,aRU (by rw[hl2,<-hln,<-hl1];omega)]
           rw[<-this];exact hF0
       obtain⟨q,cap,w',hrun,hown',hq,hg,hcap,hcell⟩:=aJA (P:=P) w t u o.type e' ei h2 hu hei hz.2.2 hz.1 hz.2.1 v0 n xs hown ⟨List.toArray s⟩ (by rw[hsz];omega) (by rw[hsz];unfold maxLen;omega) (by rw[hsz];omega);rw[hsz] at hrun hown' hcap;rw[aJz] at hown';refine r7.value (v:= .slice (some ⟨q,0,none⟩) (n+List.length s) cap) (w':=w') ?_ (by
        have:=rL.append (side:=[List.length l=n,List.length l+List.length s<=140737488355328]) (rds:=[k]) (u:= .int .u8) (r:=tY s) hH hk (show (1:Nat)=Ty.cells (.int .u8) from rfl) hln hv0 hown hnone hseal hxs (aAR g w s) (by rw[hsl];omega) (by rw[hsl];exact hown') hq hg (by rw[hsl];exact hcap) hcell;rw[hsl] at this;rw[hln];rw[hln] at this;exact this)
       rw[hx,hv,hvr];simp only[builtin,aQS,hrun,aQK,aQ6]
     .cases hr
    .cases hr
   .cases hr
 .cases hr
end
theorem aJE {g g':Gh}{w:pB}{f:pN→pN}(hf: ∀s u,rD g w s u→rD g' w (f s) u): ∀{l:List pN}{v:pC}{s:pN},N9 g w l v→JL (l.map f)=some s→rD g' w s v:=by
  have un: ∀{l:List pN}{vs:p7}{q},uB g w l vs→DJ (l.map f)=some q→JW g' w q vs:=by
    intro l
    induction l with
    | nil=>
      intro vs q h hq;simp only[List.map_nil,DJ,aQE] at hq;subst hq;exact h
    | cons s l ih=>
      rintro vs q ⟨v,vs',rfl,h1,h2⟩ hq;have h1':=hf s v h1;simp only[aRP] at hq;generalize f s=fs at hq h1';obtain⟨d,k⟩:=fs;cases d with
      | val t x=>
        simp only[DJ] at hq;obtain⟨q',hq',rfl⟩:=aQQ.1 hq;refine⟨v,vs',rfl,h1'.1,?_,ih h2 hq'⟩;cases k with
        |none=>trivial
        |some k=>exact h1'.2
      | own k' n=>
        simp only[DJ] at hq;obtain⟨q',hq',rfl⟩:=aQQ.1 hq;exact⟨v,vs',rfl,.inr ⟨rfl,v,h1'.1.1,rfl,h1'.1.2⟩,trivial,ih h2 hq'⟩
      |_=>simp [DJ] at hq
  intro l v s h hs
  match l,h,hs with
  | [],⟨vs,e,h⟩,hs=>
    simp only[List.map_nil,JL,aQE] at hs;subst hs;rw[show vs=[] from h] at e;exact⟨⟨[],e,rfl⟩,trivial⟩
  | [x],h,hs=>
    simp only[aRP,List.map_nil,JL,aQE] at hs;subst hs;exact hf x v h
  | x::y::l,⟨vs,e,h⟩,hs=>
    simp only[aRP,JL,aQE] at hs;subst hs;cases hq:DJ (f x::f y::l.map f) with
    |none=>exact⟨trivial,trivial⟩
    |some q=>exact⟨⟨vs,e,un (l:=x::y::l) h (by simpa using hq)⟩,trivial⟩
theorem aAS {base n:Nat}{W:List rC}: ∀l:List pN,MC base n W l=l.map (QV base n W)
  |[]=>rfl
  |s::l=>by simp [MC,aAS l]
theorem aAT {P:Program}{f:FuncId}{sg:qC}(hcon:v7 P f sg.C) {g:Gh}{w:pB}{H:rH}(hH:rR g w H) {args:List pN}{vals:p7}(hargs:uB g w args vals) {base:Nat}{e:q9}
    (hr:DK H base args (some sg)=some e) (hs: ∀p∈e.side,p) (hfr:wS g base e):Calls P f vals.toArray w (fun en w'=> ∃v g',en= .returned v∧rL g w H e g' w' v):=by
  simp only[DK] at hr;cases hp0:w7 H sg.ps args (some ⟨[],[],[],0⟩) with
  |none=>rw[hp0] at hr;cases hgs:sg.gs<;>(rw[hgs] at hr;simp [MD,yT] at hr)
  |some q0=>
   rw[hp0] at hr;cases hp:yT H sg.gs (some q0) with
   |none=>rw[hp] at hr;simp [MD] at hr
   |some q=>
    rw[hp] at hr;simp only[MD,aAI,List.append_nil] at hr;have hpo0:=aAD hH (yZ.nil g w H) hargs hp0;rw[List.nil_append] at hpo0;have hpo:=aAF hH hpo0 hp;cases hcl:F5 q.ws.reverse q.H.reverse with
    |none=>rw[hcl] at hr;simp [QY] at hr
    |some L=>
    rw[hcl] at hr;simp only[QY] at hr;have hm:=hpo.m.ren hcl;cases hc:sg.C q.args.reverse L with
    |none=>rw[hc] at hr;simp [QX] at hr
    | some r=>
      rw[hc] at hr;simp only[QX,aAH] at hr;cases hbh:yU base r.H.length q.ws.reverse 0 q.ws.reverse r.H with
      |none=>rw[hbh] at hr;simp [MB] at hr
      | some upd=>
        rw[hbh] at hr;cases hrs:JL (MC base r.H.length q.ws.reverse r.ret) with
        |none=>rw[hrs] at hr;simp [MB] at hr
        | some s=>
          rw[hrs] at hr;simp only[MB,aQE] at hr;subst hr;refine(hcon.2 (uE g q.ws.reverse) w q.args.reverse _ L r (aJf hH hm) hpo.args hc hs).mono ?_;rintro en w' ⟨v,g',rfl,hret⟩;refine⟨v,_,rfl,aJv hH hm hret hbh hfr ?_⟩;rw[aAS] at hrs;exact aJE (fun s u h=>aJt hH hm hret hbh hfr h) hret.ret hrs
theorem NC {g g':Gh}{w w':pB}: ∀{t:Ty}{x:t.den}{cs:p7},F6 t=true→Rd g w t x cs→Rd g' w' t x cs
  | .bool,_,_,_,r=>r
  | .int _,_,_,_,r=>r
  | .str,_,_,_,r=>r
  | .unit,_,_,_,r=>r
  | .fn,_,_,_,r=>r
  | .pair a b,_,_,h,⟨c1,c2,e,r1,r2⟩=>by
    simp only[F6,aQU] at h;exact⟨c1,c2,e,NC h.1 r1,NC h.2 r2⟩
  | .list _,_,_,h,_=>by cases h
  | .ref,_,_,h,_=>by cases h
  | .clo,_,_,h,_=>by cases h
  | .mp,_,_,h,_=>by cases h
  | .rl _ _,_,_,h,_=>by cases h
  | .mref,_,_,h,_=>by cases h
theorem aAU {g g':Gh}{w:pB}{k n:Nat}{t:Ty}{l:List t.den}(le:Le g w g' w) (hk: ∀u,g.cur k n=some u→((u= .slice none 0 0∧n=0)∨∃b cap,u= .slice (some ⟨b,0,none⟩) n cap∧n≤cap)→sM g' w (.list t) l u):
    ∀{args:List pN}{vals:p7},uB g w args vals→(∀p∈H8 k n args,p)→uB g' w (MF k t l args) vals
  |[],_,h,_=>h
  | s::ss,_,⟨v,vs,rfl,h1,h2⟩,hp=>by
    refine⟨v,vs,rfl,?_,aAU le hk h2 (fun p hp'=>hp p ?_)⟩
    · obtain⟨d,x⟩:=s
      cases d with
      | own j m=>
        simp only[a89];split
        · rename_i e
          subst e;have hm:m=n:=hp (j=j→m=n) (by simp only[H8];exact aQ3) rfl;subst hm;exact⟨hk _ h1.1.1 h1.1.2,trivial⟩
        .exact yW le h1
      |_=>exact yW le h1
    · obtain⟨d,x⟩:=s
      cases d with
      |own j m=>simp only[H8];exact aQZ _ hp'
      |_=>exact hp'
theorem aJF {P:Program}{f:FuncId}{sg:qC}(hcon:v7 P f sg.C) {g:Gh}{w:pB}{H:rH}(hH:rR g w H) {args:List pN}{vals:p7}(hargs:uB g w args vals) {base:Nat}{e:q9}{k:Nat}
    (hr:MG H base args sg k (pQ H k)=some e) (hs: ∀p∈e.side,p) (hfr:wS g base e):Calls P f vals.toArray w (fun en w'=> ∃v g',en= .returned v∧rL g w H e g' w' v):=by
  cases hk:pQ H k with
  |none=>rw[hk] at hr;cases hr
  | some b=>
    rw[hk] at hr;cases b with
    | row e0 t l m=>
      simp only[MG] at hr;cases hi:DK ((k,.dead)::H) base (MF k t l args) (some sg) with
      |none=>rw[hi] at hr;cases hr
      | some e1=>
        rw[hi] at hr;unfold VF at hr;split at hr
        · rename_i side t' x kk U rds heq
          simp only[aQE] at heq;subst heq;split at hr
          · rename_i hnl
            simp only[aQU,aRj] at hnl;obtain⟨⟨hnl,hU⟩,hkU⟩:=hnl;have hkU':k∉pS U:=fun h=>by rw[FJ.2 h] at hkU;cases hkU
            cases hr;obtain⟨hl,v,xs,hv,hown,hF,hnone,hseal⟩:=hH.blk k _ hk
            let g':Gh:={g with S:=fun b o=>g.S b o∨(v.ownBlock=some b∧o<m*t.cells)}
            have le:Le g w g' w:=⟨fun _ _ h=> .inl h,fun _ _ _=>rfl,fun _ _ h=>h,fun _ _ _ h=>h⟩;have hown2: ∀b,v.ownBlock=some b→∀o,rK g k (.row e0 t l m) b o:=fun b hb o=>⟨v,hv,hb⟩
            have hlist: ∀u,g.cur k m=some u→((u= .slice none 0 0∧m=0)∨∃b cap,u= .slice (some ⟨b,0,none⟩) m cap∧m≤cap)→sM g' w (.list t) l u:=by
              intro u hu hshape;rw[hv] at hu;obtain rfl:=aQH hu;rcases hshape with⟨rfl,h0⟩ |⟨b,cap,rfl,hcap⟩
              · have:l=[]:=aRe (by rw[hl,h0])
                subst this;exact .inr ⟨rfl,none,0,rfl,aQ4 _,.inl rfl⟩
              · refine .inr ⟨rfl,some ⟨b,0,none⟩,cap,by rw[hl],by rw[hl];exact hcap,.inr ⟨b,0,rfl,K0 (AJ (fun _ _ h=>vU le h) hF) (fun j u hu=> ?_) (fun j hj=> ?_)⟩⟩
                · have:=hown.cells (g:=b) rfl j u hu
                  rwa [aRN] at this
                · right
                  exact⟨rfl,by rw[hl] at hj;omega⟩
            have hget: ∀i b,pQ ((k,pM.dead)::H) i=some b→(i=k∧b= .dead)∨(i≠k∧pQ H i=some b):=by
              intro i b hb;simp only[pQ] at hb;split at hb
              .rename_i e1;exact .inl ⟨e1.symm,(aQH hb).symm⟩
              .rename_i e1;exact .inr ⟨Ne.symm e1,hb⟩
            have hH':rR g' w ((k,pM.dead)::H):=by
              refine⟨fun i b hb=> ?_,fun i j bi bj b o hij h1 h2 o1 o2=> ?_,fun b o hS=> ?_,hH.tab.1,fun i b bb oo hb ho=> ?_⟩
              · rcases hget i b hb with⟨rfl,rfl⟩ |⟨hne,h1⟩
                .trivial
                .exact JX (hH.blk i b h1) le rfl rfl (fun _ _ _=>⟨rfl,rfl⟩) (fun _ _=>rfl) (fun bb o ho hS=>by
                    rcases hS with hS|hS
                    .exact hS
                    .exact absurd (hown2 bb hS.1 o) (fun h5=>hH.dis i k b _ bb o hne h1 hk ho h5)) (fun _ _ _ _ h=>h)
              · rcases hget i bi h1 with⟨_,rfl⟩ |⟨_,h1⟩
                .exact o1.elim
                · rcases hget j bj h2 with⟨_,rfl⟩ |⟨_,h2⟩
                  .exact o2.elim
                  .exact hH.dis i j bi bj b o hij h1 h2 ((xH (g':=g') (g:=g) rfl rfl).1 o1) ((xH (g':=g') (g:=g) rfl rfl).1 o2)
              · rcases hS with hS|hS
                .exact hH.sl b o hS
                .exact N0 hown hS.1
              · rcases hget i b hb with⟨_,rfl⟩ |⟨_,h1⟩
                .exact ho.elim
                .exact hH.tab.2 i b bb oo h1 ((xH (g':=g') (g:=g) rfl rfl).1 ho)
            have hsp: ∀p,p∈H8 k m args∨p∈side→p:=fun p hp=>hs p (N8.2 hp)
            have hget2: ∀i,i≠k→pQ ((k,pM.dead)::H) i=pQ H i:=fun i hi=>by
              simp only[pQ];rw[aQO (Ne.symm hi)]
            have hin: ∀{i},i∈pS U→i≠k:=fun h e=>hkU' (e▸h)
            have hup: ∀{i blk},i∈pS U→pQ (qH U H) i=some blk→pQ (qH U ((k,pM.dead)::H)) i=some blk:=by
              intro i blk hi h
              have: ∀{U:List (Nat×pM)},i∈pS U→pQ (qH U ((k,pM.dead)::H)) i=pQ (qH U H) i:=by
                intro U
                induction U with
                |nil=>intro h;cases h
                | cons q U ih=>
                  intro h;obtain⟨j,b⟩:=q;simp only[qH,pQ];split
                  .rfl
                  · rename_i hne
                    simp only[pS,aQV] at h;exact ih (h.resolve_left (fun e=>hne e.symm))
              rw[this hi];exact h
            have hcells: ∀{i blk},i∈pS U→pQ (qH U H) i=some blk→∃t y,blk= .cells t y []∧F6 t=true:=by
              intro i blk hi h
              have: ∀{U:List (Nat×pM)},JM U=true→i∈pS U→pQ (qH U H) i=some blk→∃t y,blk= .cells t y []∧F6 t=true:=by
                intro U
                induction U with
                |nil=>intro _ h;cases h
                | cons q U ih=>
                  intro hU hi h;obtain⟨j,b⟩:=q;cases b with
                  | cells t y ts=>
                    cases ts with
                    |cons _ _=>simp [JM] at hU
                    | nil=>
                      simp only[JM,aQU] at hU;simp only[qH,pQ] at h;split at h
                      · obtain rfl:=aQH h
                        exact⟨t,y,rfl,hU.1⟩
                      · rename_i hne
                        simp only[pS,aQV] at hi;exact ih hU.2 (hi.resolve_left (fun e=>hne e.symm)) h
                  |_=>simp [JM] at hU
              exact this hU hi h
            have hownI: ∀b o,s6 g' ((k,pM.dead)::H) (pS U) b o→s6 g H (pS U) b o:=fun b o ⟨i,blk,hi,h1,h2⟩=>⟨i,blk,hi,(hget2 i (hin hi)).symm.trans h1,(xH (g':=g') (g:=g) rfl rfl).1 h2⟩;refine(aAT hcon hH' (aAU le hlist hargs (fun p hp=>hsp p (.inl hp))) hi (fun p hp=>hsp p (.inr hp)) (fun i hi' hb=>hfr i hi' hb)).mono ?_;rintro en w' ⟨v1,g1,rfl,hE⟩
            let g2:Gh:={g1 with S:=g.S}
            have hle:Le g w g2 w':=⟨fun _ _ h=>h,fun b o h=>hE.le.cell b o (.inl h),fun i p h=>hE.le.J i p h,fun i n u h=>hE.le.cur i n u h⟩
            have hfr2:Fr (s6 g H (pS U)) w w' g.S g2.S:=
              ⟨hE.fr.os,hE.fr.tape,hE.fr.output,hE.fr.size,fun b hb hno=>hE.fr.blk b hb (fun o h=>hno o (hownI b o h)),fun b o hb hno=>hE.fr.cell b o hb (fun h=>hno (hownI b o h)),fun _ _ h=> .inl h,fun b s h=>(hE.fr.shape b s h).imp id fun h o=>hownI b o (h o)⟩
            have hgho: ∀i,i∉pS U→g2.J i=g.J i∧g2.cur i=g.cur i:=fun i hi=>hE.gho i hi
            have hperm: ∀i blk b o,i∈pS U→pQ (qH U H) i=some blk→rK g2 i blk b o→w.heap.size≤b∨s6 g H (pS U) b o:=fun i blk b o hi hg ho=>
              (hE.perm i blk b o hi (hup hi hg) ((xH (g':=g2) (g:=g1) rfl rfl).1 ho)).imp id (hownI b o)
            refine⟨v1,g2,rfl,hle,⟨?_,trivial⟩,hH.upd hle hfr2 hperm hgho (fun i blk hi hg=> ?_) (fun i j bi bj b o hi hj hij hgi hgj hoi hoj=> ?_) (fun b o h=>aRh (hH.sl b o h) hE.fr.size),hfr2,hperm,hgho,fun i u y us h=> ?_⟩
            .exact hE.slot.1.imp (fun⟨a,cs,e,q⟩=>⟨a,cs,e,NC hnl q⟩) (fun⟨a,q⟩=>⟨a,NC hnl q⟩)
            · obtain⟨t2,y2,rfl,hn2⟩:=hcells hi hg
              obtain⟨p,cs,q1,q2,q3,q4,q5,_⟩:=hE.heap.blk i _ (hup hi hg);exact⟨p,cs,q1,NC hn2 q2,q3,q4,fun j hj hS=>q5 j hj (hE.le.S _ _ (.inl hS)),fun _ _ hm=>by cases hm⟩
            .exact hE.heap.dis i j bi bj b o hij (hup hi hgi) (hup hj hgj) ((xH (g':=g2) (g:=g1) rfl rfl).1 hoi) ((xH (g':=g2) (g:=g1) rfl rfl).1 hoj)
            · by_cases hiU:i∈pS U
              · rcases hE.ty i u y us (hup hiU h) with⟨x',ts',q⟩ |q
                .exact .inl ⟨x',ts',(hget2 i (hin hiU)).symm.trans q⟩
                .exact .inr q
              .exact .inl ⟨y,us,(zX hiU).symm.trans h⟩
          .cases hr
        .cases hr
    |_=>cases hr
theorem aJG {P:Program}{f:FuncId}{F:(t:Ty)→List t.den→Option (List t.den)}(hF:SF P f F) {g:Gh}{w:pB}{H:rH}(hH:rR g w H) {args:List pN}{vals:p7}(hargs:uB g w args vals) {e:q9}
    (hr:QZ H F args=some e) (hs: ∀p∈e.side,p):Calls P f vals.toArray w (fun en w'=> ∃v g',en= .returned v∧rL g w H e g' w' v):=by
  unfold QZ at hr;split at hr
  · rename_i k n x
    obtain⟨v,vs,rfl,ha,hv⟩:=hargs;rw[show vs=[] from hv];cases hk:pQ H k with
    |none=>rw[hk] at hr;cases hr
    | some b=>
      rw[hk] at hr;cases b with
      | row e0 t l m=>
        simp only[VG] at hr;cases hf:F t l with
        |none=>rw[hf] at hr;cases hr
        | some l'=>
          rw[hf] at hr;cases hr;have hnm:n=m:=hs _ aQ3;subst hnm;obtain⟨hl,v0,xs,hv0,hown,hFx,hnone,hseal⟩:=hH.blk k _ hk;have h1:=ha.1.1;rw[hv0] at h1;obtain rfl:=aQH h1;refine(hF g w e0 t l l' v0 n xs hH.tab.1 hown hFx hl (hs _ oY) hf).mono ?_;rintro en w' ⟨rfl,hl',xs',k1,k2,k3⟩;have hownk: ∀b,v0.ownBlock=some b→∀o,s6 g H [k] b o:=fun b hb o=>⟨k,_,by simp,hk,v0,hv0,hb⟩;refine⟨_,_,rfl,rL.row (v:=v0) (xs:=xs') hH hl' k1 k2 hnone (fun u hu=>by rw[hv0] at hu;exact(aQH hu).symm) (.inr ⟨v0.ownBlock,k3,hownk⟩) (fun b o hS=> ?_) hseal (fun b hb=> .inr (hownk b hb)) ⟨⟨[],rfl,rfl⟩,trivial⟩⟩;have hne:v0.ownBlock≠some b:=fun e=>hseal b e o hS;exact aQ5 (a:=⟨b,o,none⟩) (k3.block b (hH.sl b o hS) (fun e=>hne e.symm))
      |_=>cases hr
  .cases hr
section
variable {P:Program}{o:Oper}{a:Act}{g:Gh}{w:pB}{H:rH}{T:rW}{Γ:sP}(hT:vK P T) (hΓ:AL P Γ) (hH:rR g w H)
include hT hΓ hH
theorem aAV {f:FuncId}{args:List pN}{vals:p7}(hargs:uB g w args vals) {base:Nat}{e:q9}(hr:HD H base args (ML Γ f)=some e) (hs: ∀p∈e.side,p) (hfr:wS g base e):
    (∀args w,(callFunc f args).run P w= .ok (.enter f args) w)∧Calls P f vals.toArray w (fun en w'=> ∃v g',en= .returned v∧rL g w H e g' w' v):=by
  cases hg:ML Γ f with
  |none=>rw[hg] at hr;cases hr
  | some sg=>
    rw[hg] at hr
    obtain⟨hlt,hg⟩:f<1000000000∧Γ f=some sg:=by
      unfold ML at hg;split at hg
      .rename_i h;exact⟨h,hg⟩
      .cases hg
    obtain⟨hcon,hrow⟩:=hΓ f sg hlt hg;refine⟨hcon.1,?_⟩;simp only[HD] at hr;cases hF:sg.row with
    | some F=>
      rw[hF] at hr;exact aJG (hrow F hF) hH hargs hr hs
    | none=>
      rw[hF] at hr;simp only[RN] at hr;cases hn:ME sg.ps args with
      | some k=>
        rw[hn] at hr;exact aJF hcon hH hargs hr hs hfr
      | none=>
        rw[hn] at hr;exact aAT hcon hH hargs hr hs hfr
theorem aJH {fop:Operand}{args:Array Operand}{tys:Array TypeId}(ho:o.op= .call ⟨.value fop,args,tys⟩) {ρ:Operand→pN}(hf:rD g w (ρ fop) (a.eval fop)) (hρ: ∀x∈args.toList,rD g w (ρ x) (a.eval x)) {base:Nat}{e:q9}
    (hr:JO Γ H base (DM T ρ args.toList tys.toList) (ρ fop)=some e) (hs: ∀p∈e.side,p) (hfr:wS g base e) (hlen:args.size=tys.size):r7 P o a g w H e:=by
  have hargs:=aAo (a:=a) (ρ:=ρ) hT hΓ hH (xs:=args.toList) (ts:=tys.toList) (by simpa using hlen) hρ;unfold JO at hr;split at hr
  · rename_i f caps k heq
    rw[heq] at hf
    obtain⟨vs,hcv,hfv⟩: ∃vs,wI g caps vs∧a.eval fop= .func (.func f) #[] vs.toArray:=by
      rcases hf.1 with⟨h1,_⟩ |⟨_,vs,h2,h3⟩
      .cases h1
      · simp only[aRq,and_true] at h3
        exact⟨vs,h2,h3⟩
    obtain⟨hen,hc⟩:=aAV hT hΓ hH (aI8 hT hΓ hH hargs (aAp hT hΓ hH hcv)) hr hs hfr;intro K Q hK;refine aAq ho hfv hen (hc.mono ?_);rintro en w' ⟨v,g',rfl,hE⟩;exact⟨v,rfl,hK _ w' v hE.w⟩
  · rename_i f k heq
    rw[heq] at hf
    have hfv:a.eval fop= .func (.func f) #[] ([]:p7).toArray:=by
      rcases hf.1 with⟨h1,_⟩ |⟨_,h2⟩
      .cases h1
      .simpa[Rd,a9G] using h2
    obtain⟨hen,hc⟩:=aAV hT hΓ hH hargs hr hs hfr;intro K Q hK;refine aAq ho hfv hen ?_;rw[List.append_nil];refine hc.mono ?_;rintro en w' ⟨v,g',rfl,hE⟩;exact⟨v,rfl,hK _ w' v hE.w⟩
  .cases hr
theorem aAW: ∀{xs:List Operand}{ts:List TypeId},HE xs ts=true→xs.length=ts.length
  |[],[],_=>rfl
  |_::xs,_::ts,h=>by simp only[HE] at h;simp [aAW h]
  |[],_::_,h=>by cases h
  |_::_,[],h=>by cases h
theorem XQ {op:Op}(ho:o.op=op) {ρ:Operand→pN}(hρ: ∀x∈rV op,rD g w (ρ x) (a.eval x)) {base:Nat}{e:q9}(hr:tK T Γ o.type ρ base H op=some e) (hs: ∀p∈e.side,p) (hf:wS g base e):r7 P o a g w H e:=by
  unfold tK at hr;split at hr
  · rename_i x
    exact a96 hT hH (.inl ho) (hρ x (by simp [rV])) hr hf
  · rename_i x
    exact a96 hT hH (.inr ho) (hρ x (by simp [rV])) hr hf
  .exact aIQ hT hH ho hr hf
  · rename_i t x
    exact aIR hT hH ho (hρ x (by simp [rV])) (fun _=>XE hT hΓ hH (hρ x (by simp [rV]))) hr hf
  · rename_i t ps
    exact aIv hT hH ho (ρ:=ρ) (fun q hq=>hρ q.2 (by
      simp only[rV];generalize ps.toList=l at hq
      induction l with
      |nil=>cases hq
      |cons p l ih=>rcases aQV.1 hq with rfl|h<;>simp_all [rV.parts])) hr
  · rename_i t n ps
    exact aIW hT hH ho (ρ:=ρ) (fun q hq=>hρ q.2 (by
      simp only[rV];generalize ps.toList=l at hq
      induction l with
      |nil=>cases hq
      |cons p l ih=>rcases aQV.1 hq with rfl|h<;>simp_all [rV.parts])) hr hf
  · rename_i t x
    exact aII hT hH ho (hρ x (by simp [rV])) hr hs
  · rename_i t x y
    exact aIV hT hH ho (hρ x (by simp [rV])) (XE hT hΓ hH (hρ y (by simp [rV]))) hr hs hf
  · rename_i x
    exact aIp hT hH ho (hρ x (by simp [rV])) hr
  · rename_i op t x y t'
    cases hw:QL op (rE T t) (ρ x) (ρ y) with
    | some r=>
      rw[hw] at hr;exact aIg hH ho (hρ x (by simp [rV])) (hρ y (by simp [rV])) (by rw[hw];exact hr)
    |none=>
    rw[hw] at hr;cases hb:QK op (ρ x) (ρ y) with
    | some r=>
      rw[hb] at hr;exact aIf hH ho (hρ x (by simp [rV])) (hρ y (by simp [rV])) (by rw[hb];exact hr) hs
    | none=>
      rw[hb] at hr;exact aJy hT hH ho (hρ x (by simp [rV])) (hρ y (by simp [rV])) hr
  · rename_i op t x
    exact aIh hH ho (hρ x (by simp [rV])) hr hs
  · rename_i t t' x
    cases hb:QN (rE T t) (rE T t') (ρ x) with
    | some r=>
      rw[hb] at hr;exact aIi hT hH ho (hρ x (by simp [rV])) (by rw[hb];exact hr)
    | none=>
      rw[hb] at hr;exact aJC hT hH ho (hρ x (by simp [rV])) hr
  · rename_i f first caps
    have hfi:first= #[]:=by
      cases hl:first.toList with
      |nil=>apply aRA.1;simpa using hl
      |cons x l=>rw[hl] at hr;cases hr
    subst hfi;exact aIz hT hH ho (ρ:=ρ) (fun x hx=>hρ x (by simpa[rV] using hx)) hr
  · rename_i t x lo hi
    refine aIJ hT hH ho (ρ:=ρ) (hρ x (by simp [rV])) (fun y hy=>hρ y ?_) (fun y hy=>hρ y ?_) hr hs
    · cases lo with
      |none=>simp at hy
      |some l=>simp at hy;subst hy;simp [rV,rV.opt,qH]
    · cases hi with
      |none=>simp at hy
      |some l=>simp at hy;subst hy;cases lo<;>simp [rV,rV.opt,qH]
  · rename_i t x f
    exact aIn hT hH ho (hρ x (by simp [rV])) hr
  · rename_i t x f
    exact aIm hT hH ho (hρ x (by simp [rV])) hr
  · rename_i t x ix
    exact aIr hT hH ho (hρ x (by simp [rV])) (hρ ix (by simp [rV])) hr hs
  · rename_i t x ix
    exact aIq hT hH ho (hρ x (by simp [rV])) (hρ ix (by simp [rV])) hr hs
  · rename_i x i
    exact aIo hT hH ho (hρ x (by simp [rV])) hr hs
  · rename_i t r
    exact aIZ hT hH ho hr hf
  · rename_i t x
    exact aI5 hT hH ho (hρ x (by simp [rV])) hr hf
  · rename_i x b
    exact aI6 hT hH ho (hρ x (by simp [rV])) hr
  · rename_i t x i ok
    exact aI2 hT hH ho (hρ x (by simp [rV])) (hρ i (by simp [rV])) hr
  · rename_i t m k x
    exact aAl hT hH (.inl ho) (hρ m (by simp [rV])) (hρ k (by simp [rV])) (aAk (hρ x (by simp [rV]))) hr
  · rename_i t m k x
    exact aAl hT hH (.inr ho) (hρ m (by simp [rV])) (hρ k (by simp [rV])) (aAk (hρ x (by simp [rV]))) hr
  · rename_i c
    obtain⟨cal,args,tys⟩:=c;simp only at hr;unfold HF at hr;split at hr
    .exact aIy hT hH ho (ρ:=ρ) (fun x hx=>hρ x (by simpa[rV] using hx)) hr
    .exact aJD hT hH ho (ρ:=ρ) (fun x hx=>hρ x (by simpa[rV] using hx)) hr hs
    .exact a9W (mx:=true) hT hH ho (ρ:=ρ) (fun x hx=>hρ x (by simpa[rV] using hx)) hr
    .exact a9W (mx:=false) hT hH ho (ρ:=ρ) (fun x hx=>hρ x (by simpa[rV] using hx)) hr
    · rename_i f
      cases hsl:HE args.toList tys.toList with
      |false=>rw[hsl] at hr;cases hr
      | true=>
        rw[hsl] at hr;simp only[WC] at hr;exact aJH hT hΓ hH ho (hρ f (by simp [rV])) (fun x hx=>hρ x (by simp [rV];right;simpa using hx)) hr hs hf (by simpa using aAW hT hΓ hH hsl)
    .cases hr
  .cases hr
end
def xZ (g:Gh) (w:pB) (env:List (Nat×pN)) (tmps:Array pC):Prop:= ∀t,rD g w (lk env t) (tmps.getD t undef)
def wC (B:Nat) (w:pB) (ds:List Deferred):Prop:=ds.Nodup/\∀d∈ds,∃D,d={target:= .collected D,args:= #[]}/\B<=D/\NG<=D/\w.heap[D]? =some (.deferred (some []))
theorem XR (B:Nat) (w:pB):wC B w []:=⟨List.nodup_nil,fun d hd=>by cases hd⟩
theorem wC.same {B:Nat}{w w':pB}{ds:List Deferred}(h:wC B w ds) (hb: ∀D:Nat,w.heap[D]? =some (Obj.deferred (some []))->w'.heap[D]? =some (Obj.deferred (some []))):wC B w' ds:=
 ⟨h.1,fun d hd=>by obtain⟨D,h1,h2,h0,h3⟩:=h.2 d hd;exact⟨D,h1,h2,h0,hb D h3⟩⟩
def DT:Obj->Bool
 | .deferred _=>true
 | .loop _=>true
 |_=>false
theorem XS {w:pB}{b:Nat}{ob:Obj}(hd:w.heap[b]? =some ob) (hm:DT ob=true) (o:Nat):w.cell? ⟨b,o,none⟩=none:=by
 unfold World.cell?;simp only[hd];cases ob<;>first|rfl|cases hm
theorem SS {g:Gh}{w:pB}{i:Nat}{blk:pM}(h:xW g w i blk) {b o:Nat}(ho:rK g i blk b o) {ob:Obj}(hd:w.heap[b]? =some ob) (hm:DT ob=true):False:=by
 have hrow: ∀{e:TypeId}{c n:Nat}{v:pC}{xs:p7},w.ownsRow 0 e c v n xs->v.ownBlock=some b->False:=by
  intro e c n v xs hr hb;rcases hr.2 with⟨rfl,_⟩ |⟨g',cap,cur,rfl,_,h3,_⟩
  .cases hb
  .simp only[Value.ownBlock,aQE] at hb;subst hb;rw[hd] at h3;cases h3;cases hm
 cases blk with
 |cells t x toks=>
  obtain⟨p,cs,hp,_,_,ht,_⟩:=h;obtain⟨q,hq,rfl,h1,h2⟩:=ho;rw[hp] at hq;obtain rfl:=aQH hq;have:=(ht.1 (o-p.2) oW).1;rw[XS hd hm] at this;cases this
 |grow e c n=>
  obtain⟨v,xs,hv,hr,_⟩:=h;obtain⟨v',hv',hb⟩:=ho;rw[hv] at hv';obtain rfl:=aQH hv';exact hrow hr hb
 |row e t l n=>
  obtain⟨_,v,xs,hv,hr,_⟩:=h;obtain⟨v',hv',hb⟩:=ho;rw[hv] at hv';obtain rfl:=aQH hv';exact hrow hr hb
 |map k v l=>
  obtain⟨p,es,cl,hp,h0,h2,_⟩:=h;obtain⟨q,hq,h1⟩:=ho;rw[hp] at hq;obtain rfl:=aQH hq;rw[show b=p.1 from h1] at hd;rw[h2] at hd;cases hd;cases hm
 |iter s n=>
  obtain⟨p,hp,h0,h2,_⟩:=h;obtain⟨q,hq,h1⟩:=ho;rw[hp] at hq;obtain rfl:=aQH hq;rw[show b=p.1 from h1] at hd;rw[h2] at hd;cases hd;cases hm
 |dead=>exact ho.elim
theorem wC.eff {B:Nat}{g g':Gh}{w w':pB}{H:rH}{e:q9}{v:pC}{ds:List Deferred}(h:wC B w ds) (hH:rR g w H) (k:xG g w H e g' w' v):wC B w' ds:=
 h.same fun D hD=>by
  rw[k.fr.blk D (aQ1.1 hD).1 (fun o ⟨i,blk,_,h1,h2⟩=>SS (hH.blk i blk h1) h2 hD rfl)];exact hD
structure tP (B:Nat) (g:Gh) (w:pB) (s:St) (a:Act):Prop where
 env:xZ g w s.env a.tmps
 heap:rR g w s.H
 size:a.tmps.size=s.N
 nb: ∀i,s.nb<=i->g.J i=none/\∀n,g.cur i n=none
 def_:wC B w a.defers
 np:s.np<=s.nb
theorem aJI (g:Gh) (w:pB) (v:pC):xV g w (V3 v) v:=by
 unfold V3;split
 .exact v6 _ _ _
 .exact uU _ _ _ _
 .rename_i s;have:=yX g w s.data.toList;rw[aRQ] at this;exact this
 .exact rfl
 .exact .inr ⟨rfl,rfl⟩
 .exact .inr ⟨rfl,rfl⟩
 .exact .inr ⟨rfl,rfl⟩
 .exact trivial
theorem xK {g:Gh}{w:pB}{env:List (Nat×pN)}{a:Act}(h:xZ g w env a.tmps) (x:Operand):rD g w (sZ env x) (a.eval x):=by
 cases x with
 |tmp t=>exact h t
 |const v=>exact⟨aJI g w v,trivial⟩
 |func f=>exact⟨.inr ⟨rfl,[],rfl,rfl⟩,trivial⟩
 |global i=>exact⟨trivial,trivial⟩
theorem K9 {g:Gh}{w:pB}{G:Bool}(hG:G=true): ∀{ss:List pN}{s:pN}{v:pC},s∈ss->(∀p∈x4 G ss,p)->rD g w s v->rD g w (w9 s) v
 |x::ss,s,v,hm,hn,hs=>by
  have hcase: ∀{s:pN},(∀p∈x4 G [s],p)->rD g w s v->rD g w (w9 s) v:=by
   intro s hn hs;obtain⟨d,k⟩:=s;cases d with
   |cond p d=>
    refine⟨hs.1.1 (hn (G=true->p=true) (by simp [x4]) hG),?_⟩;simp only[w9]
   |_=>exact hs
  have hsplit: ∀p,p∈x4 G [x]->p∈x4 G (x::ss):=by
   intro p hp;unfold x4 at hp|-;split at hp
   .cases hp
   .rename_i heq;simp only[aRq] at heq;obtain⟨rfl,rfl⟩:=heq;rcases aQV.1 hp with h|h
    .exact h▸aQ3
    .cases h
   .rename_i h0 heq;simp only[aRq] at heq;obtain⟨_,rfl⟩:=heq;cases hp
  have hsplit2: ∀p,p∈x4 G ss->p∈x4 G (x::ss):=by
   intro p hp;generalize hL:x4 G ss=L at hp;unfold x4;split
   .rename_i h;cases h
   .rename_i heq;simp only[aRq] at heq;obtain⟨_,rfl⟩:=heq;rw[hL];exact aQZ _ hp
   .rename_i heq;simp only[aRq] at heq;obtain⟨_,rfl⟩:=heq;rw[hL];exact hp
  rcases aQV.1 hm with rfl|hm
  .exact hcase (fun p hp=>hn p (hsplit p hp)) hs
  .exact K9 hG hm (fun p hp=>hn p (hsplit2 p hp)) hs
theorem ST {env:List (Nat×pN)}: ∀{xs:List Operand}{x:Operand},x∈xs->sZ env x∈zS env xs
 |y::xs,x,h=>by
  simp only[zS];rcases aQV.1 h with rfl|h
  .exact aQ3
  .exact aQZ _ (ST h)
theorem ND: ∀(ops:List Oper) (j:Nat),xS ops j=(ops[j]?).bind (·.dst)
 |[],j=>by simp [xS]
 |o::_,0=>rfl
 |_::r,j+1=>by simpa[xS] using ND r j
section
variable {P:Program}{g:Gh}{w:pB}{T:rW}{Γ:sP}(hT:vK P T) (hΓ:AL P Γ)
include hT hΓ
theorem aJJ {ops:List Oper}{o:Oper}{a:Act}{env:List (Nat×pN)}(henv:xZ g w env a.tmps) {j:Nat}{b:Bool}(hg:o.guard=some (j,b)) {G:Bool}(h:DO env b (xS ops j)=some G):Region.wanted o (yielded ops.toArray a.tmps)=G:=by
 rw[ND] at h;unfold Region.wanted;rw[hg];simp only;cases hd:(ops[j]?).bind (·.dst) with
 |none=>rw[hd] at h;cases h
 |some t=>
  rw[hd] at h;simp only[DO] at h;have hy:yielded ops.toArray a.tmps j=match a.tmps[t]? with|some (.bool b)=>some b|_=>none:=by
   unfold yielded;have:(ops.toArray[j]?).bind (·.dst)=some t:=by simpa using hd
   rw[this];rfl
  have hv:=henv t;generalize hl:lk env t=s at h hv;unfold a9s at h;have hb: ∀c,a.tmps.getD t undef= .bool c->a.tmps[t]? =some (.bool c):=by
   intro c hc;rw[aQ7] at hc;cases hq:a.tmps[t]? with
   |none=>rw[hq] at hc;simp [undef] at hc
   |some v=>rw[hq] at hc;simp at hc;rw[hc]
  split at h
  .rename_i c k;simp only[aQE] at h;have:=hb _ (uI hv.1);rw[hy,this,<-h];cases c<;>cases b<;>rfl
  .rename_i p c k;simp only[aQE] at h;subst h;cases p with
   |true=>
    have:=hb _ (uI (hv.1.1 rfl));rw[hy,this];cases c<;>cases b<;>rfl
   |false=>
    have hu:=hv.1.2 rfl;have: ∀c,a.tmps[t]? ≠some (.bool c):=by
     intro c hc;rw[aQ7,hc] at hu;simp [undef] at hu
    rw[hy];cases hq:a.tmps[t]? with
    |none=>cases b<;>rfl
    |some v=>cases v<;>first|(exact absurd hq (this _)) |(cases b<;>rfl)
  .cases h
theorem aJK {ops:List Oper}{o:Oper}{a:Act}{env:List (Nat×pN)}(henv:xZ g w env a.tmps) {j:Nat}{b:Bool}(hg:o.guard=some (j,b)) (h:HG env b (xS ops j)=false):Region.wanted o (yielded ops.toArray a.tmps)=false:=by
 rw[ND] at h;unfold Region.wanted;rw[hg];simp only;cases hd:(ops[j]?).bind (·.dst) with
 |none=>rw[hd] at h;cases h
 |some t=>
  rw[hd] at h;simp only[HG] at h;have hy:yielded ops.toArray a.tmps j=match a.tmps[t]? with|some (.bool b)=>some b|_=>none:=by
   unfold yielded;have:(ops.toArray[j]?).bind (·.dst)=some t:=by simpa using hd
   rw[this];rfl
  have hv:=henv t;generalize hl:lk env t=s at h hv;have hb: ∀c,a.tmps.getD t undef= .bool c->a.tmps[t]? =some (.bool c):=by
   intro c hc;rw[aQ7] at hc;cases hq:a.tmps[t]? with
   |none=>rw[hq] at hc;simp [undef] at hc
   |some v=>rw[hq] at hc;simp at hc;rw[hc]
  have hun:a.tmps.getD t undef=undef->(yielded ops.toArray a.tmps j==some b)=false:=by
   intro hu;have: ∀c,a.tmps[t]? ≠some (.bool c):=by
    intro c hc;rw[aQ7,hc] at hu;simp [undef] at hu
   rw[hy];cases hq:a.tmps[t]? with
   |none=>cases b<;>rfl
   |some v=>cases v<;>first|(exact absurd hq (this _)) |(cases b<;>rfl)
  unfold a9t at h;split at h
  .rename_i c k;have:=hb _ (uI hv.1);rw[hy,this];cases c<;>cases b<;>first|rfl|cases h
  .rename_i p c k;cases p with
   |true=>
    have:=hb _ (uI (hv.1.1 rfl));rw[hy,this];cases c<;>cases b<;>first|rfl|cases h
   |false=>exact hun (hv.1.2 rfl)
  .rename_i p k;subst h;exact hun (hv.1.2 rfl)
  .cases h
theorem NE {G:Bool}{p:Prop}: ∀{l:List Prop},p∈l->(G=true->p)∈MN G l
 |q::l,h=>by
  simp only[MN];rcases aQV.1 h with rfl|h
  .exact aQ3
  .exact aQZ _ (NE h)
theorem XT {o:Oper}{a:Act}{H:rH}(hH:rR g w H) {c x y:Operand}(hop:o.op= .pick c x y) {sc sx sy:pN}(hc:rD g w sc (a.eval c)) (hx:rD g w sx (a.eval x)) (hy:rD g w sy (a.eval y)) {e:q9}(hr:MM sc sx sy=some e) (hs: ∀p∈e.side,p):r7 P o a g w H e:=by
 intro K Q hK;unfold MM at hr;split at hr
 .rename_i z k;have hz:=uI hc.1;have run:(execOp a.eval o).run P w= .ok (.value (if z then a.eval x else a.eval y)) w:=by
   unfold execOp;rw[hop];simp [hz,asBool]
  have uD: ∀{v:Bool}{side:List Prop},(if z then a.eval x else a.eval y)= .bool v->e=⟨side,(.val .bool v,none),[],[]⟩->o.wp P a w K Q:=by
   intro v side hv he;subst he;refine r7.value (v:= .bool v) (g':=g) (w':=w) (H:=H) (by rw[run,hv]) (.pure hH (s:=(.val .bool v,none)) ⟨(v6 g w v:xV g w (.val .bool v) (.bool v)),trivial⟩) K Q hK
  unfold a9u at hr;split at hr
  .rename_i m1 _ m2 _;simp only[aQE] at hr;refine uD (v:=cond z m1 m2) ?_ hr.symm;cases z
   .exact uI hy.1
   .exact uI hx.1
  .rename_i p m1 _ m2 _;simp only[aQE] at hr;refine uD (v:=cond z m1 m2) ?_ hr.symm;cases z
   .exact uI hy.1
   .exact uI (hx.1.1 (hs (true=true->p=true) (by rw[<-hr];simp) rfl))
  .rename_i m1 _ p m2 _;simp only[aQE] at hr;refine uD (v:=cond z m1 m2) ?_ hr.symm;cases z
   .exact uI (hy.1.1 (hs (false=false->p=true) (by rw[<-hr];simp) rfl))
   .exact uI hx.1
  .rename_i q m1 _ p m2 _;simp only[aQE] at hr;refine uD (v:=cond z m1 m2) ?_ hr.symm;cases z
   .exact uI (hy.1.1 (hs (false=false->p=true) (by rw[<-hr];simp) rfl))
   .exact uI (hx.1.1 (hs (true=true->q=true) (by rw[<-hr];simp) rfl))
  .rename_i m1 _ p _;simp only[aQE] at hr;have hz1:z=true:=hs _ (by rw[<-hr];simp);refine uD (v:=m1) ?_ hr.symm;rw[hz1];exact uI hx.1
  .rename_i q m1 _ p _;simp only[aQE] at hr;have hz1:z=true:=hs (z=true) (by rw[<-hr];simp);refine uD (v:=m1) ?_ hr.symm;rw[hz1];exact uI (hx.1.1 (hs (q=true) (by rw[<-hr];simp)))
  .rename_i p _ m2 _;simp only[aQE] at hr;have hz1:z=false:=hs _ (by rw[<-hr];simp);refine uD (v:=m2) ?_ hr.symm;rw[hz1];exact uI hy.1
  .rename_i p _ q m2 _;simp only[aQE] at hr;have hz1:z=false:=hs (z=false) (by rw[<-hr];simp);refine uD (v:=m2) ?_ hr.symm;rw[hz1];exact uI (hy.1.1 (hs (q=true) (by rw[<-hr];simp)))
  .cases hr
 .cases hr
omit hT hΓ in
theorem KA {np:Nat}{x:Option q9}{e:q9}(h:WI np x=some e):x=some e/\(F3 e.rds=true->FA np e.upd=true):=by
 cases x with
 |none=>cases h
 |some q=>
  simp only[WI] at h;cases hq:F3 q.rds with
  |false=>
   rw[hq] at h;cases h;exact⟨rfl,fun h=>by rw[hq] at h;cases h⟩
  |true=>
   rw[hq] at h;simp only[a9x] at h;split at h
   .rename_i hc;cases h;exact⟨rfl,fun _=>hc⟩
   .cases h
omit hT hΓ in
theorem aAX {np:Nat}{H:rH}: ∀{U:List (Nat×pM)},FA np U=true->∀{i:Nat}{u:Ty}{y:u.den}{us:p5},i<np->pQ (qH U H) i=some (.cells u y us)->pQ H i=some (.cells u y us)
 |[],_,i,u,y,us,_,h=>h
 |(j,b)::U,h,i,u,y,us,hi,hg=>by
  simp only[qH,pQ] at hg;split at hg
  .rename_i e;subst e;simp only[aQE] at hg;subst hg;simp only[FA] at h;split at h
   .omega
   .cases h
  .refine aAX ?_ hi hg;unfold FA at h;split at h
   .rename_i heq;cases heq
   .rename_i heq;cases heq;split at h
    .exact h
    .cases h
   .rename_i heq;cases heq;exact h
theorem XU {ops:List Oper}{o:Oper}{a:Act}{s:St}{e:q9}(henv:xZ g w s.env a.tmps) (hH:rR g w s.H) (hr:wH T Γ ops o s=some e) (hs: ∀p∈e.side,p) (hf:wS g s.nb e) {K:Act->pB->Prop}{Q:Exit->Act->pB->Prop}
  (hK: ∀g' w' v,xG g w s.H e g' w' v->K (a.put o.dst v) w'):
  if Region.wanted o (yielded ops.toArray a.tmps) then o.wp P a w K Q else K (a.put o.dst undef) w:=by
 replace hr:=(KA hr).1;unfold JU at hr;cases hgd:o.guard with
 |none=>
  rw[hgd] at hr;simp only at hr;have hw:Region.wanted o (yielded ops.toArray a.tmps)=true:=by unfold Region.wanted;rw[hgd]
  rw[aQI hw];cases hop:o.op with
  |pick c x y=>
   rw[hop] at hr;simp only[JT] at hr;exact XT hT hΓ hH hop (xK henv c) (xK henv x) (xK henv y) hr hs K Q hK
  |_=>
   rw[hop] at hr;simp only[JT] at hr;rw[<-hop] at hr;generalize hpl:tK T Γ o.type (fun x=>w9 (sZ s.env x)) s.nb s.H o.op=op at hr;cases op with
   |none=>cases hr
   |some e0=>
    simp only[JR,aQE] at hr;subst hr;refine XQ hT hΓ hH rfl (ρ:=fun x=>w9 (sZ s.env x)) (fun x hx=> ?_) hpl (fun p hp=>hs p (vL.2 (.inr hp))) hf K Q (fun g' w' v h=>hK g' w' v ⟨h.le,h.slot,h.heap,h.fr,h.perm,h.gho,h.ty⟩);exact K9 rfl (ST hx) (fun p hp=>hs p (vL.2 (.inl hp))) (xK henv x)
 |some jb=>
  obtain⟨j,b⟩:=jb;rw[hgd] at hr;simp only at hr;cases hsk:Γ (RW j b) with
  |some sg=>
   rw[hsk] at hr;simp only[MO] at hr;cases hdf:a9v o.op with
   |true=>rw[hdf] at hr;cases hr
   |false=>
   rw[hdf] at hr;simp only[a9w,aQE] at hr;subst hr;have hup:HG s.env b (xS ops j)=false:=hs _ aQ3;rw[aJK hT hΓ henv hgd hup,aQO oX];exact hK g w undef (xG.pure hH ⟨⟨fun hc=>(by cases hc),fun _=>rfl⟩,trivial⟩)
  |none=>
  rw[hsk] at hr;simp only[MO] at hr;generalize hG:DO s.env b (xS ops j)=oG at hr;cases oG with
  |none=>cases hr
  |some G=>
   have hw:=aJJ hT hΓ henv hgd hG;rw[hw];by_cases hpk: ∃c x y,o.op= .pick c x y
   .obtain⟨c,x,y,hop⟩:=hpk;rw[hop] at hr;simp only[JS] at hr;generalize hpl:MM (w9 (sZ s.env c)) (sZ s.env x) (sZ s.env y)=op at hr;cases op with
    |none=>cases hr
    |some e0=>
     unfold F9 at hr;split at hr
     .rename_i side d k rds heq;simp only[aQE] at hr heq;subst hr;subst heq;by_cases hGt:G=true
      .rw[aQI hGt];refine XT hT hΓ hH hop (K9 hGt (ss:=[sZ s.env c]) oY (fun p hp=>hs p (vL.2 (.inl hp))) (xK henv c)) (xK henv x) (xK henv y) hpl (fun p hp=>hs (G=true->p) (vL.2 (.inr (NE hT hΓ hp))) hGt) K Q (fun g' w' v h=>hK g' w' v ⟨h.le,⟨⟨fun _=>h.slot.1,fun hc=>by rw[hGt] at hc;cases hc⟩,trivial⟩,h.heap,h.fr,h.perm,h.gho,h.ty⟩)
      .rw[aQO hGt];exact hK g w undef (xG.pure hH ⟨⟨fun hc=>absurd hc hGt,fun _=>rfl⟩,trivial⟩)
     .rename_i side sl u us rds heq;simp only[aQE] at hr heq;subst hr;subst heq;have hGt:G=true:=hs _ aQ3;rw[aQI hGt];exact XT hT hΓ hH hop (K9 hGt (ss:=[sZ s.env c]) oY (fun p hp=>hs p (aQZ _ (vL.2 (.inl hp)))) (xK henv c)) (xK henv x) (xK henv y) hpl (fun p hp=>hs (G=true->p) (aQZ _ (vL.2 (.inr (NE hT hΓ hp)))) hGt) K Q (fun g' w' v h=>hK g' w' v ⟨h.le,h.slot,h.heap,h.fr,h.perm,h.gho,h.ty⟩)
     .cases hr
   .have e1:JS T Γ o s (some G) o.op=F9 G (x4 G (zS s.env (rV o.op))) (tK T Γ o.type (fun x=>w9 (sZ s.env x)) s.nb s.H o.op):=by
     cases ho:o.op<;>first|rfl|(exact absurd ⟨_,_,_,ho⟩ hpk)
    rw[e1] at hr;generalize hpl:tK T Γ o.type (fun x=>w9 (sZ s.env x)) s.nb s.H o.op=op at hr;cases op with
    |none=>cases hr
    |some e0=>
     unfold F9 at hr;split at hr
     .rename_i side d k rds heq;simp only[aQE] at hr heq;subst hr;subst heq;by_cases hGt:G=true
      .rw[aQI hGt];refine XQ hT hΓ hH rfl (ρ:=fun x=>w9 (sZ s.env x)) (fun x hx=> ?_) hpl (fun p hp=>hs (G=true->p) (vL.2 (.inr (NE hT hΓ hp))) hGt) (fun i hi=>by cases hi) K Q (fun g' w' v h=>hK g' w' v ⟨h.le,⟨⟨fun _=>h.slot.1,fun hc=>by rw[hGt] at hc;cases hc⟩,trivial⟩,h.heap,h.fr,h.perm,h.gho,h.ty⟩);exact K9 hGt (ST hx) (fun p hp=>hs p (vL.2 (.inl hp))) (xK henv x)
      .rw[aQO hGt];exact hK g w undef (xG.pure hH ⟨⟨fun hc=>absurd hc hGt,fun _=>rfl⟩,trivial⟩)
     .rename_i side sl u us rds heq;simp only[aQE] at hr heq;subst hr;subst heq;have hGt:G=true:=hs _ aQ3;rw[aQI hGt];refine XQ hT hΓ hH rfl (ρ:=fun x=>w9 (sZ s.env x)) (fun x hx=> ?_) hpl (fun p hp=>hs (G=true->p) (aQZ _ (vL.2 (.inr (NE hT hΓ hp)))) hGt) hf K Q (fun g' w' v h=>hK g' w' v ⟨h.le,h.slot,h.heap,h.fr,h.perm,h.gho,h.ty⟩);exact K9 hGt (ST hx) (fun p hp=>hs p (aQZ _ (vL.2 (.inl hp)))) (xK henv x)
     .cases hr
end
structure sJ (A:Nat->Nat->Prop) (L:List pM) (g0:Gh) (w0:pB) (g:Gh) (w:pB) (H:rH):Prop where
 shut: ∀b o,g0.S b o->g.S b o/\w.cell? ⟨b,o,none⟩=w0.cell? ⟨b,o,none⟩
 fr:Fr A w0 w g0.S g.S
 perm: ∀i blk b o,pQ H i=some blk->rK g i blk b o->w0.heap.size<=b\/A b o
 J: ∀i p,i<L.length->g0.J i=some p->g.J i=some p
 live: ∀i,i<L.length->(∃p,g.J i=some p)\/(∃n v,g.cur i n=some v)
 ty: ∀i u y us,i<L.length->pQ H i=some (.cells u y us)->∃x ts,L[i]? =some (.cells u x ts)
 cur: ∀i n v,i<L.length->g0.cur i n=some v->g.cur i n=some v
theorem sJ.eff {A:Nat->Nat->Prop}{L:List pM}{g0 g g':Gh}{w0 w w':pB}{H:rH}{e:q9}{v:pC}(h:sJ A L g0 w0 g w H) (k:xG g w H e g' w' v) (hc:F3 e.rds=true->FA L.length e.upd=true):sJ A L g0 w0 g' w' (qH e.upd H):=by
 have hown: ∀b o,s6 g H (pS e.upd) b o->w0.heap.size<=b\/A b o:=fun b o ⟨i,blk,_,h2,h3⟩=>h.perm i blk b o h2 h3;refine⟨fun b o hs=> ?_,h.fr.trans k.fr hown,fun i blk b o hg ho=> ?_,fun i p hi hp=>k.le.J _ _ (h.J i p hi hp),fun i hi=> ?_,fun i u y us hi hg=> ?_,fun i n u hi hu=>k.le.cur _ _ _ (h.cur i n u hi hu)⟩
 .obtain⟨h1,h2⟩:=h.shut b o hs;exact⟨k.le.S b o h1,(k.le.cell b o h1).trans h2⟩
 .by_cases hi:i∈pS e.upd
  .rcases k.perm i blk b o hi hg ho with h1|h1
   .exact .inl (aRs h.fr.size h1)
   .exact hown b o h1
  .exact h.perm i blk b o ((zX hi).symm.trans hg) ((xH (k.gho i hi).1 (k.gho i hi).2).1 ho)
 .rcases h.live i hi with⟨p,hp⟩ |⟨n,u,hu⟩
  .exact .inl ⟨p,k.le.J _ _ hp⟩
  .exact .inr ⟨n,u,k.le.cur _ _ _ hu⟩
 .cases hre:F3 e.rds with
  |true=>exact h.ty i u y us hi (aAX (hc hre) hi hg)
  |false=>
   rcases k.ty hre i u y us hg with⟨x,ts,h1⟩ |⟨h1,h2⟩
   .exact h.ty i u x ts hi h1
   .rcases h.live i hi with⟨p,hp⟩ |⟨n,u,hu⟩
    .rw[h1] at hp;cases hp
    .rw[h2] at hu;cases hu
def xL:p5->Nat->p9
 |[],_=>none
 |(n,o)::r,k=>if n=k then some o else xL r k
def tD (g:Gh) (np:Nat) (m:p5):Gh:=
 ⟨g.S,fun i=>if i<np then g.J i else(xL m i).bind g.J,fun i n=>if i<np then g.cur i n else(xL m i).bind fun o=>g.cur o n⟩
theorem SU {n o:Nat}: ∀{m:p5},JV n o m=false->∀n' o',(n',o')∈m->n'≠n/\o'≠o
 |[],_,_,_,h=>by cases h
 |(a,b)::m,h,n',o',hm=>by
  simp only[JV,aR5,aRO] at h;rcases aQV.1 hm with h1|h1
  .cases h1;exact h.1
  .exact SU h.2 n' o' h1
theorem XV {np:Nat}: ∀{m:p5},vT np m=true->∀{n o:Nat},(n,o)∈m->xL m n=some o/\(n<np->o=n)
 |[],_,_,_,h=>by cases h
 |(a,b)::m,hk,n,o,h=>by
  simp only[vT,aQU,aRj,aRV,aQY] at hk;obtain⟨⟨h1,h2⟩,h3⟩:=hk;simp only[xL];rcases aQV.1 h with h4|h4
  .cases h4;rw[aQI rfl];exact⟨rfl,fun h5=>by rcases h1 with h1|h1<;>omega⟩
  .have h5:=SU h2 n o h4;rw[aQO (Ne.symm h5.1)];exact XV h3 h4
theorem AM: ∀{m:p5}{k j:Nat},vJ m k=some j->(j,k)∈m
 |[],_,_,h=>by cases h
 |(a,b)::m,k,j,h=>by
  simp only[vJ] at h;split at h
  .rename_i e;subst e;simp only[aQE] at h;subst h;exact aQ3
  .exact aQZ _ (AM h)
theorem yJ {g:Gh}{np:Nat}{m:p5}(hk:vT np m=true) {n o:Nat}(h:(n,o)∈m):(tD g np m).J n=g.J o/\(tD g np m).cur n=g.cur o:=by
 obtain⟨h1,h2⟩:=XV hk h;refine⟨?_,?_⟩
 .show (if n<np then g.J n else(xL m n).bind g.J)=_;by_cases hn:n<np
  .rw[aQI hn,h2 hn]
  .rw[aQO hn,h1];rfl
 .funext q;show (if n<np then g.cur n q else(xL m n).bind fun o=>g.cur o q)=_;by_cases hn:n<np
  .rw[aQI hn,h2 hn]
  .rw[aQO hn,h1];rfl
theorem XW {g:Gh}{np:Nat}{m:p5}(hk:vT np m=true): ∀(l l':p5) (vs:p7),wI g l vs->zU m l=some l'->wI (tD g np m) l' vs
 |[],l',vs,h,hr=>by simp only[zU,aQE] at hr;subst hr;exact h
 |(i,o)::l,l',vs,⟨p,vs',h1,h2,h3⟩,hr=>by
  simp only[zU] at hr;cases hi:vJ m i with
  |none=>rw[hi] at hr;cases hr2:zU m l<;>rw[hr2] at hr<;>cases hr
  |some j=>
   rw[hi] at hr;cases hr2:zU m l with
   |none=>rw[hr2] at hr;cases hr
   |some l2=>
    rw[hr2] at hr;simp only[zU.renCons,aQE] at hr;subst hr;exact⟨p,vs',by rw[(yJ hk (AM hi)).1];exact h1,h2,XW hk l l2 vs' h3 hr2⟩
theorem aJL {m:p5}{u t:Ty}{x y:t.den}{o:Nat}{l:List u.den}(h:xF m t x=some y) (hg:qZ (.list u) t x o=some l):qZ (.list u) t y o=some l:=
 XH (xF m) (fun _ _ _=>rfl) (fun _ _=>rfl) h hg
theorem NF {g:Gh}{w:pB}{np:Nat}{m:p5}(hk:vT np m=true): ∀{t:Ty}{x y:t.den}{cs:p7},Rd g w t x cs->xF m t x=some y->Rd (tD g np m) w t y cs
 | .bool,_,_,_,r,h=>by cases h;exact r
 | .int _,_,_,_,r,h=>by cases h;exact r
 | .str,_,_,_,r,h=>by cases h;exact r
 | .unit,_,_,_,r,h=>by cases h;exact r
 | .list t,x,y,_,r,h=>by
  simp only[xF] at h;split at h
  .rename_i hp;cases h;exact uO (g:=g) (g':=tD g np m) rfl (t:= .list t) (by simpa[Ty.pure] using hp) r
  .cases h
 | .ref,none,y,_,r,h=>by cases h;exact r
 | .ref,some (i,o),y,_,⟨p,h1,h2⟩,h=>by
  simp only[xF,S0] at h;cases hi:vJ m i with
  |none=>rw[hi] at h;cases h
  |some j=>
   rw[hi] at h;cases h;exact⟨p,by rw[(yJ hk (AM hi)).1];exact h1,h2⟩
 | .clo,none,y,_,r,h=>by cases h;exact r
 | .clo,some (f,l),y,_,⟨vs,h1,h2⟩,h=>by
  simp only[xF,a9B] at h;cases hi:zU m l with
  |none=>rw[hi] at h;cases h
  |some l'=>
   rw[hi] at h;cases h;exact⟨vs,XW hk l l' vs h1 hi,h2⟩
 | .fn,_,_,_,r,h=>by cases h;exact r
 | .rl _ _,none,y,_,r,h=>by cases h;exact r
 | .rl _ _,some (k,n),y,_,⟨v,h1,h2⟩,h=>by
  simp only[xF,a9D] at h;cases hi:vJ m k with
  |none=>rw[hi] at h;cases h
  |some j=>
   rw[hi] at h;cases h;exact⟨v,by rw[(yJ hk (AM hi)).2];exact h1,h2⟩
 | .mref,none,y,_,r,h=>by cases h;exact r
 | .mref,some (i,o),y,_,⟨p,h1,h2⟩,h=>by
  simp only[xF,S0] at h;cases hi:vJ m i with
  |none=>rw[hi] at h;cases h
  |some j=>
   rw[hi] at h;cases h;exact⟨p,by rw[(yJ hk (AM hi)).1];exact h1,h2⟩
 | .mp,none,y,_,r,h=>by cases h;exact r
 | .mp,some i,y,_,⟨p,h1,h2⟩,h=>by
  simp only[xF,a9C] at h;cases hi:vJ m i with
  |none=>rw[hi] at h;cases h
  |some j=>
   rw[hi] at h;cases h;exact⟨p,by rw[(yJ hk (AM hi)).1];exact h1,h2⟩
 | .pair a b,x,y,_,⟨c1,c2,e,r1,r2⟩,h=>by
  simp only[xF] at h;obtain⟨h1,h2⟩:=XG h;refine⟨c1,c2,e,?_,?_⟩
  .split at h1
   .rename_i hp;exact(aQH h1)▸uO (g:=g) (g':=tD g np m) rfl hp r1
   .exact NF hk r1 h1
  .split at h2
   .rename_i hp;exact(aQH h2)▸uO (g:=g) (g':=tD g np m) rfl hp r2
   .exact NF hk r2 h2
theorem SV {g:Gh}{w:pB}{np:Nat}{m:p5}(hk:vT np m=true) {s:pN}{v:pC}(h:rD g w s v):rD (tD g np m) w (xU m s) v:=by
 have caps: ∀(l l':p5) (vs:p7),wI g l vs->zU m l=some l'->wI (tD g np m) l' vs:=XW hk;unfold xU;split
 .rename_i k n k';cases hi:vJ m k with
  |none=>exact⟨trivial,trivial⟩
  |some j=>
   obtain⟨h1,h2⟩:=h.1;exact⟨⟨by rw[(yJ hk (AM hi)).2];exact h1,h2⟩,trivial⟩
 .obtain h1:=h.1;refine⟨?_,trivial⟩;rcases h1 with⟨h1,_⟩ |⟨_,h2⟩
  .cases h1
  .exact .inr ⟨rfl,h2⟩
 .rename_i p k;obtain⟨i,o⟩:=p;simp only[a9z];cases hi:vJ m i with
  |none=>exact⟨trivial,trivial⟩
  |some j=>
   simp only[Option.map_some,xU.refSlot];obtain⟨q,hq,hv⟩:=xI h.1;exact⟨.inr ⟨rfl,q,by rw[(yJ hk (AM hi)).1];exact hq,by rw[hv]⟩,trivial⟩
 .rename_i f l k;cases hl:zU m l with
  |none=>exact⟨trivial,trivial⟩
  |some l'=>
   simp only[xU.cloSlot];rcases h.1 with⟨h1,_⟩ |⟨_,vs,h2,h3⟩
   .cases h1
   .exact⟨.inr ⟨rfl,vs,caps l l' vs h2 hl,h3⟩,trivial⟩
 .rename_i i k;cases hi:vJ m i with
  |none=>exact⟨trivial,trivial⟩
  |some j=>
   simp only[xU.mpSlot];rcases h.1 with⟨h1,_⟩ |⟨_,p,h2,h3⟩
   .cases h1
   .exact⟨.inr ⟨rfl,p,by rw[(yJ hk (AM hi)).1];exact h2,h3⟩,trivial⟩
 .rename_i t x k _ _ _ _;split
  .rename_i hp;have hv:sM (tD g np m) w t x v:=h.1.imp (fun⟨a,cs,e,q⟩=>⟨a,cs,e,uO (g:=g) (g':=tD g np m) rfl hp q⟩) (fun⟨a,q⟩=>⟨a,uO (g:=g) (g':=tD g np m) rfl hp q⟩);refine⟨hv,?_⟩;replace h:=aAn h;generalize htk:CB t k=k' at h|-;cases k' with
   |none=>trivial
   |some k=>
    simp only[a9A];cases hj:vJ m k with
    |none=>trivial
    |some j=>
     have h2:=h.2;cases t with
     |list u=>
      show (tD g np m).cur j _=_;rw[(yJ hk (AM hj)).2];exact h2
     |pair a b=>cases htk
     |_=>exact h2.elim
  .cases hy:xF m t x with
   |none=>exact⟨trivial,trivial⟩
   |some y=>
    simp only[xU.valSlot];exact⟨h.1.imp (fun⟨a,cs,e,q⟩=>⟨a,cs,e,NF hk q hy⟩) (fun⟨a,q⟩=>⟨a,NF hk q hy⟩),trivial⟩
 .rename_i t x k;split
  .rename_i hp;obtain⟨b,o,cs,h1,h2,h3,h4⟩:=h.1;exact⟨⟨b,o,cs,h1,h2,h3,uO (g:=g) (g':=tD g np m) rfl hp h4⟩,trivial⟩
  .exact⟨trivial,trivial⟩
 .exact⟨h.1,trivial⟩
 .exact⟨trivial,trivial⟩
theorem aAY {q j:Nat}{x:Nat×Nat}: ∀{r:p5},x∈S1 q j r->x=(q,j)\/x∈r
 |[],h=> .inl (aQ2.1 h)
 |(a,b)::r,h=>by
  simp only[S1] at h;split at h
  .exact aQV.1 h
  .rcases aQV.1 h with h|h
   .exact .inr (by rw[h];exact aQ3)
   .exact(aAY h).imp id (aQZ _)
theorem SW {m:p5}: ∀{ts:p5}{q j:Nat},(q,j)∈HI m ts->∃k,(q,k)∈ts/\vJ m k=some j
 |[],_,_,h=>by cases h
 |(a,b)::ts,q,j,h=>by
  simp only[HI] at h;cases hb:vJ m b with
  |none=>
   rw[hb] at h;obtain⟨k,h1,h2⟩:=SW h;exact⟨k,aQZ _ h1,h2⟩
  |some j'=>
   rw[hb] at h;simp only[HI.renTok1] at h;rcases aAY h with h1|h1
   .cases h1;exact⟨b,aQ3,hb⟩
   .obtain⟨k,h1,h2⟩:=SW h1;exact⟨k,aQZ _ h1,h2⟩
theorem HP {g:Gh}{w:pB}{np:Nat}{m:p5}(hk:vT np m=true) {n o:Nat}(hm:(n,o)∈m) {b:Option pM}(h: ∀c,b=some c->xW g w o c):
  xW (tD g np m) w n (FE m b)/\∀bb oo,rK (tD g np m) n (FE m b) bb oo->∃c,b=some c/\rK g o c bb oo:=by
 obtain⟨hJ,hcur⟩:=yJ (g:=g) hk hm;unfold FE;split
 .rename_i t x toks;split
  .rename_i hp;obtain⟨p,cs,h1,h2,h3,h4,h5,h6⟩:=h _ rfl;refine⟨⟨p,cs,by rw[hJ];exact h1,uO (g:=g) (g':=tD g np m) rfl hp h2,h3,h4,h5,fun q j hmem=> ?_⟩,fun bb oo ⟨pp,e1,e2⟩=>⟨_,rfl,pp,by rw[hJ] at e1;exact e1,e2⟩⟩;obtain⟨k,k1,k2⟩:=SW hmem;obtain⟨u,l,v,g1,g2,g3⟩:=h6 q k k1;exact⟨u,l,v,g1,g2,by rw[(yJ hk (AM k2)).2];exact g3⟩
  .cases hy:xF m t x with
   |none=>exact⟨trivial,fun _ _ h=>h.elim⟩
   |some y=>
    obtain⟨p,cs,h1,h2,h3,h4,h5,h6⟩:=h _ rfl;simp only[WJ];refine⟨⟨p,cs,by rw[hJ];exact h1,NF hk h2 hy,h3,h4,h5,fun q j hmem=> ?_⟩,fun bb oo ⟨pp,e1,e2⟩=>⟨_,rfl,pp,by rw[hJ] at e1;exact e1,e2⟩⟩;obtain⟨k,k1,k2⟩:=SW hmem;obtain⟨u,l,v,g1,g2,g3⟩:=h6 q k k1;exact⟨u,l,v,aJL hy g1,g2,by rw[(yJ hk (AM k2)).2];exact g3⟩
 .rename_i e c k;obtain⟨v,xs,h1,h2,h3,h4⟩:=h _ rfl;exact⟨⟨v,xs,by rw[hcur];exact h1,h2,fun q hq=>by rw[hcur];exact h3 q hq,h4⟩,fun bb oo ⟨v',e1,e2⟩=>⟨_,rfl,v',by rw[hcur] at e1;exact e1,e2⟩⟩
 .rename_i e t l n;split
  .rename_i hp;obtain⟨h0,v,xs,h1,h2,h5,h3,h4⟩:=h _ rfl;exact⟨⟨h0,v,xs,by rw[hcur];exact h1,h2,AJ (fun _ _ h=>uO (g:=g) (g':=tD g np m) rfl hp h) h5,fun q hq=>by rw[hcur];exact h3 q hq,h4⟩,fun bb oo ⟨v',e1,e2⟩=>⟨_,rfl,v',by rw[hcur] at e1;exact e1,e2⟩⟩
  .exact⟨trivial,fun _ _ h=>h.elim⟩
 .rename_i k v l;split
  .rename_i hp;rw[aQU] at hp;obtain⟨p,es,cl,h1,h0,h2,h3,h4⟩:=h _ rfl;exact⟨⟨p,es,cl,by rw[hJ];exact h1,h0,h2,MY (g:=g) (g':=tD g np m) rfl hp.1 hp.2 h3,h4⟩,fun bb oo ⟨pp,e1,e2⟩=>⟨_,rfl,pp,by rw[hJ] at e1;exact e1,e2⟩⟩
  .exact⟨trivial,fun _ _ h=>h.elim⟩
 .obtain⟨p,h1,h0,h2,h4⟩:=h _ rfl;exact⟨⟨p,by rw[hJ];exact h1,h0,h2,h4⟩,fun bb oo ⟨pp,e1,e2⟩=>⟨_,rfl,pp,by rw[hJ] at e1;exact e1,e2⟩⟩
 .exact⟨trivial,fun _ _ h=>h.elim⟩
theorem FL {m:p5}{H:rH}: ∀{l:p5}{n:Nat}{b:pM},pQ (S2 m H l) n=some b->∃o,(n,o)∈l/\b=FE m (pQ H o)
 |[],_,_,h=>by cases h
 |(a,c)::l,n,b,h=>by
  simp only[S2,pQ] at h;split at h
  .rename_i e;subst e;exact⟨c,aQ3,(aQH h).symm⟩
  .obtain⟨o,h1,h2⟩:=FL h;exact⟨o,aQZ _ h1,h2⟩
theorem aAZ {m:p5}{env:List (Nat×pN)}: ∀(l:pA) (t:Nat),lk (MS m env l) t=(.any,none)\/lk (MS m env l) t=xU m (lk env t)
 |[],_=> .inl rfl
 |a::l,t=>by
  simp only[MS,lk];split
  .rename_i e;subst e;exact .inr rfl
  .exact aAZ l t
theorem aA0: ∀{m:p5}{n o:Nat},(n,o)∈m->n<S3 m
 |(a,b)::m,n,o,h=>by
  simp only[S3];rcases aQV.1 h with h1|h1
  .cases h1;omega
  .have:=aA0 h1;omega
theorem XX: ∀{m:p5}{n o:Nat},xL m n=some o->(n,o)∈m
 |[],_,_,h=>by cases h
 |(a,b)::m,n,o,h=>by
  simp only[xL] at h;split at h
  .rename_i e;subst e;simp only[aQE] at h;subst h;exact aQ3
  .exact aQZ _ (XX h)
theorem SX {B:Nat}{A:Nat->Nat->Prop}{L:List pM}{g0 g:Gh}{w0 w:pB}{s:St}{a:Act}(h:tP B g w s a) (hg:sJ A L g0 w0 g w s.H) (hnp:s.np=L.length) (k:uR) (hk:vT s.np k.ids=true):
  tP B (tD g s.np k.ids) w (s.keep k) a/\sJ A L g0 w0 (tD g s.np k.ids) w (s.keep k).H/\(s.keep k).np=L.length/\(s.keep k).N=s.N:=by
 unfold St.keep;rw[hk];refine⟨⟨fun t=> ?_,⟨fun i b hb=> ?_,fun i j bi bj b o hij h1 h2 o1 o2=> ?_,h.heap.sl,h.heap.tab.1,fun i b bb oo hb ho=>by
   obtain⟨o,h1,rfl⟩:=FL hb;obtain⟨c1,e1,o1'⟩:=(HP hk h1 fun c hc=>h.heap.blk o c hc).2 bb oo ho;exact h.heap.tab.2 o c1 bb oo e1 o1'⟩,h.size,fun i hi=> ?_,h.def_,Nat.le_max_left _ _⟩,⟨hg.shut,hg.fr,fun i blk b o hb ho=> ?_,fun i p hi hp=> ?_,fun i hi=> ?_,fun i u y us hi hb=> ?_,fun i n u hi hu=>(by
   show (if i<s.np then g.cur i n else _)=_;rw[aQI oW];exact hg.cur i n u hi hu)⟩,hnp,rfl⟩
 .rcases aAZ (m:=k.ids) (env:=s.env) k.slots t with e|e
  .exact⟨by rw[show lk (MT s k true).env t=_ from e];trivial,by rw[show lk (MT s k true).env t=_ from e];trivial⟩
  .have:=SV hk (h.env t);rw[show lk (MT s k true).env t=_ from e];exact this
 .obtain⟨o,h1,rfl⟩:=FL hb;exact(HP hk h1 fun c hc=>h.heap.blk o c hc).1
 .obtain⟨p,k1,rfl⟩:=FL h1;obtain⟨q,k2,rfl⟩:=FL h2;obtain⟨c1,e1,o1'⟩:=(HP hk k1 fun c hc=>h.heap.blk p c hc).2 b o o1;obtain⟨c2,e2,o2'⟩:=(HP hk k2 fun c hc=>h.heap.blk q c hc).2 b o o2;refine h.heap.dis p q c1 c2 b o (fun e=> ?_) e1 e2 o1' o2';subst e;have inj: ∀{m:p5},vT s.np m=true->∀{i j o:Nat},(i,o)∈m->(j,o)∈m->i=j:=by
   intro m
   induction m with
   |nil=>intro _ _ _ _ h;cases h
   |cons z m ih=>
    obtain⟨z1,z2⟩:=z;intro hk i j o h1 h2;simp only[vT,aQU,aRj] at hk;rcases aQV.1 h1 with h1|h1<;>rcases aQV.1 h2 with h2|h2
    .cases h1;cases h2;rfl
    .cases h1;exact absurd rfl (SU hk.1.2 _ _ h2).2
    .cases h2;exact absurd rfl (SU hk.1.2 _ _ h1).2
    .exact ih hk.2 h1 h2
  exact hij (inj hk k1 k2)
 .have hi': ¬i<s.np:=by have:=aRs (Nat.le_max_left _ _) hi;omega
  have hold:xL k.ids i=none:=by
   cases ho:xL k.ids i with
   |none=>rfl
   |some o=>
    have:=aA0 (XX ho);have:=aRs (Nat.le_max_right _ _) hi;omega
  refine⟨?_,fun n=> ?_⟩
  .show (if i<s.np then g.J i else(xL k.ids i).bind g.J)=none;rw[aQO hi',hold];rfl
  .show (if i<s.np then g.cur i n else(xL k.ids i).bind fun o=>g.cur o n)=none;rw[aQO hi',hold];rfl
 .obtain⟨p,h1,rfl⟩:=FL hb;obtain⟨c,e1,e2⟩:=(HP hk h1 fun c hc=>h.heap.blk p c hc).2 b o ho;exact hg.perm p c b o e1 e2
 .show (if i<s.np then g.J i else _)=_;rw[aQI oW];exact hg.J i p hi hp
 .rcases hg.live i hi with⟨p,hp⟩ |⟨n,v,hv⟩
  .left;refine⟨p,?_⟩;show (if i<s.np then g.J i else _)=_;rw[aQI oW];exact hp
  .right;refine⟨n,v,?_⟩;show (if i<s.np then g.cur i n else _)=_;rw[aQI oW];exact hv
 .obtain⟨o,h1,h2⟩:=FL hb;have ho:=(XV hk h1).2 oW;subst ho;unfold FE at h2;split at h2
  .rename_i t x toks heq;split at h2
   .simp only[pM.cells.injEq] at h2;obtain⟨rfl,_⟩:=h2;exact hg.ty o u x toks hi heq
   .cases hy:xF k.ids t x with
    |none=>rw[hy] at h2;cases h2
    |some y=>
     rw[hy] at h2;simp only[WJ,pM.cells.injEq] at h2;obtain⟨rfl,_⟩:=h2;exact hg.ty o u x toks hi heq
  .cases h2
  .split at h2<;>cases h2
  .split at h2<;>cases h2
  .cases h2
  .cases h2
theorem BH {B:Nat}{A:Nat->Nat->Prop}{L:List pM}{g0 g:Gh}{w0 w:pB}{s:St}{a:Act}(h:tP B g w s a) (hg:sJ A L g0 w0 g w s.H) (hnp:s.np=L.length) (k:uR):
  ∃g',tP B g' w (s.keep k) a/\sJ A L g0 w0 g' w (s.keep k).H/\(s.keep k).np=L.length/\(s.keep k).N=s.N:=by
 unfold St.keep;cases hk:vT s.np k.ids with
 |false=>
  refine⟨g,⟨fun t=>⟨trivial,trivial⟩,⟨(fun i b h=>by cases h),(fun i j bi bj b o _ h=>by cases h),h.heap.sl,h.heap.tab.1,(fun i b bb oo h=>by cases h)⟩,h.size,h.nb,h.def_,h.np⟩,⟨hg.shut,hg.fr,(fun i blk b o h=>by cases h),hg.J,hg.live,(fun i u y us _ h=>by cases h),hg.cur⟩,hnp,rfl⟩
 |true=>
  have:=SX h hg hnp k hk;unfold St.keep at this;rw[hk] at this;exact⟨_,this⟩
theorem SY {g g':Gh}{w w':pB}{env:List (Nat×pN)}{a:Act}{o:Oper}{sl:pN}{v:pC}(h:xZ g w env a.tmps) (le:Le g w g' w') (hs:rD g' w' sl v) {N:Nat}(hN:a.tmps.size=N) (hd:FB N o.dst=true):xZ g' w' (sL o.dst sl env) (a.put o.dst v).tmps:=by
  intro t;cases ho:o.dst with
  |none=>exact yW le (h t)
  | some d=>
    rw[ho] at hd;simp only[FB,aQY] at hd;simp only[sL,lk,Act.put];by_cases hdt:d=t
    · subst hdt
      rw[aQI rfl];have hlt:d<a.tmps.size:=by rw[hN];exact hd
      have:(a.tmps.setIfInBounds d v).getD d undef=v:=by
        rw[aQ7,Array.getElem?_setIfInBounds_self_of_lt hlt];rfl
      rw[this];exact hs
    · rw[aQO hdt]
      have:(a.tmps.setIfInBounds d v).getD t undef=a.tmps.getD t undef:=by
        rw[aQ7,aRT hdt,←aQ7]
      rw[this];exact yW le (h t)
theorem FM {n:Nat}: ∀{u:List (Nat×pM)},FC n u=true→∀{i:Nat},i∈pS u→i<n
  | (k,b)::u,h,i,hi=>by
    simp only[FC,aQU,aQY] at h;simp only[pS,aQV] at hi;rcases hi with rfl|hi
    .exact h.1
    .exact FM h.2 hi
theorem XY (a:Act) (d:Option Tmp) (v:pC):(a.put d v).tmps.size=a.tmps.size:=by
  cases d<;>simp [Act.put]
theorem XZ (a:Act) (d:Option Tmp) (v:pC):(a.put d v).defers=a.defers:=by
  cases d<;>simp [Act.put]
theorem tP.step {B:Nat}{g g':Gh}{w w':pB}{s:St}{a:Act}{o:Oper}{e:q9}{v:pC}(h:tP B g w s a) (k:xG g w s.H e g' w' v) (hd:FB s.N o.dst=true) (hi:FC (s.nb+32) e.upd=true):
    tP B g' w' ⟨sL o.dst e.slot s.env,qH e.upd s.H,s.nb+32,s.N,s.np⟩ (a.put o.dst v):=by
  refine⟨SY h.env k.le k.slot h.size hd,k.heap,(XY _ _ _).trans h.size,fun i hn=> ?_,by rw[XZ];exact h.def_.eff h.heap k,aRs h.np (Nat.le_add_right _ _)⟩;have:i∉pS e.upd:=fun hm=>by have:=FM hi hm;simp only at hn;omega
  have hk:=k.gho i this;have hb:=h.nb i (by simp only at hn;omega);exact⟨hk.1.trans hb.1,fun n=>by rw[hk.2];exact hb.2 n⟩
theorem aA1 {T:rW}{Γ:sP}{ops:List Oper}: ∀(l:List Oper),tC T Γ ops l none=none
  |[]=>rfl
  |_::_=>rfl
theorem Y0 {T:rW}{Γ:sP}{ops:List Oper}{o:Oper}{l:List Oper}{x y:tZ}(h:tC T Γ ops (o::l) (some x)=some y):
    ∃ e,wH T Γ ops o x.s=some e∧FB x.s.N o.dst=true∧FC (x.s.nb+32) e.upd=true∧
      tC T Γ ops l (some ⟨⟨sL o.dst e.slot x.s.env,qH e.upd x.s.H,x.s.nb+32,x.s.N,x.s.np⟩,qH x.side (qH (HH x.s.H e.upd e.rds e.upd) e.side),e::x.es⟩)=some y:=by
  simp only[tC] at h;cases he:wH T Γ ops o x.s with
  |none=>rw[he] at h;simp only[RX] at h;rw[aA1] at h;cases h
  | some e=>
    rw[he] at h;simp only[RX] at h;by_cases hc:(FB x.s.N o.dst&&FC (x.s.nb+32) e.upd)=true
    · rw[aQI hc] at h
      simp only[aQU] at hc;exact⟨e,rfl,hc.1,hc.2,h⟩
    .rw[aQO hc,aA1] at h;cases h
theorem BI {T:rW}{Γ:sP}{ops:List Oper}: ∀{l:List Oper}{x y:tZ},tC T Γ ops l (some x)=some y→(∀p∈x.side,p∈y.side)∧y.s.N=x.s.N∧y.s.np=x.s.np
  | [],x,y,h=>by
    simp only[tC,aQE] at h;subst h;exact⟨fun _ h=>h,rfl,rfl⟩
  | o::l,x,y,h=>by
    obtain⟨e,_,_,_,h4⟩:=Y0 h;obtain⟨h5,h6,h7⟩:=BI h4;exact⟨fun p hp=>h5 p (vL.2 (.inl hp)),h6,h7⟩
def zY (ro:p9):Fence:={Fence.wide with round:=ro}
theorem Y1 {ro:p9}{n:Nat}{P:Program}{f:FuncId}{args:Array pC}{w:pB}{R:Ending→pB→Prop}(h:Calls P f args w R):CallsIn (zY ro) n P f args w R:=callsIn_wide.2 h
section
variable {B:Nat}{P:Program}{T:rW}{Γ:sP}(hT:vK P T) (hΓ:AL P Γ) {A:Nat→Nat→Prop}{L:List pM}{g0:Gh}{w0:pB}{Q:Exit→Act→pB→Prop}
include hT hΓ
theorem aJM {g:Gh}{w:pB}{s:St}{a:Act}(h:tP B g w s a) (e:q9):wS g s.nb e:=fun i _ hb=>h.nb i hb
omit hT hΓ in
theorem Y2 {ops:List Oper}{o:Oper}{s:St}{e:q9}(h:wH T Γ ops o s=some e): ∀c,o.op≠.defer c:=by
  intro c hc;replace h:=(KA h).1;unfold JU at h;cases hg:o.guard with
  |none=>rw[hg,hc] at h;simp [JT,tK,JR] at h
  | some jb=>
    rw[hg,hc] at h;simp only at h;cases hk:Γ (RW jb.1 jb.2) with
    |some _=>rw[hk] at h;cases h
    | none=>
      rw[hk] at h;simp only[MO] at h;cases hG:DO s.env jb.2 (xS ops jb.1)<;>rw[hG] at h<;>simp [JS,tK,F9] at h
omit hT hΓ in
theorem Y3 {ro:p9}{o:Oper}{a:Act}{w:pB}{K:Act→pB→Prop}(hd: ∀c,o.op≠.defer c) (h:o.wp P a w K Q):o.wpIn (zY ro) 0 P a w K Q:=by
  refine⟨fun _ _=>trivial,?_⟩;rw[Oper.semAt_eq _ _ _ hd];unfold Oper.wp at h;generalize (execOp a.eval o).run P w=r at h|-;unfold Oper.upon at h;unfold Oper.uponIn;split at h
  .exact h
  .exact h
  .exact h
  .exact⟨fun h0=>(by cases h0),Y1 h⟩
  .exact⟨fun h0=>(by cases h0),fun c cs _=>let ⟨v,w',r,s⟩:=h c cs;⟨v,w',r,stepsIn_wide.2 s⟩⟩
  .exact h
  .exact h.elim
theorem aA2 {ro:p9}{ops:Array Oper}: ∀{l:List Oper}{x y:tZ}{a:Act}{w:pB}{g:Gh},tC T Γ ops.toList l (some x)=some y→(∀p∈y.side,p)→tP B g w x.s a→sJ A L g0 w0 g w x.s.H→L.length=x.s.np→
    (∀g' a' w',tP B g' w' y.s a'→sJ A L g0 w0 g' w' y.s.H→Q .normal a' w')→wpListIn (zY ro) 0 P ops Q l a w
  | [],x,y,a,w,g,h,hs,hr,hg,hn,hQ=>by
    simp only[tC,aQE] at h;subst h;exact hQ g a w hr hg
  | o::l,x,y,a,w,g,h,hs,hr,hg,hn,hQ=>by
    obtain⟨e,h1,h2,h3,h4⟩:=Y0 h;have hside: ∀p∈e.side,p:=fun p hp=>hs p ((BI h4).1 p (vL.2 (.inr (vL.2 (.inr hp)))));have key:=XU hT hΓ (ops:=ops.toList) (o:=o) (a:=a) (K:=wpListIn (zY ro) 0 P ops Q l) (Q:=Q) hr.env hr.heap h1 hside (aJM hT hΓ hr e) (fun g' w' v k=>aA2 h4 hs (hr.step k h2 h3) (hg.eff k (hn▸(KA h1).2)) hn hQ);simp only[aRQ] at key;unfold wpListIn;split at key
    .rename_i hw;rw[aQI hw];exact Y3 (Y2 h1) key
    .rename_i hw;rw[aQO hw];exact⟨fun _ _=>trivial,key⟩
theorem aJN {ro:p9}{id:Nat}{ops:Array Oper}{s:St}{y:tZ}{a:Act}{w:pB}{g:Gh}(h:tC T Γ ops.toList ops.toList (some ⟨s,[],[]⟩)=some y) (hs: ∀p∈y.side,p) (hr:tP B g w s a) (hg:sJ A L g0 w0 g w s.H) (hn:L.length=s.np)
    (hQ: ∀g' a' w',tP B g' w' y.s a'→sJ A L g0 w0 g' w' y.s.H→Q .normal a' w'):(Code.region id ops false).wpIn (zY ro) 0 P Q a w:=
  wpIn_region_list (aA2 hT hΓ h hs hr hg hn hQ)
end
theorem aJO {H H':List (Nat×pM)}{t:Ty}{i off:Nat}{e:q9}(h:F8 H t i off (pQ H i)=some e) (hl: ∀id∈e.rds,pQ H' id=pQ H id):i∈e.rds∧F8 H' t i off (pQ H' i)=some e:=by
  have key: ∃k n v x ts,pQ H i=some (.cells v x ts)∧yV v x=some (k,n)∧R6 t i off k n v x (pQ H k)=some e∧e.rds=[1000000000,i,k]:=by
    unfold F8 at h;split at h
    case h_2=>cases h
    rename_i v x ts hb;cases hf:yV v x with
    |none=>rw[hf] at h;cases h
    | some q=>
      obtain⟨k,n⟩:=q;rw[hf] at h;refine⟨k,n,v,x,ts,hb,hf,h,?_⟩;simp only[R7] at h;unfold R6 at h;split at h
      case h_2=>cases h
      generalize xD _ _ _ _=z at h;cases z with
      |none=>cases h
      | some z=>
        obtain⟨v',x'⟩:=z;simp only[VV] at h;unfold VU at h;split at h
        .simp only[aQE] at h;rw[←h]
        .cases h
  obtain⟨k,n,v,x,ts,h1,h2,h3,h4⟩:=key;refine⟨by rw[h4];simp,?_⟩;rw[hl i (by rw[h4];simp),h1];simp only[F8,h2,R7];rw[hl k (by rw[h4];simp)];exact h3
theorem Y4 {ρ ρ':Operand→pN}: ∀{xs:List Operand},(∀x∈xs,ρ' x=ρ x)→uH ρ' xs=uH ρ xs
  |[],_=>rfl
  |x::xs,h=>by simp only[uH,h x oY,Y4 (fun y hy=>h y (aQZ _ hy))]
theorem Y5 {ρ ρ':Operand→pN}: ∀{xs:List (Nat×Operand)},(∀x∈xs,ρ' x.2=ρ x.2)→tJ ρ' xs=tJ ρ xs
  |[],_=>rfl
  |(i,x)::xs,h=>by simp only[tJ,h (i,x) oY,Y5 (fun y hy=>h y (aQZ _ hy))]
theorem aA3 {T:rW}{ρ ρ':Operand→pN}: ∀{xs:List Operand}{ts:List TypeId},(∀x∈xs,ρ' x=ρ x)→DM T ρ' xs ts=DM T ρ xs ts
  |[],_,_=>by simp [DM]
  |_::_,[],_=>by simp [DM]
  |x::xs,t::ts,h=>by simp only[DM,h x oY,aA3 (fun y hy=>h y (aQZ _ hy))]
theorem aJP {T:rW}{Γ:sP}{ty:TypeId}{ρ ρ':Operand→pN}{base:Nat}{H:List (Nat×pM)}(op:Op) (h: ∀x∈op.operands,ρ' x=ρ x):tK T Γ ty ρ' base H op=tK T Γ ty ρ base H op:=by
  cases op
  case slice t x lo hi mx=>
    cases mx with
    |some m=>rfl
    | none=>
      have h1:=h x (by simp [Op.operands])
      have h2:xE ρ' lo=xE ρ lo:=by
        cases lo with
        |none=>rfl
        |some l=>simp only[xE,h l (by simp [Op.operands])]
      have h3:xE ρ' hi=xE ρ hi:=by
        cases hi with
        |none=>rfl
        |some l=>simp only[xE,h l (by simp [Op.operands])]
      simp only[tK,h1,h2,h3]
  case call c=>
    obtain⟨callee,args,tys⟩:=c
    have ha: ∀x∈args.toList,ρ' x=ρ x:=fun x hx=>h x (by
      have:x∈args:=by simpa using hx
      simp only[Op.operands,Call.operands];split<;>simp [this])
    cases callee with
    |builtin b=>cases b<;>simp only[tK,HF,Y4 ha]
    | value f=>
      have hf:=h f (by simp [Op.operands,Call.operands]);simp only[tK,HF,hf];cases HE args.toList tys.toList with
      |false=>rfl
      |true=>simp only[WC,aA3 ha]
    |_=>rfl
  case build t ps=>simp only[tK,Y5 (fun x hx=>h x.2 (by simp only[Op.operands,aSr];exact List.mem_map_of_mem hx))]
  case buildSlice t n ps=>simp only[tK,Y5 (fun x hx=>h x.2 (by simp only[Op.operands,aSr];exact List.mem_map_of_mem hx))]
  case makeFunc f first caps=>
    cases f with
    | func f=>
      have hc: ∀x∈caps.toList,ρ' x=ρ x:=fun x hx=>h x (by
        have:x∈caps:=by simpa using hx
        simp [Op.operands,this])
      simp only[tK,Y4 hc]
    |_=>rfl
  all_goals first
    |rfl
    |(simp only[Op.operands,aSr,aQV,aSb,or_false,forall_eq,forall_eq_or_imp] at h;simp only[tK,h])
    |(simp [Op.operands] at h;simp only[tK,h])
theorem Y6: ∀{l acc:List rC}{i:Nat},i∈rQ (xB l acc)↔i∈rQ l∨i∈rQ acc
  |[],_,_=>by simp [xB,rQ]
  | w::l,acc,i=>by
    simp only[xB,Y6,rQ,aQV];constructor
    · rintro(h|h|h)
      .exact .inl (.inr h)
      .exact .inl (.inl h)
      .exact .inr h
    · rintro((h|h) |h)
      .exact .inr (.inl h)
      .exact .inl h
      .exact .inr (.inr h)
section
variable {H H':List (Nat×pM)}
theorem aJQ {k:p9}{a b:sF}(h:xC H k (some a)=some b):(∀i,i∈rQ a.ws→i∈rQ b.ws)∧((∀i,i∈rQ b.ws→pQ H' i=pQ H i)→xC H' k (some a)=some b):=by
  cases k with
  | none=>
    have h:none=some b:=h;cases h
  | some k=>
    simp only[xC] at h|-
    have:(∃e c m,pQ H k=some (.grow e c m)):=by
      cases hg:pQ H k with
      |none=>rw[hg] at h;cases h
      | some bl=>cases bl with
        |grow e c m=>exact⟨_,_,_,rfl⟩
        |_=>rw[hg] at h;cases h
    obtain⟨e,c,m,hg⟩:=this;rw[hg] at h;simp only[zL] at h;split at h
    .cases h
    · rename_i hm
      simp only[aQE] at h;subst h;refine⟨fun i hi=>by simp only[rQ,aQV];exact .inr hi,fun hl=> ?_⟩;rw[hl k (by simp [rQ,rC.id]),hg];simp only[zL];rw[aQO hm]
theorem aJR (H:List (Nat×pM)) (k:p9):xC H k none=none:=by
  cases k with
  |none=>rfl
  | some k=>
    simp only[xC];cases pQ H k with
    |none=>rfl
    |some bl=>cases bl<;>rfl
theorem aA4 (H:List (Nat×pM)) (toks:p5) (o:Nat): ∀(qs:pA),wP H toks o qs none=none
  |[]=>rfl
  |q::qs=>by simp only[wP,aJR,aA4 H toks o qs]
theorem aA5 {H H':List (Nat×pM)}{toks:p5}{o:Nat}: ∀{qs:pA}{a b:sF},wP H toks o qs (some a)=some b→(∀i,i∈rQ a.ws→i∈rQ b.ws)∧((∀i,i∈rQ b.ws→pQ H' i=pQ H i)→wP H' toks o qs (some a)=some b)
  |[],a,b,h=>by simp only[wP,aQE] at h;subst h;exact⟨fun _ h=>h,fun _=>rfl⟩
  | q::qs,a,b,h=>by
    simp only[wP] at h|-;cases hm:xC H (vR toks (o+q)) (some a) with
    |none=>rw[hm,aA4] at h;cases h
    | some m=>
      rw[hm] at h;obtain⟨h1,h2⟩:=aJQ (H':=H') hm;obtain⟨h3,h4⟩:=aA5 (H':=H') h;exact⟨fun i hi=>h3 i (h1 i hi),fun hl=>by rw[h2 (fun i hi=>hl i (h3 i hi))];exact h4 hl⟩
theorem aJS (H H':List (Nat×pM)) (a:sF) (s:pN):wF H' a .v s=wF H a .v s:=by
  obtain⟨d,k⟩:=s;cases d with
  | val t x=>
    cases t with
    | clo=>
      cases x with
      |none=>rfl
      |some q=>obtain⟨f,l⟩:=q;cases l<;>rfl
    |_=>rfl
  |_=>rfl
theorem aA6 {H H':List (Nat×pM)}{t:Ty}{os:pA}{i o:Nat}{a b:sF}(h:uN H t os i o a (pQ H i)=some b):(∀i,i∈rQ a.ws→i∈rQ b.ws)∧((∀i,i∈rQ b.ws→pQ H' i=pQ H i)→uN H' t os i o a (pQ H' i)=some b):=by
  cases hg:pQ H i with
  |none=>rw[hg] at h;simp [uN] at h
  | some bl=>
    rw[hg] at h;cases bl with
    | cells u x toks=>
      simp only[uN] at h;cases hy:qZ t u x o with
      |none=>rw[hy] at h;simp [CC] at h
      | some y=>
        rw[hy] at h;simp only[CC] at h;split at h
        · rename_i hc
          obtain⟨h3,h4⟩:=aA5 (H':=H') h;refine⟨fun j hj=>h3 j (by simp only[rQ,aQV];exact .inr hj),fun hl=> ?_⟩;rw[hl i (h3 i (by simp [rQ,rC.id])),hg];simp only[uN,hy,CC];rw[aQI hc];exact h4 hl
        .cases h
    |_=>simp [uN] at h
theorem aJT (H:List (Nat×pM)) (f:FuncId) (args:List pN) (ks:List (Ty×pA)) (cs ids:p5):w6 H f args ks cs ids none=none:=by cases ks<;>cases cs<;>rfl
theorem aA7 {H H':List (Nat×pM)}{f:FuncId}{args:List pN}: ∀{ks:List (Ty×pA)}{cs ids:p5}{a b:sF},w6 H f args ks cs ids (some a)=some b→(∀i,i∈rQ a.ws→i∈rQ b.ws)∧((∀i,i∈rQ b.ws→pQ H' i=pQ H i)→w6 H' f args ks cs ids (some a)=some b)
  | [],[],ids,a,b,h=>by
    simp only[w6,aQE] at h|-;subst h;exact⟨fun _ h=>h,fun _=>rfl⟩
  |[],_::_,_,_,_,h=>by simp [w6] at h
  |_::_,[],_,_,_,h=>by simp [w6] at h
  | (t,os)::ks,(i,o)::cs,ids,a,b,h=>by
    simp only[w6] at h|-;cases hb:uN H t os i o a (pQ H i) with
    |none=>rw[hb,aJT] at h;cases h
    | some m=>
      rw[hb] at h;obtain⟨h1,h2⟩:=aA6 (H':=H') hb;obtain⟨h3,h4⟩:=aA7 (H':=H') h;exact⟨fun i hi=>h3 i (h1 i hi),fun hl=>by rw[h2 (fun i hi=>hl i (h3 i hi))];exact h4 hl⟩
theorem aA8 {p:PK}{s:pN}{a b:sF}(h:wF H a p s=some b):(∀i,i∈rQ a.ws→i∈rQ b.ws)∧((∀i,i∈rQ b.ws→pQ H' i=pQ H i)→wF H' a p s=some b):=by
  by_cases hpv:p= .v
  · subst hpv
    refine⟨?_,fun _=>by rw[aJS H H'];exact h⟩;unfold wF at h;split at h
    .simp only[QR,aQE] at h;subst h;exact fun _ h=>h
    · simp only[QQ] at h
      split at h
      .simp only[aQE] at h;subst h;exact fun _ h=>h
      .cases h
    .simp only[QS,aQE] at h;subst h;exact fun _ h=>h
    .rename_i h1;cases h1
    .rename_i h1;cases h1
    .rename_i h1;cases h1
    .rename_i h1;cases h1
    .rename_i h1;cases h1
    .cases h
  unfold wF at h;split at h
  .exact absurd rfl hpv
  .exact absurd rfl hpv
  .exact absurd rfl hpv
  · rename_i t x k
    simp only[wF];cases hg:pQ H k with
    |none=>rw[hg] at h;simp [zM] at h
    | some bl=>
      rw[hg] at h;cases bl with
      | grow e c m=>
        simp only[zM] at h;split at h
        · rename_i hc
          simp only[aQE] at h;subst h;refine⟨fun i hi=>by simp only[rQ,aQV];exact .inr hi,fun hl=> ?_⟩;rw[hl k (by simp [rQ,rC.id]),hg];simp only[zM];rw[aQI hc]
        .cases h
      |_=>simp [zM] at h
  · rename_i t os i o k
    simp only[wF];exact aA6 h
  · rename_i i k
    simp only[wF];cases hg:pQ H i with
    |none=>rw[hg] at h;simp [zN] at h
    | some bl=>
      rw[hg] at h;cases bl with
      | map s t l=>
        simp only[zN] at h;split at h
        · rename_i hc
          simp only[aQE] at h;subst h;refine⟨fun j hj=>by simp only[rQ,aQV];exact .inr hj,fun hl=> ?_⟩;rw[hl i (by simp [rQ,rC.id]),hg];simp only[zN];rw[aQI hc]
        .cases h
      |_=>simp [zN] at h
  · rename_i k n k'
    simp only[wF];cases hg:pQ H k with
    |none=>rw[hg] at h;simp [zO] at h
    | some bl=>
      rw[hg] at h;cases bl with
      | row e t l m=>
        simp only[zO] at h;split at h
        · rename_i hc
          simp only[aQE] at h;subst h;refine⟨fun j hj=>by simp only[rQ,aQV];exact .inr hj,fun hl=> ?_⟩;rw[hl k (by simp [rQ,rC.id]),hg];simp only[zO];rw[aQI hc]
        .cases h
      |_=>simp [zO] at h
  · simp only[wF]
    exact aA7 h
  .cases h
theorem aA9 (H:List (Nat×pM)) (gs:List (Nat×Nat×PK)):yT H gs none=none:=by cases gs<;>rfl
theorem aBa {H H':List (Nat×pM)}: ∀{gs:List (Nat×Nat×PK)}{a b:sF},yT H gs (some a)=some b→(∀i,i∈rQ a.ws→i∈rQ b.ws)∧((∀i,i∈rQ b.ws→pQ H' i=pQ H i)→yT H' gs (some a)=some b)
  |[],a,b,h=>by simp only[yT,aQE] at h;subst h;exact⟨fun _ h=>h,fun _=>rfl⟩
  | (c,q,pk)::gs,a,b,h=>by
    simp only[yT] at h|-;cases hm:wF H a pk (H4 q pk (F4 a.H (a.n-1-c))) with
    |none=>rw[hm] at h;simp only[JI,aA9] at h;cases h
    | some m=>
      rw[hm] at h;simp only[JI] at h;obtain⟨h1,h2⟩:=aA8 (H':=H') hm;obtain⟨h3,h4⟩:=aBa (H':=H') h;exact⟨fun i hi=>h3 i (h1 i hi),fun hl=>by rw[h2 (fun i hi=>hl i (h3 i hi))];simp only[JI];exact h4 hl⟩
theorem aJU (H:List (Nat×pM)): ∀(ps:List PK) (ss:List pN),w7 H ps ss none=none
  |[],[]=>rfl
  |[],_::_=>rfl
  |_::_,[]=>rfl
  |_::_,_::_=>rfl
theorem aBb {H H':List (Nat×pM)}: ∀{ps:List PK}{ss:List pN}{a b:sF},w7 H ps ss (some a)=some b→(∀i,i∈rQ a.ws→i∈rQ b.ws)∧((∀i,i∈rQ b.ws→pQ H' i=pQ H i)→w7 H' ps ss (some a)=some b)
  |[],[],a,b,h=>by simp only[w7,aQE] at h;subst h;exact⟨fun _ h=>h,fun _=>rfl⟩
  |[],_::_,a,b,h=>by simp [w7] at h
  |_::_,[],a,b,h=>by simp [w7] at h
  | p::ps,s::ss,a,b,h=>by
    simp only[w7] at h|-;cases hm:wF H a p s with
    |none=>rw[hm,aJU] at h;cases h
    | some m=>
      rw[hm] at h;obtain⟨h1,h2⟩:=aA8 (H':=H') hm;obtain⟨h3,h4⟩:=aBb (H':=H') h;exact⟨fun i hi=>h3 i (h1 i hi),fun hl=>by rw[h2 (fun i hi=>hl i (h3 i hi))];exact h4 hl⟩
theorem aBc {H H':List (Nat×pM)}{base:Nat}{args:List pN}{s:qC}{e:q9}(h:DK H base args (some s)=some e) (hl: ∀i∈e.rds,pQ H' i=pQ H i):DK H' base args (some s)=some e:=by
  simp only[DK] at h|-;cases hp0:w7 H s.ps args (some ⟨[],[],[],0⟩) with
  |none=>rw[hp0,aA9] at h;cases h
  |some a0=>
   rw[hp0] at h;cases hp:yT H s.gs (some a0) with
   |none=>rw[hp] at h;cases h
   |some a=>
    rw[hp] at h
    have hrd: ∀i,i∈rQ (xB a.ws [])→i∈e.rds:=by
      simp only[MD] at h;cases hcl:F5 (xB a.ws []) (xB a.H []) with
      |none=>rw[hcl] at h;cases h
      |some L=>
      rw[hcl] at h;simp only[QY] at h;cases hc:s.C (xB a.args []) L with
      |none=>rw[hc] at h;cases h
      | some r=>
        rw[hc] at h;simp only[QX] at h;unfold MB at h;split at h
        · simp only[aQE] at h
          rw[←h];exact fun i hi=>vL.2 (.inl hi)
        .cases h
    obtain⟨g1,g2⟩:=aBa (H':=H') hp;rw[(aBb (H':=H') hp0).2 (fun i hi=>hl i (hrd i (Y6.2 (.inl (g1 i hi))))),g2 (fun i hi=>hl i (hrd i (Y6.2 (.inl hi))))];exact h
theorem aBd {H H':List (Nat×pM)}{base:Nat}{args:List pN}{s:Option qC}{e:q9}(h:HD H base args s=some e) (hl: ∀i∈e.rds,pQ H' i=pQ H i):HD H' base args s=some e:=by
  cases s with
  |none=>cases h
  | some s=>
    simp only[HD] at h|-;cases hr:s.row with
    | some F=>
      rw[hr] at h;simp only[RN] at h|-;unfold QZ at h|-;split at h
      · rename_i k n x
        cases hg:pQ H k with
        |none=>rw[hg] at h;cases h
        | some b=>
          have hk:k∈e.rds:=by
            rw[hg] at h;cases b with
            | row e0 t l m=>
              simp only[VG] at h;unfold a9b at h;split at h
              .simp only[aQE] at h;rw[←h];simp
              .cases h
            |_=>cases h
          rw[hl k hk];exact h
      .cases h
    | none=>
      rw[hr] at h;simp only[RN] at h|-;cases hn:ME s.ps args with
      |none=>rw[hn] at h;exact aBc h hl
      | some k=>
        rw[hn] at h;simp only[a9a] at h|-;cases hg:pQ H k with
        |none=>rw[hg] at h;cases h
        | some b=>
          rw[hg] at h;cases b with
          | row e0 t l m=>
            simp only[MG] at h;cases hi:DK ((k,.dead)::H) base (MF k t l args) (some s) with
            |none=>rw[hi] at h;cases h
            | some e1=>
              rw[hi] at h
              have hk:k∈e.rds∧∀i∈e1.rds,i∈e.rds:=by
                unfold VF at h;split at h
                · rename_i heq
                  simp only[aQE] at heq;subst heq;split at h
                  · simp only[aQE] at h
                    rw[←h];exact⟨by simp,fun i hi=>aQZ _ hi⟩
                  .cases h
                .cases h
              rw[hl k hk.1,hg];simp only[MG]
              rw[aBc hi (fun i hi'=>by
                simp only[pQ];split
                .rfl
                .exact hl i (hk.2 i hi'))]
              exact h
          |_=>cases h
theorem aJV {Γ:sP}{base:Nat}{args:List pN}{f:pN}{e:q9}(h:JO Γ H base args f=some e) (hl: ∀i∈e.rds,pQ H' i=pQ H i):JO Γ H' base args f=some e:=by
  unfold JO at h|-;split at h
  .exact aBd h hl
  .exact aBd h hl
  .cases h
theorem aJW {T:rW}{Γ:sP}{ty:TypeId}{ρ:Operand→pN}{base:Nat}{op:Op}{e:q9}(h:tK T Γ ty ρ base H op=some e) (hl: ∀i∈e.rds,pQ H' i=pQ H i):tK T Γ ty ρ base H' op=some e:=by
  cases op
  case load t x=>
    simp only[tK] at h|-;unfold R8 at h|-;split at h
    · rename_i ti k n c i o' _ e1 e2
      unfold MK at h;split at h
      · rename_i e' t' l m hg
        split at h
        · rename_i hc
          have:e.rds=[k]:=by
            unfold a9h at h;split at h
            .simp only[aQE] at h;rw[←h]
            .cases h
          rw[hl k (by rw[this];simp),hg];simp only[MK];rw[aQI hc];exact h
        .cases h
      .cases h
    .exact h
    · rename_i ti i off k e1 e2
      rcases a91 h with h1|⟨h0,h1⟩
      · have hi:i∈e.rds:=by
          rcases a90 h1 with h|h
          · unfold MJ at h
            split at h
            · unfold a9g at h;split at h
              .simp only[aQE] at h;rw[←h];simp
              .cases h
            .cases h
          · unfold R5 at h
            split at h
            · unfold VR at h;split at h
              .simp only[aQE] at h;rw[←h];simp
              .cases h
            .cases h
        rw[hl i hi,h1];rfl
      · obtain⟨hi,h2⟩:=aJO h1 hl
        rw[hl i hi,h0];rw[hl i hi] at h2;exact h2
    .cases h
  case store t x y=>
    simp only[tK] at h|-;unfold RE at h|-;split at h
    · rename_i ti i off k kk n k' e1 e2 e3
      have hi:i∈e.rds:=by
        unfold VZ at h;split at h
        · rcases aAh h with h|h
          · unfold R9 at h;split at h
            .simp only[aQE] at h;rw[←h];simp
            .cases h
          · unfold VY at h;split at h
            .simp only[aQE] at h;rw[←h];simp
            .cases h
        .cases h
      rw[hl i hi];exact h
    · rename_i ti k n c i o' _ t y k' e1 e2 e3
      split at h
      · rename_i ht
        rw[aQI ht];unfold RD at h;split at h
        · rename_i e' t' l m hg
          split at h
          · rename_i hc
            have:e.rds=[k]:=by
              unfold a9k at h;split at h
              .simp only[aQE] at h;rw[←h]
              .cases h
            rw[hl k (by rw[this];simp),hg];simp only[RD];rw[aQI hc];exact h
          .cases h
        .cases h
      .cases h
    · rename_i ti i off k t y k' e1 e2 e3
      split at h
      · rename_i ht
        have hi:e.rds=[i]:=by
          unfold RC at h;split at h
          · unfold RB at h
            split at h
            · unfold a9j at h;split at h
              .simp only[aQE] at h;rw[←h]
              .cases h
            .cases h
          · unfold RA at h
            split at h
            · unfold R9 at h;split at h
              .simp only[aQE] at h;rw[←h]
              .cases h
            .cases h
        rw[hl i (by rw[hi];simp)];simp only[aQI ht];exact h
      .cases h
    .cases h
  case call c=>
    obtain⟨callee,args,tys⟩:=c;cases callee with
    | builtin b=>
      cases b
      case append=>
        simp only[tK,HF] at h|-;unfold RQ at h|-;split at h
        · split at h
          · rename_i hu
            rw[aQI hu];unfold RL at h|-;split at h
            · split at h
              · rename_i hbu
                rw[aQI hbu];unfold RK at h;split at h
                · rename_i hg
                  split at h
                  · rename_i hbt
                    split at h
                    · rename_i hc
                      simp only[aQE] at h;subst h;rw[hl _ (aQ3),hg];simp only[RK];rw[aSC hbt,aQI hc]
                    .cases h
                  .cases h
                .cases h
              .cases h
            · split at h
              · rename_i hba
                rw[aSC hba];unfold RJ at h;split at h
                · rename_i hg
                  split at h
                  · rename_i hc
                    simp only[aQE] at h;subst h;rw[hl _ (aQ3),hg];simp only[RJ];rw[aQI hc]
                  .cases h
                .cases h
              .cases h
            .cases h
          · rename_i hu
            rw[aQO hu];unfold WB at h|-;split at h
            · unfold RP at h
              split at h
              · rename_i hg
                split at h
                · rename_i hc
                  simp only[aQE] at h;subst h;rw[hl _ (aQ3),hg];simp only[RP];rw[aQI hc]
                .cases h
              .cases h
            .cases h
        .cases h
      case len=>
        simp only[tK,HF] at h|-;unfold RO at h|-;split at h
        · unfold W9 at h|-
          split at h
          · unfold RI at h
            split at h
            · rename_i hg
              simp only[aQE] at h;subst h;rw[hl _ (aQ3),hg];simp only[RI]
            .cases h
          all_goals exact h
        .cases h
      all_goals exact h
    | value f=>
      simp only[tK,HF] at h|-;cases hsl:HE args.toList tys.toList with
      |false=>rw[hsl] at h;cases h
      |true=>rw[hsl] at h;exact aJV h hl
    |_=>exact h
  case makeFunc f first caps=>
    cases f with
    |func f=>exact h
    |_=>exact h
  case slice t x lo hi mx=>
    cases mx with
    |none=>exact h
    |some m=>exact h
  case next x b=>
    simp only[tK] at h|-;unfold RV at h|-;split at h
    · rename_i i k e1
      unfold WH at h;split at h
      · rename_i hg
        have:e.rds=[i]:=by
          simp only[aQE] at h;rw[←h]
        rw[hl i (by rw[this];simp),hg];exact h
      .cases h
    .cases h
  case lookup xt x ix ok=>
    simp only[tK] at h|-;unfold RS at h|-;split at h
    · rename_i el fl ar ls_ i kk e1 e2
      unfold WE at h|-;split at h
      · rename_i kt vt k a _
        split at h
        · rename_i hk
          rw[aQI hk];unfold RR at h;split at h
          · rename_i hg
            split at h
            · rename_i hkv
              split at h
              · rename_i hkey
                have:e.rds=[i]:=by
                  cases ok<;>(simp only[aQE] at h;rw[←h])
                rw[hl i (by rw[this];simp),hg];simp only[RR];rw[aSC hkv,aQI hkey];exact h
              .cases h
            .cases h
          .cases h
        .cases h
      .cases h
    .exact h
    .cases h
  case mapUpdate mt m x y=>
    simp only[tK] at h|-;unfold JQ at h|-;split at h
    · rename_i el fl ar ls_ i kk e1 e2
      unfold RT at h|-;split at h
      · rename_i kt k a _ u b _
        split at h
        · rename_i hk
          rw[aQI hk];unfold JP at h;split at h
          · rename_i hg
            split at h
            · rename_i hkv
              split at h
              · rename_i hkey
                have:e.rds=[i]:=by
                  simp only[aQE] at h;rw[←h]
                rw[hl i (by rw[this];simp),hg];simp only[JP];rw[aSC hkv,aQI hkey];exact h
              .cases h
            .cases h
          .cases h
        .cases h
      .cases h
    .cases h
  case insert mt m x y=>
    simp only[tK] at h|-;unfold JQ at h|-;split at h
    · rename_i el fl ar ls_ i kk e1 e2
      unfold RT at h|-;split at h
      · rename_i kt k a _ u b _
        split at h
        · rename_i hk
          rw[aQI hk];unfold JP at h;split at h
          · rename_i hg
            split at h
            · rename_i hkv
              split at h
              · rename_i hkey
                have:e.rds=[i]:=by
                  simp only[aQE] at h;rw[←h]
                rw[hl i (by rw[this];simp),hg];simp only[JP];rw[aSC hkv,aQI hkey];exact h
              .cases h
            .cases h
          .cases h
        .cases h
      .cases h
    .cases h
  all_goals exact h
end
theorem aJX {T:rW}{Γ:sP}{ops:Array Oper}{o:Oper}{s s':St}{e:q9}(h:JU T Γ ops.toList o s=some e) (ht: ∀t∈o.looksAt ops,lk s'.env t=lk s.env t) (hH: ∀i∈e.rds,pQ s'.H i=pQ s.H i) (hn:s'.nb=s.nb):JU T Γ ops.toList o s'=some e:=by
 have hop: ∀x∈o.op.operands,sZ s'.env x=sZ s.env x:=fun x hx=>by
  cases x with
  |tmp t=>exact ht t (by simp only[Oper.looksAt,aRF,List.mem_filterMap];exact .inl ⟨.tmp t,by simpa using hx,rfl⟩)
  |_=>rfl
 have hops:zS s'.env (rV o.op)=zS s.env (rV o.op):=by
  have hsub: ∀x∈rV o.op,x∈o.op.operands:=by
   have hp: ∀(l:List (Nat×Operand)) x,x∈rV.parts l->x∈l.map (·.2):=by
    intro l
    induction l with
    |nil=>intro x h;exact h
    |cons q l ih=>
     intro x h;obtain⟨i,y⟩:=q;simp only[rV.parts,aQV] at h;rcases h with rfl|h
     .simp
     .simp only[aRP,aQV];exact .inr (ih x h)
   have ho: ∀(y:Option Operand) x,x∈rV.opt y->y=some x:=by
    intro y x h;cases y with
    |none=>cases h
    |some y=>simp only[rV.opt,aQ2] at h;rw[h]
   intro x hx;cases hop:o.op
   case call c=>
    rw[hop] at hx;obtain⟨callee,args,tys⟩:=c;cases callee<;>simp_all [rV,Op.operands,Call.operands]
   case slice t y lo hi mx=>
    rw[hop] at hx;simp only[rV,aQV,vL] at hx;simp only[Op.operands,Array.mem_append];rcases hx with rfl|hx|hx
    .simp
    .have:=ho _ _ hx;subst this;simp
    .have:=ho _ _ hx;subst this;simp
   case build t ps=>rw[hop] at hx;simp only[Op.operands,aSr];exact hp _ _ hx
   case buildSlice t n ps=>rw[hop] at hx;simp only[Op.operands,aSr];exact hp _ _ hx
   all_goals (rw[hop] at hx;simp_all [rV,Op.operands])
  have: ∀(l:List Operand),(∀x∈l,x∈o.op.operands)->zS s'.env l=zS s.env l:=by
   intro l
   induction l with
   |nil=>intro _;rfl
   |cons x l ih=>intro h;simp only[zS,hop x (h x oY),ih (fun y hy=>h y (aQZ _ hy))]
  exact this _ hsub
 have hpl: ∀{e0:q9},tK T Γ o.type (fun x=>w9 (sZ s.env x)) s.nb s.H o.op=some e0->e0.rds=e.rds->tK T Γ o.type (fun x=>w9 (sZ s'.env x)) s'.nb s'.H o.op=some e0:=by
  intro e0 h1 h2;rw[aJP (ρ:=fun x=>w9 (sZ s.env x)) (ρ':=fun x=>w9 (sZ s'.env x)) o.op (fun x hx=>by simp only[hop x hx]),hn];exact aJW h1 (by rw[h2];exact hH)
 unfold JU at h|-;cases hg:o.guard with
 |none=>
  rw[hg] at h;simp only at h|-;by_cases hpk: ∃c x y,o.op= .pick c x y
  .obtain⟨c,x,y,hp⟩:=hpk;rw[hp] at h|-;simp only[JT] at h|-;rw[hop c (by rw[hp];simp [Op.operands]),hop x (by rw[hp];simp [Op.operands]),hop y (by rw[hp];simp [Op.operands])];exact h
  .have e1: ∀s,JT T Γ o s o.op=JR (x4 true (zS s.env (rV o.op))) (tK T Γ o.type (fun x=>w9 (sZ s.env x)) s.nb s.H o.op):=by
    intro s;cases ho:o.op<;>first|rfl|(exact absurd ⟨_,_,_,ho⟩ hpk)
   rw[e1] at h|-;rw[hops];cases hp0:tK T Γ o.type (fun x=>w9 (sZ s.env x)) s.nb s.H o.op with
   |none=>rw[hp0] at h;cases h
   |some e0=>
    rw[hp0] at h;simp only[JR,aQE] at h;rw[hpl hp0 (by rw[<-h])];simp only[JR,h]
 |some jb=>
  obtain⟨j,b⟩:=jb;rw[hg] at h;simp only at h|-;have hgu:DO s'.env b (xS ops.toList j)=DO s.env b (xS ops.toList j):=by
   rw[ND];cases hd:(ops.toList[j]?).bind (·.dst) with
   |none=>rfl
   |some t=>
    simp only[DO];rw[ht t (by
     simp only[Oper.looksAt,hg,aRF];right;have:(ops[j]?).bind (·.dst)=some t:=by simpa using hd
     rw[this];simp)]
  have hup:HG s'.env b (xS ops.toList j)=HG s.env b (xS ops.toList j):=by
   rw[ND];cases hd:(ops.toList[j]?).bind (·.dst) with
   |none=>rfl
   |some t=>
    simp only[HG];rw[ht t (by
     simp only[Oper.looksAt,hg,aRF];right;have:(ops[j]?).bind (·.dst)=some t:=by simpa using hd
     rw[this];simp)]
  rw[hgu,hup];cases hsk:Γ (RW j b) with
  |some sg=>rw[hsk] at h;exact h
  |none=>
  rw[hsk] at h;simp only[MO] at h|-;cases hG:DO s.env b (xS ops.toList j) with
  |none=>rw[hG] at h;cases h
  |some G=>
   rw[hG] at h;by_cases hpk: ∃c x y,o.op= .pick c x y
   .obtain⟨c,x,y,hp⟩:=hpk;rw[hp] at h|-;simp only[JS] at h|-;rw[hop c (by rw[hp];simp [Op.operands]),hop x (by rw[hp];simp [Op.operands]),hop y (by rw[hp];simp [Op.operands])];exact h
   have e1: ∀s,JS T Γ o s (some G) o.op=F9 G (x4 G (zS s.env (rV o.op))) (tK T Γ o.type (fun x=>w9 (sZ s.env x)) s.nb s.H o.op):=by
    intro s;cases ho:o.op<;>first|rfl|(exact absurd ⟨_,_,_,ho⟩ hpk)
   rw[e1] at h|-;rw[hops];cases hp0:tK T Γ o.type (fun x=>w9 (sZ s.env x)) s.nb s.H o.op with
   |none=>rw[hp0] at h;cases h
   |some e0=>
    rw[hp0] at h;have hrd:e0.rds=e.rds:=by
     unfold F9 at h;split at h
     .rename_i heq;simp only[aQE] at h heq;subst heq;rw[<-h]
     .rename_i heq;simp only[aQE] at h heq;subst heq;rw[<-h]
     .cases h
    rw[hpl hp0 hrd];exact h
theorem SZ {T:rW}{Γ:sP}{ops:Array Oper}{o:Oper}{s s':St}{e:q9}(h:wH T Γ ops.toList o s=some e) (ht: ∀t∈o.looksAt ops,lk s'.env t=lk s.env t) (hH: ∀i∈e.rds,pQ s'.H i=pQ s.H i) (hn:s'.nb=s.nb) (hp:s'.np=s.np):wH T Γ ops.toList o s'=some e:=by
 obtain⟨h1,h2⟩:=KA h;unfold wH at h|-;rw[h1] at h;rw[aJX h1 ht hH hn,hp];exact h
def t7 {α:Type}(p:Nat->Bool) (wr:Nat->Option α) (b:α):Nat->α
 |0=>b
 |k+1=>if p k=true then(wr k).getD (t7 p wr b k) else t7 p wr b k
theorem CK {α:Type}{p q:Nat->Bool}{wr:Nat->Option α}{b:α}: ∀{n:Nat},(∀j,j<n->wr j≠none->p j=q j)->t7 p wr b n=t7 q wr b n
 |0,_=>rfl
 |n+1,h=>by
  simp only[t7];have ih:=CK (p:=p) (q:=q) (wr:=wr) (b:=b) (n:=n) (fun j hj=>h j oW);cases hw:wr n with
  |none=>simp [ih]
  |some v=>rw[h n oW (by rw[hw];simp),ih]
theorem T0 {α:Type}{wr:Nat->Option α}{b:α}{i:Nat}: ∀{n:Nat},i<=n->t7 (fun j=>decide (j<i)) wr b n=t7 (fun _=>true) wr b i
 |0,h=>by
  have:i=0:=by omega
  subst this;rfl
 |n+1,h=>by
  by_cases hi:i=n+1
  .subst hi;exact CK (fun j hj _=>by simp [hj])
  .have: ¬n<i:=by omega
   simp only[t7];rw[aQO (by simp [this])];exact T0 oW
theorem KB {α:Type}{p q:Nat->Bool}{wr:Nat->Option α}{b:α}{i:Nat}(hi:p i=false) (hq: ∀j,q j=if j=i then true else p j): ∀{n:Nat},i<n->(∀j,i<j->j<n->p j=true->wr j=none\/wr i=none)->t7 q wr b n=(wr i).getD (t7 p wr b n)
 |0,h,_=>by omega
 |n+1,h,hd=>by
  simp only[t7];by_cases hn:n=i
  .subst hn;rw[aQI (by rw[hq];simp),aQO (by simp [hi])];rw[CK (p:=q) (q:=p) (fun j hj _=>by rw[hq,aQO oW])]
  .have ih:=KB (b:=b) hi hq (n:=n) oW (fun j h1 h2=>hd j h1 oW);rw[hq,aQO hn,ih];by_cases hp:p n=true
   .rw[aQI hp,aQI hp];rcases hd n oW oW hp with h1|h1
    .rw[h1];rfl
    .rw[h1];rfl
   .rw[aQO hp,aQO hp]
theorem Y7 {α:Type}{p:Nat->Bool}{wr:Nat->Option α}{b:α}: ∀(k:Nat),t7 p wr b (k+1)=t7 (fun j=>p (j+1)) (fun j=>wr (j+1)) (if p 0=true then(wr 0).getD b else b) k
 |0=>rfl
 |k+1=>by
  rw[t7,Y7 k];rfl
theorem Y8 {rds:pA}{i:Nat}: ∀{u:List (Nat×pM)},i∈pS (FD rds u)↔i∈pS u/\zT i rds=false
 |[]=>by simp [FD,pS]
 |(j,b)::u=>by
  simp only[FD];cases h:zT j rds with
  |true=>
   rw[aQI rfl,Y8 (u:=u)];simp only[pS,aQV];constructor
   .rintro⟨h1,h2⟩;exact⟨.inr h1,h2⟩
   .rintro⟨rfl|h1,h2⟩
    .rw[h] at h2;cases h2
    .exact⟨h1,h2⟩
  |false=>
   rw[aQO oY];simp only[pS,aQV,Y8 (u:=u)];constructor
   .rintro(rfl|⟨h1,h2⟩)
    .exact⟨.inl rfl,h⟩
    .exact⟨.inr h1,h2⟩
   .rintro⟨rfl|h1,h2⟩
    .exact .inl rfl
    .exact .inr ⟨h1,h2⟩
theorem FN {e:q9}{i:Nat}:i∈pS (uQ e)↔i∈pS e.upd/\zT i e.rds=false:=Y8
theorem aBe {i:Nat}: ∀{l:pA},zT i l=true->i∈l
 |[],h=>by cases h
 |j::l,h=>by
  simp only[zT] at h;split at h
  .rename_i e;subst e;exact aQ3
  .exact aQZ _ (aBe h)
theorem aBf {H U:List (Nat×pM)}{rds:pA}{i:Nat}(h:zT i rds=true): ∀{u:List (Nat×pM)},i∈pS u->(pQ U i=pQ H i)∈HH H U rds u
 |[],hi=>by cases hi
 |(j,b)::u,hi=>by
  simp only[HH];simp only[pS,aQV] at hi;rcases hi with rfl|hi
  .rw[aQI h];exact aQ3
  .have:=aBf (H:=H) (U:=U) h hi;split
   .exact aQZ _ this
   .exact this
theorem aJY {H:List (Nat×pM)}{e:q9}(hs: ∀p∈HH H e.upd e.rds e.upd,p) {i:Nat}(h1:i∈pS e.upd) (h2:i∉pS (uQ e)):pQ e.upd i=pQ H i/\i∈e.rds:=by
 have h:zT i e.rds=true:=by
  cases h3:zT i e.rds with
  |true=>rfl
  |false=>exact absurd (FN.2 ⟨h1,h3⟩) h2
 exact⟨hs _ (aBf h h1),aBe h⟩
def vV (os:List Oper) (es:List q9) (t j:Nat):Option pN:=
 match os[j]?,es[j]? with
 |some o,some e=>if o.dst=some t then some e.slot else none
 |_,_=>none
def uJ (es:List q9) (id j:Nat):Option (Option pM):=
 match es[j]? with
 |some e=>if id∈pS (uQ e) then some (pQ e.upd id) else none
 |none=>none
theorem HQ {id:Nat}{H:rH}: ∀{u:List (Nat×pM)},pQ (qH u H) id=if id∈pS u then pQ u id else pQ H id
 |[]=>by simp [qH,pS]
 |(k,b)::u=>by
  simp only[qH,pQ,pS,aQV];by_cases h:k=id
  .subst h;simp
  .rw[aQO h,aQO h,HQ (u:=u)];have:(id=k\/id∈pS u)↔id∈pS u:=⟨fun h'=>h'.resolve_left (Ne.symm h),.inr⟩;simp only[this]
theorem Y9 {d:Option Tmp}{s:pN}{env:List (Nat×pN)}{t:Nat}:lk (sL d s env) t=if d=some t then s else lk env t:=by
 cases d with
 |none=>simp [sL]
 |some d=>simp only[sL,lk,aQE]
structure YA (T:rW) (Γ:sP) (ops:List Oper) (os:List Oper) (es:List q9) (s:St) (y:tZ) (k:Nat) (o:Oper) (e:q9) (sk:St):Prop where
 ev:wH T Γ ops o sk=some e
 nb:sk.nb=s.nb+32*k
 dst:FB s.N o.dst=true
 ids:FC (s.nb+32*k+32) e.upd=true
 np:sk.np=s.np
 side: ∀p∈e.side,p∈y.side
 env: ∀t,lk sk.env t=t7 (fun _=>true) (vV os es t) (lk s.env t) k
 heap: ∀id,pQ sk.H id=t7 (fun _=>true) (uJ es id) (pQ s.H id) k
 same: ∀id,id∈pS e.upd->id∉pS (uQ e)->pQ e.upd id=pQ sk.H id/\id∈e.rds
structure T1 (T:rW) (Γ:sP) (ops:List Oper) (os:List Oper) (es:List q9) (s:St) (y:tZ):Prop where
 len:es.length=os.length
 nb:y.s.nb=s.nb+32*os.length
 step: ∀k o e,os[k]? =some o->es[k]? =some e->∃sk,YA T Γ ops os es s y k o e sk
 env: ∀t,lk y.s.env t=t7 (fun _=>true) (vV os es t) (lk s.env t) os.length
 heap: ∀id,pQ y.s.H id=t7 (fun _=>true) (uJ es id) (pQ s.H id) os.length
theorem NH {T:rW}{Γ:sP}{ops:List Oper}: ∀{l:List Oper}{x y:tZ},tC T Γ ops l (some x)=some y->(∀p∈y.side,p)->∃es:List q9,y.es=es.reverse++x.es/\T1 T Γ ops l es x.s y
 |[],x,y,h,_=>by
  simp only[tC,aQE] at h;subst h;exact⟨[],rfl,rfl,rfl,fun k o e h=>by simp at h,fun _=>rfl,fun _=>rfl⟩
 |o::l,x,y,h,hsy=>by
  obtain⟨e,h1,h2,h3,h4⟩:=Y0 h;obtain⟨es,h5,h6⟩:=NH h4 hsy;have hsame: ∀{i:Nat},i∈pS e.upd->i∉pS (uQ e)->pQ e.upd i=pQ x.s.H i/\i∈e.rds:=fun h1 h2=>aJY (fun p hp=>hsy p ((BI h4).1 p (vL.2 (.inr (vL.2 (.inl hp)))))) h1 h2;have envs: ∀t k,t7 (fun _=>true) (vV (o::l) (e::es) t) (lk x.s.env t) (k+1)=t7 (fun _=>true) (vV l es t) (lk (sL o.dst e.slot x.s.env) t) k:=fun t k=>by
   rw[Y7,aQI rfl,Y9];have:(vV (o::l) (e::es) t 0).getD (lk x.s.env t)=if o.dst=some t then e.slot else lk x.s.env t:=by
    simp only[vV,aQ8];split<;>rfl
   rw[this];rfl
  have heaps: ∀id k,t7 (fun _=>true) (uJ (e::es) id) (pQ x.s.H id) (k+1)=t7 (fun _=>true) (uJ es id) (pQ (qH e.upd x.s.H) id) k:=fun id k=>by
   rw[Y7,aQI rfl,HQ];have:(uJ (e::es) id 0).getD (pQ x.s.H id)=if id∈pS e.upd then pQ e.upd id else pQ x.s.H id:=by
    simp only[uJ,aQ8];by_cases h7:id∈pS (uQ e)
    .rw[aQI h7,aQI (FN.1 h7).1];rfl
    .rw[aQO h7];by_cases h8:id∈pS e.upd
     .rw[aQI h8,(hsame h8 h7).1];rfl
     .rw[aQO h8];rfl
   rw[this];rfl
  refine⟨e::es,by rw[h5];simp,by simp [h6.len],?_,?_,fun t=> ?_,fun id=> ?_⟩
  .have:=h6.nb;simp only at this;rw[this];simp only[aQJ];omega
  .intro k o' e' ho he;cases k with
   |zero=>
    simp only[aQ8,aQE] at ho he;subst ho;subst he;exact⟨x.s,h1,rfl,h2,h3,rfl,fun p hp=>(BI h4).1 p (vL.2 (.inr (vL.2 (.inr hp)))),fun _=>rfl,fun _=>rfl,fun id=>hsame⟩
   |succ k=>
    simp only[aRi] at ho he;obtain⟨sk,q⟩:=h6.step k o' e' ho he;refine⟨sk,q.ev,by rw[q.nb];simp only;omega,q.dst,?_,q.np,q.side,fun t=>by rw[q.env t,envs],fun id=>by rw[q.heap id,heaps],q.same⟩;have:=q.ids;simp only at this;rw[show x.s.nb+32*(k+1)+32=x.s.nb+32+32*k+32 by omega];exact this
  .rw[aQJ,envs];exact h6.env t
  .rw[aQJ,heaps];exact h6.heap id
theorem aBg {ops:Array Oper}{bs:pA}{nb i:Nat}{o:Oper}{e:q9}: ∀{ps:List Oper}{fs:List q9}{j:Nat},RY ops bs nb i o e ps fs j=true->∀k p f,ps[k]? =some p->fs[k]? =some f->
  (bs.getD (j+k) 0).testBit i=true\/(o.apart ops p=true/\xT e f=true/\BA (nb+32*i) f.upd=true)
 |p::ps,f::fs,j,h,k,p',f',hp,hf=>by
  simp only[RY,aQU,aRV] at h;cases k with
  |zero=>
   simp only[aQ8,aQE] at hp hf;subst hp;subst hf;exact h.1.imp id (fun h=>⟨h.1.1,h.1.2,h.2⟩)
  |succ k=>
   simp only[aRi] at hp hf;have:=aBg h.2 k p' f' hp hf;rw[show j+(k+1)=j+1+k by omega];exact this
 |[],_,_,_,_,_,_,hp,_=>by simp at hp
 |_::_,[],_,_,_,_,_,_,hf=>by simp at hf
theorem YB {ops:Array Oper}{bs:pA}{nb:Nat}: ∀{os:List Oper}{es:List q9}{m:Nat},RZ ops bs nb os es m=true->∀i j o e p f,i<j->os[i]? =some o->es[i]? =some e->os[j]? =some p->es[j]? =some f->
  (bs.getD (m+j) 0).testBit (m+i)=true\/(o.apart ops p=true/\xT e f=true/\BA (nb+32*(m+i)) f.upd=true)
 |o'::os,e'::es,m,h,i,j,o,e,p,f,hij,ho,he,hp,hf=>by
  simp only[RZ,aQU] at h;obtain⟨j,rfl⟩: ∃k,j=k+1:=⟨j-1,oW⟩;simp only[aRi] at hp hf;cases i with
  |zero=>
   simp only[aQ8,aQE] at ho he;subst ho;subst he;have:=aBg h.1 j p f hp hf;rw[show m+(j+1)=m+1+j by omega];exact this
  |succ i=>
   simp only[aRi] at ho he;have:=YB h.2 i j o e p f oW ho he hp hf;rw[show m+(j+1)=m+1+j by omega,show m+(i+1)=m+1+i by omega];exact this
 |[],_,_,_,_,_,_,_,_,_,_,ho,_,_,_=>by simp at ho
 |_::_,[],_,_,_,_,_,_,_,_,_,_,he,_,_=>by simp at he
theorem YC: ∀{os:List Oper}{m:Nat},MQ os m=true->∀i o,os[i]? =some o->∀e∈o.after,Region.binds .any e=true->e.on<m+i
 |o'::os,m,h,i,o,ho,e,he,hb=>by
  simp only[MQ,aQU] at h;cases i with
  |zero=>
   simp only[aQ8,aQE] at ho;subst ho;have:=aRz.1 h.1 e (by simpa using he);simpa[hb] using this
  |succ i=>
   simp only[aRi] at ho;have:=YC h.2 i o ho e he hb;omega
 |[],_,_,_,_,ho,_,_,_=>by simp at ho
theorem T2 {l:pA}: ∀{u:List (Nat×pM)},MP u l=false->∀i,i∈pS u->i∉l
 |(k,b)::u,h,i,hi=>by
  simp only[MP,aR5] at h;simp only[pS,aQV] at hi;rcases hi with rfl|hi
  .simpa using h.1
  .exact T2 h.2 i hi
theorem DU {a b:q9}(h:xT a b=true):(∀i∈pS (uQ a),i∉b.rds/\i∉pS b.upd)/\(∀i∈pS (uQ b),i∉a.rds):=by
 simp only[xT,aQU,aRj] at h;exact⟨fun i hi=>⟨fun h1=>T2 h.1 i hi (vL.2 (.inl h1)),fun h1=>T2 h.1 i hi (vL.2 (.inr h1))⟩,fun i hi=>T2 h.2 i hi⟩
theorem YD {lo:Nat}: ∀{u:List (Nat×pM)},BA lo u=true->∀i∈pS u,i<lo\/lo+32<=i
 |(k,b)::u,h,i,hi=>by
  simp only[BA,aQU,aRV,aQY] at h;simp only[pS,aQV] at hi;rcases hi with rfl|hi
  .exact h.1
  .exact YD h.2 i hi
def T3 (os:List Oper) (p:Nat->Bool):Prop:= ∀j o,os[j]? =some o->p j=true->∀e∈o.after,Region.binds .any e=true->p e.on=true
theorem aBh {p:Nat->Bool}{acc:Array Nat}(hacc: ∀i j,(acc.getD i 0).testBit j=true->p i=true->p j=true) {i:Nat}: ∀{es:List Edge}{s:Nat},(s.testBit i=true->p i=true)->(∀e∈es,Region.binds .any e=true->p e.on=true)->
  (es.foldl (fun s e=>if Region.binds .any e then s|||2^e.on|||acc.getD e.on 0 else s) s).testBit i=true->p i=true
 |[],s,hs,_,h=>hs h
 |e::es,s,hs,he,h=>by
  simp only[List.foldl_cons] at h;refine aBh hacc (es:=es) (fun h1=> ?_) (fun e' h'=>he e' (aQZ _ h')) h;split at h1
  .rename_i hb;simp only[Nat.testBit_or,aRV,Nat.testBit_two_pow,aQY] at h1;rcases h1 with(h1|h1) |h1
   .exact hs h1
   .rw[<-h1];exact he e oY hb
   .exact hacc _ _ h1 (he e oY hb)
  .exact hs h1
theorem aBi {p:Nat->Bool}: ∀{os:List Oper}{acc:Array Nat},(∀i j,(acc.getD i 0).testBit j=true->p i=true->p j=true)->(∀j o,os[j]? =some o->p (acc.size+j)=true->∀e∈o.after,Region.binds .any e=true->p e.on=true)->
  ∀i j,((os.foldl (fun acc o=>acc.push (o.after.foldl (fun s e=>if Region.binds .any e then s|||2^e.on|||acc.getD e.on 0 else s) 0)) acc).getD i 0).testBit j=true->p i=true->p j=true
 |[],acc,hacc,_,i,j,h,hp=>hacc i j h hp
 |o::os,acc,hacc,hos,i,j,h,hp=>by
  simp only[List.foldl_cons] at h;refine aBi (os:=os) (fun i j h hp=> ?_) (fun k o' ho hk=> ?_) i j h hp
  .rw[aQ7,Array.getElem?_push] at h;split at h
   .rename_i hi;simp only[aSD] at h;rw[<-aSi] at h;refine aBh hacc (es:=o.after.toList) (s:=0) (fun h=>by simp at h) (fun e he hb=>hos 0 o rfl (by rw[hi] at hp;exact hp) e (by simpa using he) hb) h
   .rw[<-aQ7] at h;exact hacc i j h hp
  .refine hos (k+1) o' ho ?_;rw[Array.size_push] at hk;rw[show acc.size+(k+1)=acc.size+1+k by omega];exact hk
theorem T4 {ops:Array Oper}{p:Nat->Bool}(hp:T3 ops.toList p) {i j:Nat}(h:((Region.before ops).toList.getD i 0).testBit j=true) (hi:p i=true):p j=true:=by
 refine aBi (os:=ops.toList) (acc:= #[]) (p:=p) (fun i j h=>by simp at h) (fun j o ho hj=>hp j o ho (by simpa using hj)) i j ?_ hi;unfold Region.before at h;rw[<-aSi] at h;rw[aQ7,<-aRx,<-aQ9];exact h
def yK (l:Array Bool):Nat->Nat
 |0=>0
 |k+1=>yK l k+if l.getD k false=true then 0 else 1
theorem aBj {l l':Array Bool}: ∀{n:Nat},(∀j,j<n->l'.getD j false=l.getD j false)->yK l' n=yK l n
 |0,_=>rfl
 |n+1,h=>by simp only[yK];rw[aBj (fun j hj=>h j oW),h n oW]
theorem YE {l:Array Bool}: ∀{n:Nat},yK l n=0->∀j,j<n->l.getD j false=true
 |n+1,h,j,hj=>by
  simp only[yK] at h;by_cases hn:l.getD n false=true
  .by_cases hjn:j=n
   .subst hjn;exact hn
   .exact YE (n:=n) oW j oW
  .rw[aQO hn] at h;omega
theorem yM {l:Array Bool}{i j:Nat}(hi:i<l.size):(l.setIfInBounds i true).getD j false=if j=i then true else l.getD j false:=by
 by_cases h:j=i
 .subst h;rw[aQI rfl,aQ7,Array.getElem?_setIfInBounds_self_of_lt hi];rfl
 .rw[aQO h,aQ7,aRT (Ne.symm h),<-aQ7]
theorem YF {l:Array Bool}{i:Nat}(hi:i<l.size) (hf:l.getD i false=false): ∀{n:Nat},i<n->yK (l.setIfInBounds i true) n+1=yK l n
 |n+1,h=>by
  simp only[yK];by_cases hn:n=i
  .subst hn;rw[yM hi,aQI rfl,aQI rfl,hf,aBj (l:=l) (fun j hj=>by rw[yM hi,aQO oW])];simp
  .rw[yM hi,aQO hn];have:=YF hi hf (n:=n) oW;omega
theorem YG {p:Nat->Bool}: ∀{n:Nat},(∃j,j<n/\p j=false)->∃j,j<n/\p j=false/\∀k,k<j->p k=true
 |0,⟨j,h,_⟩=>by omega
 |n+1,⟨j,h,hj⟩=>by
  by_cases hs: ∃j,j<n/\p j=false
  .obtain⟨k,h1,h2,h3⟩:=YG hs;exact⟨k,oW,h2,h3⟩
  .refine⟨j,h,hj,fun k hk=> ?_⟩;cases hp:p k with
   |true=>rfl
   |false=>exact absurd ⟨k,oW,hp⟩ hs
theorem rR.ext {g:Gh}{w:pB}{H H':rH}(h:rR g w H) (e: ∀i,pQ H' i=pQ H i):rR g w H':=
 ⟨fun i b hb=>h.blk i b (by rw[<-e];exact hb),fun i j bi bj b o hij h1 h2=>h.dis i j bi bj b o hij (by rw[<-e];exact h1) (by rw[<-e];exact h2),h.sl,h.tab.1,fun i b bb oo hb ho=>h.tab.2 i b bb oo (by rw[<-e];exact hb) ho⟩
theorem sJ.ext {A:Nat->Nat->Prop}{L:List pM}{g0 g:Gh}{w0 w:pB}{H H':rH}(h:sJ A L g0 w0 g w H) (e: ∀i,pQ H' i=pQ H i):sJ A L g0 w0 g w H':=
 ⟨h.shut,h.fr,fun i blk b o hb=>h.perm i blk b o (by rw[<-e];exact hb),h.J,h.live,fun i u y us hi hb=>h.ty i u y us hi (by rw[<-e];exact hb),h.cur⟩
theorem YH (g:Gh) (w:pB) (d:Nat):Le g w g {w with drawn:=d}:=⟨fun _ _ h=>h,fun _ _ _=>rfl,fun _ _ h=>h,fun _ _ _ h=>h⟩
theorem rR.drawn {g:Gh}{w:pB}{H:rH}(h:rR g w H) (d:Nat):rR g {w with drawn:=d} H:=
 ⟨fun i b hb=>JX (h.blk i b hb) (YH g w d) rfl rfl (fun _ _ _=>⟨rfl,rfl⟩) (fun _ _=>rfl) (fun _ _ _ h=>h) (fun _ _ _ _ h=>h),h.dis,h.sl,GX h.tab.1 (aQ4 _) (fun _ _=>rfl),h.tab.2⟩
theorem sJ.drawn {A:Nat->Nat->Prop}{L:List pM}{g0 g:Gh}{w0 w:pB}{H:rH}(h:sJ A L g0 w0 g w H) (d:Nat):sJ A L g0 w0 g {w with drawn:=d} H:=
 ⟨h.shut,⟨h.fr.os,h.fr.tape,h.fr.output,h.fr.size,h.fr.blk,h.fr.cell,h.fr.new,h.fr.shape⟩,h.perm,h.J,h.live,h.ty,h.cur⟩
section
variable {B:Nat}{P:Program}{T:rW}{Γ:sP}(hT:vK P T) (hΓ:AL P Γ) {A:Nat->Nat->Prop}{L:List pM}{g0:Gh}{w0:pB}{Q:Exit->Act->pB->Prop}
structure T5 (B:Nat) (A:Nat->Nat->Prop) (L:List pM) (g0:Gh) (w0:pB) (ops:Array Oper) (es:List q9) (s:St) (listed:Array Bool) (g:Gh) (w:pB) (a:Act) (env:List (Nat×pN)) (H:rH):Prop where
 size:listed.size=ops.size
 closed:T3 ops.toList (fun j=>listed.getD j false)
 eok:xZ g w env a.tmps
 look: ∀t,lk env t=t7 (fun j=>listed.getD j false) (vV ops.toList es t) (lk s.env t) ops.size
 heap:rR g w H
 get: ∀id,pQ H id=t7 (fun j=>listed.getD j false) (uJ es id) (pQ s.H id) ops.size
 tmps:a.tmps.size=s.N
 def_:wC B w a.defers
 good:sJ A L g0 w0 g w H
 len:L.length=s.np
 free: ∀j,j<ops.size->listed.getD j false=false->∀id,s.nb+32*j<=id->id<s.nb+32*j+32->g.J id=none/\∀n,g.cur id n=none
 top: ∀id,s.nb+32*ops.size<=id->g.J id=none/\∀n,g.cur id n=none
include hT hΓ
theorem aJZ {ro:p9}{ops:Array Oper}{es:List q9}{s:St}{y:tZ}(run:T1 T Γ ops.toList ops.toList es s y) (hs: ∀p∈y.side,p) (hchk:CG ops s.nb es=true)
  (hQ: ∀g a w env H,xZ g w env a.tmps->(∀t,lk env t=lk y.s.env t)->rR g w H->(∀id,pQ H id=pQ y.s.H id)->a.tmps.size=s.N->wC B w a.defers->sJ A L g0 w0 g w H->(∀id,s.nb+32*ops.size<=id->g.J id=none/\∀n,g.cur id n=none)->Q .normal a w):
  ∀(fuel:Nat) (listed:Array Bool) (g:Gh) (w:pB) (a:Act) (env:List (Nat×pN)) (H:rH),yK listed ops.size<=fuel->T5 B A L g0 w0 ops es s listed g w a env H->wpAnyIn (zY ro) 0 P .any ops Q fuel listed a w:=by
 simp only[CG,aQU] at hchk;obtain⟨haf,hfr⟩:=hchk;have hsz:ops.toList.length=ops.size:=aRb;have done: ∀(listed:Array Bool) (g:Gh) (w:pB) (a:Act) (env:List (Nat×pN)) (H:rH),T5 B A L g0 w0 ops es s listed g w a env H->(∀j,j<ops.size->listed.getD j false=true)->Q .normal a w:=by
  intro listed g w a env H m hall;refine hQ g a w env H m.eok (fun t=> ?_) m.heap (fun id=> ?_) m.tmps m.def_ m.good m.top
  .rw[m.look t,run.env t,hsz];exact CK (fun j hj _=>hall j hj)
  .rw[m.get id,run.heap id,hsz];exact CK (fun j hj _=>hall j hj)
 have stuck: ∀(listed:Array Bool),listed.size=ops.size->Region.ready .any ops listed=[]->∀j,j<ops.size->listed.getD j false=true:=by
  intro listed hls hr j hj;cases hp:listed.getD j false with
  |true=>rfl
  |false=>
   obtain⟨k,h1,h2,h3⟩:=YG (p:=fun j=>listed.getD j false) ⟨j,hj,hp⟩;have:k∈Region.ready .any ops listed:=by
    rw[mem_ready];refine⟨?_,ops[k],by simp [h1],fun e he hb=> ?_⟩
    .have h2:listed.getD k false=false:=h2;rw[aQ7] at h2|-;rw[aRG oW] at h2|-;exact h2
    .have:=YC haf k ops[k] (by simp [h1]) e he hb;exact h3 e.on oW
   rw[hr] at this;cases this
 intro fuel
 induction fuel with
 |zero=>
  intro listed g w a env H hu m;have hall:=YE (l:=listed) (n:=ops.size) oW;refine⟨?_,done listed g w a env H m hall⟩;cases hr:Region.ready .any ops listed with
  |nil=>rfl
  |cons i r=>
   have:i∈Region.ready .any ops listed:=by rw[hr];simp
   obtain⟨h0,o,ho,_⟩:=mem_ready.1 this;have hi:i<ops.size:=(aQ1.1 ho).1;have:=hall i hi;rw[aQ7] at this h0;rw[aRG (by rw[m.size];exact hi)] at this h0;simp at this h0;rw[this] at h0;cases h0
 |succ fuel ih=>
  intro listed g w a env H hu m;refine⟨fun hr=>done listed g w a env H m (stuck listed m.size hr),fun i hi=> ?_⟩;obtain⟨h0,o,ho,hall⟩:=mem_ready.1 hi;have hin:i<ops.size:=(aQ1.1 ho).1;have hil:i<listed.size:=by rw[m.size];exact hin
  have hpi:listed.getD i false=false:=by
   rw[aQ7] at h0|-;rw[aRG hil] at h0|-;exact h0
  have hoL:ops.toList[i]? =some o:=by simpa using ho
  obtain⟨e,he⟩: ∃e,es[i]? =some e:=⟨es[i]'(by rw[run.len,hsz];exact hin),by simp⟩;obtain⟨sk,st⟩:=run.step i o e hoL he;have hcl':T3 ops.toList (fun j=>(listed.setIfInBounds i true).getD j false):=by
   intro j o' ho' hj ed hed hb;simp only[yM hil] at hj|-;by_cases hji:j=i
   .subst hji;rw[hoL] at ho';obtain rfl:=aQH ho';have:=hall ed hed hb;split
    .rfl
    .exact this
   .rw[aQO hji] at hj;have:=m.closed j o' ho' hj ed hed hb;split
    .rfl
    .exact this
  have hbef: ∀j,((Region.before ops).toList.getD i 0).testBit j=true->j≠i->listed.getD j false=true:=by
   intro j hj hne;have:=T4 hcl' hj (by simp only[yM hil];simp);simp only[yM hil,aQO hne] at this;exact this
  have haft: ∀j,((Region.before ops).toList.getD j 0).testBit i=true->listed.getD j false=true->False:=by
   intro j hj hl;have:=T4 m.closed hj hl;rw[hpi] at this;cases this
  have pairLt: ∀j p f,j<i->ops.toList[j]? =some p->es[j]? =some f->listed.getD j false=true\/(p.apart ops o=true/\xT f e=true/\BA (s.nb+32*j) e.upd=true):=by
   intro j p f hji hp hf;rcases YB hfr j i p f o e hji hp hf hoL he with h1|h1
   .rw[aRf,aRf] at h1;exact .inl (hbef j h1 oW)
   .rw[aRf] at h1;exact .inr h1
  have pairGt: ∀j p f,i<j->ops.toList[j]? =some p->es[j]? =some f->listed.getD j false=true->o.apart ops p=true/\xT e f=true:=by
   intro j p f hij hp hf hl;rcases YB hfr i j o e p f hij hoL he hp hf with h1|h1
   .rw[aRf,aRf] at h1;exact(haft j h1 hl).elim
   .exact⟨h1.1,h1.2.1⟩
  have same: ∀{α:Type}(wr:Nat->Option α) (b:α),(∀j p f,j<i->ops.toList[j]? =some p->es[j]? =some f->wr j≠none->p.apart ops o=true->xT f e=true->False)->
    (∀j p f,i<j->ops.toList[j]? =some p->es[j]? =some f->wr j≠none->o.apart ops p=true->xT e f=true->False)->(∀j,wr j≠none->∃f,es[j]? =some f)->
    t7 (fun j=>listed.getD j false) wr b ops.size=t7 (fun _=>true) wr b i:=by
   intro α wr b hlt hgt hex;rw[<-T0 (n:=ops.size) oW];refine CK (fun j hj hw=> ?_);obtain⟨f,hf⟩:=hex j hw;have hpj:ops.toList[j]? =some ops[j]:=by simp [hj]
   rcases Nat.lt_trichotomy j i with h1|h1|h1
   .rw[aRD h1];rcases pairLt j _ f h1 hpj hf with h2|h2
    .exact h2
    .exact(hlt j _ f h1 hpj hf hw h2.1 h2.2.1).elim
   .subst h1;simp [hpi]
   .have: ¬j<i:=by omega
    rw[decide_eq_false this];cases hl:listed.getD j false with
    |false=>rfl
    |true=>
     obtain⟨h2,h3⟩:=pairGt j _ f h1 hpj hf hl;exact(hgt j _ f h1 hpj hf hw h2 h3).elim
  have exS: ∀t j,vV ops.toList es t j≠none->∃f,es[j]? =some f:=by
   intro t j h;unfold vV at h;cases hf:es[j]? with
   |none=>rw[hf] at h;exact absurd (by split<;>first|rfl|(rename_i h1;cases h1)) h
   |some f=>exact⟨f,rfl⟩
  have exH: ∀t j,uJ es t j≠none->∃f,es[j]? =some f:=by
   intro t j h;unfold uJ at h;cases hf:es[j]? with
   |none=>rw[hf] at h;exact absurd rfl h
   |some f=>exact⟨f,rfl⟩
  have dS: ∀t j p f,ops.toList[j]? =some p->es[j]? =some f->vV ops.toList es t j≠none->p.dst=some t:=by
   intro t j p f hp hf h;unfold vV at h;rw[hp,hf] at h;simp only at h;split at h
   .assumption
   .exact absurd rfl h
  have dH: ∀id j f,es[j]? =some f->uJ es id j≠none->id∈pS (uQ f):=by
   intro id j f hf h;unfold uJ at h;rw[hf] at h;simp only at h;split at h
   .assumption
   .exact absurd rfl h
  have hrds: ∀id∈e.rds,pQ H id=pQ sk.H id:=fun id hid=>by
   rw[m.get id,st.heap id];refine same _ _ (fun j p f _ hp hf hw _ ha=> ?_) (fun j p f _ hp hf hw _ ha=> ?_) (exH id)
   .exact((DU ha).1 id (dH id j f hf hw)).1 hid
   .exact(DU ha).2 id (dH id j f hf hw) hid
  have hev:wH T Γ ops.toList o ⟨env,H,s.nb+32*i,s.N,s.np⟩=some e:=by
   refine SZ st.ev (fun t ht=> ?_) (fun id hid=> ?_) st.nb.symm st.np.symm
   .show lk env t=_;rw[m.look t,st.env t];refine same _ _ (fun j p f _ hp hf hw ha _=> ?_) (fun j p f _ hp hf hw ha _=> ?_) (exS t)
    .exact(Oper.apart_spec ha).1 t (dS t j p f hp hf hw) ht
    .exact(Oper.apart_spec ha).2.2 t (dS t j p f hp hf hw) ht
   .exact hrds id hid
  have hfresh:wS g (s.nb+32*i) e:=fun id hid hle=>m.free i hin hpi id hle (FM st.ids hid);have key:=XU hT hΓ (ops:=ops.toList) (o:=o) (a:=a) (s:=⟨env,H,s.nb+32*i,s.N,s.np⟩) (K:=wpAnyIn (zY ro) 0 P .any ops Q fuel (listed.setIfInBounds i true)) (Q:=Q) m.eok m.heap hev (fun p hp=>hs p (st.side p hp)) hfresh (fun g' w' v k=>by
   refine ih (listed.setIfInBounds i true) g' w' (a.put o.dst v) (sL o.dst e.slot env) (qH e.upd H) ?_ ⟨by rw[Array.size_setIfInBounds];exact m.size,hcl',SY m.eok k.le k.slot m.tmps st.dst,fun t=> ?_,k.heap,fun id=> ?_,(XY _ _ _).trans m.tmps,by rw[XZ];exact m.def_.eff m.heap k,m.good.eff k (m.len▸(KA hev).2),m.len,fun j hj hjp id h1 h2=> ?_,fun id hid=> ?_⟩
   .have:=YF hil hpi hin;omega
   .rw[Y9,KB (p:=fun j=>listed.getD j false) (i:=i) hpi (fun j=>by simp only[yM hil]) hin (fun j hij hj hl=> ?_),<-m.look t]
    .unfold vV;rw[hoL,he];simp only;split<;>rfl
    .have hpj:ops.toList[j]? =some ops[j]:=by simp [hj]
     obtain⟨f,hf⟩: ∃f,es[j]? =some f:=⟨es[j]'(by rw[run.len,hsz];exact hj),by simp⟩;obtain⟨h3,_⟩:=pairGt j _ f hij hpj hf hl;by_cases hw:vV ops.toList es t j=none
     .exact .inl hw
     .right;have hd:=dS t j _ f hpj hf hw;by_cases hwi:vV ops.toList es t i=none
      .exact hwi
      .have hdi:=dS t i _ e hoL he hwi;exact absurd hd ((Oper.apart_spec h3).2.1 t hdi)
   .rw[HQ,KB (p:=fun j=>listed.getD j false) (i:=i) hpi (fun j=>by simp only[yM hil]) hin (fun j hij hj hl=> ?_),<-m.get id]
    .unfold uJ;rw[he];simp only;by_cases h7:id∈pS (uQ e)
     .rw[aQI h7,aQI (FN.1 h7).1];rfl
     .rw[aQO h7];by_cases h8:id∈pS e.upd
      .obtain⟨q1,q2⟩:=st.same id h8 h7;rw[aQI h8,q1,<-hrds id q2];rfl
      .rw[aQO h8];rfl
    .have hpj:ops.toList[j]? =some ops[j]:=by simp [hj]
     obtain⟨f,hf⟩: ∃f,es[j]? =some f:=⟨es[j]'(by rw[run.len,hsz];exact hj),by simp⟩;obtain⟨_,h3⟩:=pairGt j _ f hij hpj hf hl;by_cases hw:uJ es id j=none
     .exact .inl hw
     .right;have hd:=dH id j f hf hw;by_cases hwi:uJ es id i=none
      .exact hwi
      .have hdi:=dH id i e he hwi;exact absurd (FN.1 hd).1 ((DU h3).1 id hdi).2
   .rw[yM hil] at hjp;have hji:j≠i:=fun h=>by rw[aQI h] at hjp;cases hjp
    rw[aQO hji] at hjp;have hnot:id∉pS e.upd:=by
     intro hm;have hlt:=FM st.ids hm;rcases Nat.lt_or_gt_of_ne hji with h3|h3
     .obtain⟨f,hf⟩: ∃f,es[j]? =some f:=⟨es[j]'(by rw[run.len,hsz];exact hj),by simp⟩;rcases pairLt j ops[j] f h3 (by simp [hj]) hf with h4|h4
      .rw[hjp] at h4;cases h4
      .have:=YD h4.2.2 id hm;omega
     .omega
    have hg:=k.gho id hnot;have hb:=m.free j hj hjp id h1 h2;exact⟨hg.1.trans hb.1,fun n=>by rw[hg.2];exact hb.2 n⟩
   .have hnot:id∉pS e.upd:=fun hm=>by have:=FM st.ids hm;omega
    have hg:=k.gho id hnot;have hb:=m.top id hid;exact⟨hg.1.trans hb.1,fun n=>by rw[hg.2];exact hb.2 n⟩)
  unfold wpOpIn;rw[ho];simp only[aRQ] at key|-;split at key
  .rename_i hw;rw[aQI hw];exact Y3 (Y2 hev) key
  .rename_i hw;rw[aQO hw];exact⟨fun _ _=>trivial,key⟩
theorem aJ0 {ro:p9}(hm:P.follows .mixedOrders=true) {id:Nat}{ops:Array Oper}{s:St}{y:tZ}{a:Act}{w:pB}{g:Gh}(h:tC T Γ ops.toList ops.toList (some ⟨s,[],[]⟩)=some y) (hchk:CG ops s.nb y.es.reverse=true) (hs: ∀p∈y.side,p) (hr:tP B g w s a) (hg:sJ A L g0 w0 g w s.H) (hn:L.length=s.np)
  (hQ: ∀g' a' w',tP B g' w' y.s a'->sJ A L g0 w0 g' w' y.s.H->Q .normal a' w'):(Code.region id ops true).wpIn (zY ro) 0 P Q a w:=by
 obtain⟨es,h1,run⟩:=NH h hs;have hes:y.es.reverse=es:=by rw[h1];simp
 simp only at run;rw[hes] at hchk;have hsd:=BI h;have hrep: ∀j,(Array.replicate ops.size false).getD j false=false:=by
  intro j;rw[aQ7,Array.getElem?_replicate];split<;>rfl
 have none: ∀{α:Type}(wr:Nat->Option α) (b:α) n,t7 (fun j=>(Array.replicate ops.size false).getD j false) wr b n=b:=by
  intro α wr b n
  induction n with
  |zero=>rfl
  |succ n ih=>simp only[t7];rw[aQO (by rw[hrep];simp)];exact ih
 have hsz:ops.toList.length=ops.size:=aRb;refine wpIn_region_any hm (aJZ hT hΓ run hs hchk (fun g' a' w' env H he hl hh hgt hz hd hgd htop=> ?_) _ _ g _ a s.env s.H ?_ ⟨by simp,fun j o ho hj=> ?_,fun t=>yW (YH g w _) (hr.env t),fun t=> ?_,hr.heap.drawn _,fun id=> ?_,hr.size,hr.def_.same (fun _ h=>h),hg.drawn _,hn,fun j _ _ id h1 _=>hr.nb id oW,fun id h1=>hr.nb id oW⟩)
 .refine hQ g' a' w' ⟨fun t=>by rw[<-hl t];exact he t,hh.ext (fun i=>(hgt i).symm),by rw[hsd.2.1];exact hz,fun i hi=>htop i ?_,hd,?_⟩ (hgd.ext (fun i=>(hgt i).symm))
  .rw[run.nb,hsz] at hi;exact hi
  .rw[hsd.2.2,run.nb];exact aRs hr.np (Nat.le_add_right _ _)
 .have: ∀n (l:Array Bool),yK l n<=n:=by
   intro n l
   induction n with
   |zero=>exact aQ4 _
   |succ n ih=>simp only[yK];split<;>omega
  exact this _ _
 .simp only[hrep] at hj;cases hj
 .rw[none]
 .exact(none _ _ _).symm
end
theorem T6: ∀{l:List Prop},qI l->∀p∈l,p
 |[p],h,q,hq=>by simp only[aQ2] at hq;subst hq;exact h
 |p::q::r,h,x,hx=>by
  rcases aQV.1 hx with rfl|hx
  .exact h.1
  .exact T6 h.2 x hx
theorem aBk {p:Nat->Prop}(h: ∃n,p n): ∃n,p n/\∀m,p m->n<=m:=by
 obtain⟨n,hn⟩:=h
 induction n using Nat.strongRecOn with
 |_ n ih=>
  by_cases hs: ∃m,m<n/\p m
  .obtain⟨m,hm,hp⟩:=hs;exact ih m hm hp
  .exact⟨n,hn,fun m hm=>Nat.le_of_not_lt fun hlt=>hs ⟨m,hlt,hm⟩⟩
noncomputable def NI (p:Nat->Prop):Nat:=open Classical in if h: ∃n,p n then(aBk h).choose else 0
theorem T7 {p:Nat->Prop}(h: ∃n,p n):p (NI p)/\∀m,p m->NI p<=m:=by
 unfold NI;rw[aSC h];exact(aBk h).choose_spec
def CL:Exit->Option Ex
 | .normal=>some .normal
 | .exit id=>some (.exit id)
 | .ret=>some .ret
 |_=>none
def aBl (B:Nat) (A:Nat->Nat->Prop) (L:List pM) (g0:Gh) (w0:pB) (Q:Ex->St->Prop) (x:Exit) (a:Act) (w:pB):Prop:=
 ∃e g s,CL x=some e/\Q e s/\tP B g w s a/\sJ A L g0 w0 g w s.H/\s.np=L.length
section
variable {B:Nat}{P:Program}{T:rW}{Γ:sP}(hT:vK P T) (hΓ:AL P Γ) (hm:P.follows .mixedOrders=true) {A:Nat->Nat->Prop}{L:List pM}{g0:Gh}{w0:pB}
include hT hΓ hm
theorem DW {ro:p9}: ∀(c:Code) (s:St) (Q:Ex->St->Prop) (g:Gh) (a:Act) (w:pB),uY T Γ c s Q->tP B g w s a->sJ A L g0 w0 g w s.H->s.np=L.length->c.wpIn (zY ro) 0 P (aBl B A L g0 w0 Q) a w
 | .skip,s,Q,g,a,w,h,hr,hg,hn=>by
  unfold uY at h;exact wpIn_skip ⟨.normal,g,s,rfl,h,hr,hg,hn⟩
 | .label l,s,Q,g,a,w,h,hr,hg,hn=>by
  unfold uY at h;exact wpIn_label ⟨.normal,g,s,rfl,h,hr,hg,hn⟩
 | .exit id,s,Q,g,a,w,h,hr,hg,hn=>by
  unfold uY at h;exact wpIn_exit ⟨.exit id,g,s,rfl,h,hr,hg,hn⟩
 | .ret,s,Q,g,a,w,h,hr,hg,hn=>by
  unfold uY at h;exact wpIn_ret ⟨.ret,g,s,rfl,h,hr,hg,hn⟩
 | .region id ops draw,s,Q,g,a,w,h,hr,hg,hn=>by
  unfold uY at h;cases draw with
  |false=>
   simp only[MR] at h;cases hy:tC T Γ ops.toList ops.toList (some ⟨s,[],[]⟩) with
   |none=>rw[hy] at h;cases h
   |some y=>
    rw[hy] at h;refine aJN hT hΓ hy (T6 h.1) hr hg hn.symm (fun g' a' w' hr' hg'=>⟨.normal,g',y.s,rfl,h.2,hr',hg',(BI hy).2.2.trans hn⟩)
  |true=>
   simp only[MR] at h;cases hy:tC T Γ ops.toList ops.toList (some ⟨s,[],[]⟩) with
   |none=>rw[hy] at h;cases h
   |some y=>
    rw[hy] at h;simp only[a9y] at h;by_cases hc:CG ops s.nb y.es.reverse=true
    .rw[aQI hc] at h;refine aJ0 hT hΓ hm hy hc (T6 h.1) hr hg hn.symm (fun g' a' w' hr' hg'=>⟨.normal,g',y.s,rfl,h.2,hr',hg',(BI hy).2.2.trans hn⟩)
    .rw[aQO hc] at h;cases h
 | .seq x y,s,Q,g,a,w,h,hr,hg,hn=>by
  unfold uY at h;refine wpIn_seq (aR6 (DW x s _ g a w h hr hg hn) fun e a' w' hp=> ?_);obtain⟨e',g',s',h1,h2,h3,h4,h5⟩:=hp;cases e<;>simp only[CL,aQE] at h1
  case normal=>subst h1;exact DW y s' Q g' a' w' h2 h3 h4 h5
  case exit id=>subst h1;exact⟨.exit id,g',s',rfl,h2,h3,h4,h5⟩
  case ret=>subst h1;exact⟨.ret,g',s',rfl,h2,h3,h4,h5⟩
  all_goals cases h1
 | .cond c x y,s,Q,g,a,w,h,hr,hg,hn=>by
  unfold uY at h;have hc:=xK hr.env c;generalize sZ s.env c=sc at h hc;unfold a9F at h;split at h
  .exact wpIn_cond_split (uI hc.1) (fun ht=>DW x s Q g a w (h.1 ht) hr hg hn) (fun ht=>DW y s Q g a w (h.2 ht) hr hg hn)
  .obtain⟨b,hb,hp,hq⟩:=hc.1;exact wpIn_cond_split hb (fun ht=>DW x s Q g a w (h.1 (hp ht)) hr hg hn) (fun ht=>DW y s Q g a w (h.2 (hq ht)) hr hg hn)
  .cases h
 | .block id c,s,Q,g,a,w,h,hr,hg,hn=>by
  unfold uY at h;refine wpIn_block (aR6 (DW c s _ g a w h hr hg hn) fun e a' w' hp=> ?_);obtain⟨e',g',s',h1,h2,h3,h4,h5⟩:=hp;cases e<;>simp only[CL,aQE] at h1
  case normal=>subst h1;exact⟨.normal,g',s',rfl,h2,h3,h4,h5⟩
  case exit j=>
   subst h1;simp only[FF] at h2;simp only[Exit.inBlock];split
   .rename_i hj;rw[aQI hj] at h2;exact⟨.normal,g',s',rfl,h2,h3,h4,h5⟩
   .rename_i hj;rw[aQO hj] at h2;exact⟨.exit j,g',s',rfl,h2,h3,h4,h5⟩
  case ret=>subst h1;exact⟨.ret,g',s',rfl,h2,h3,h4,h5⟩
  all_goals cases h1
 | .loop c,s,Q,g,a,w,h,hr,hg,hn=>by
  unfold uY at h;obtain⟨k,I,μ,h0,hround⟩:=h;obtain⟨g1,k1,k2,k3,_⟩:=BH hr hg hn k
  let R:Act->pB->Nat->Prop:=fun a w n=> ∃g s,I s/\μ s=n/\tP B g w s a/\sJ A L g0 w0 g w s.H/\s.np=L.length
  refine wpIn_loop (fun a w=> ∃n,R a w n) (fun a w=>NI (R a w)) ⟨_,g1,s.keep k,h0,rfl,k1,k2,k3⟩ (fun a w hI=> ?_);obtain⟨⟨g2,s2,i1,i2,i3,i4,i5⟩,_⟩:=T7 hI;refine aR6 (DW c s2 _ g2 a w (hround s2 i1) i3 i4 i5) fun e a' w' hp=> ?_;obtain⟨e',g',s',h1,h2,h3,h4,h5⟩:=hp;cases e<;>simp only[CL,aQE] at h1
  case normal=>
   subst h1;obtain⟨k',j1,j2⟩:=h2;obtain⟨g3,l1,l2,l3,_⟩:=BH h3 h4 h5 k';have hR:R a' w' (μ (s'.keep k')):=⟨g3,s'.keep k',j1,rfl,l1,l2,l3⟩;refine⟨⟨_,hR⟩,Nat.lt_of_le_of_lt ((T7 ⟨_,hR⟩).2 _ hR) (by rw[<-i2];exact j2)⟩
  case exit id=>subst h1;exact⟨.exit id,g',s',rfl,h2,h3,h4,h5⟩
  case ret=>subst h1;exact⟨.ret,g',s',rfl,h2,h3,h4,h5⟩
  all_goals cases h1
 | .rangeFunc _ _ _ _,_,_,_,_,_,h,_,_,_=>by unfold uY at h;cases h
 | .scope _,_,_,_,_,_,h,_,_,_=>by unfold uY at h;cases h
 | .goto _,_,_,_,_,_,h,_,_,_=>by unfold uY at h;cases h
 | .refuse _,_,_,_,_,_,h,_,_,_=>by unfold uY at h;cases h
end
section
variable {f:St->Prop}{Q:Ex->St->Prop}{s:St}{id j:Nat}{I:St->Prop}{μ:St->Nat}{m:Nat}
theorem pT (h:f s):MU f Q .normal s:=h
theorem s7 (h:Q (.exit j) s):MU f Q (.exit j) s:=h
theorem qP (h:Q .ret s):MU f Q .ret s:=h
theorem r5 (h:Q .normal s):FF id Q .normal s:=h
theorem sD (h:Q .normal s):FF id Q (.exit id) s:=by show (if id=id then Q .normal s else Q (.exit id) s);rw[aQI rfl];exact h
theorem aBm (hne:j≠id) (h:Q (.exit j) s):FF id Q (.exit j) s:=by show (if j=id then Q .normal s else Q (.exit j) s);rw[aQO hne];exact h
theorem r6 (h:Q .ret s):FF id Q .ret s:=h
end
@[go_sem] def qR:Nat->List pN->List (Nat×pN)
 |_,[]=>[]
 |c,s::r=>(c,s)::qR (c+1) r
@[go_sem] def uK:Nat->List pM->p5
 |_,[]=>[]
 |c,_::L=>(c,c)::uK (c+1) L
@[go_sem] def NJ (m:p5):List pN->Prop
 |[]=>True
 |s::r=>xU m s=s/\NJ m r
@[go_sem] def NK (m:p5):List pM->Prop
 |[]=>True
 | .dead::_=>False
 |b::r=>FE m (some b)=b/\NK m r
def qT:List pM->Prop
 |[]=>True
 | .row _ _ l n::r=>n=List.length l/\qT r
 |_::r=>qT r
theorem aBn {g:Gh}{w:pB}: ∀{L:List pM},(∀(i:Nat) b,L[i]? =some b->∃j,xW g w j b)->qT L
 |[],_=>trivial
 |b::L,h=>by
  have h1:=aBn (L:=L) fun i b' hb=>h (i+1) b' (by simpa using hb);obtain⟨j,h0⟩:=h 0 b rfl;cases b with
  |row e t l n=>exact⟨h0.1.symm,h1⟩
  |_=>exact h1
def YI:p7->pC
 |[v]=>v
 |l=> .tuple l.toArray
attribute [go_sem] pX
@[go_sem] def aBo:pN->Int
 |(.val (.int _) n,_)=>n
 |_=>0
theorem aBp: ∀(l:List pN) (c t:Nat),lk (qR c l) t=if c<=t then(l[t-c]?).getD (.any,none) else(.any,none)
 |[],c,t=>by simp [qR,lk]
 |s::l,c,t=>by
  simp only[qR,lk];by_cases h:c=t
  .subst h;simp
  .rw[aQO h,aBp l (c+1) t];by_cases h2:c<=t
   .rw[aQI h2,aQI oW];obtain⟨d,hd⟩: ∃d,t-c=d+1:=⟨t-c-1,oW⟩;rw[hd,aRi,show t- (c+1)=d by omega]
   .rw[aQO h2,aQO oW]
theorem KC: ∀{L:List pM}{c i j:Nat},(i,j)∈uK c L↔i=j/\c<=i/\i<c+L.length
 |[],c,i,j=>by simp only[uK,aSb,aQW,false_iff];omega
 |b::L,c,i,j=>by
  simp only[uK,aQV,aRc,KC,aQJ];omega
theorem T8: ∀{L:List pM}{c:Nat},vT 0 (uK c L)=true
 |[],_=>rfl
 |b::L,c=>by
  simp only[uK,vT,aQU];refine⟨⟨by simp,?_⟩,T8⟩;have: ∀{m:p5},(∀i j,(i,j)∈m->i≠c/\j≠c)->JV c c m=false:=by
   intro m
   induction m with
   |nil=>intro _;rfl
   |cons q m ih=>
    intro h;obtain⟨i,j⟩:=q;have:=h i j oY;simp only[JV,ih (fun i j hm=>h i j (aQZ _ hm)),decide_eq_false this.1,decide_eq_false this.2];rfl
  rw[this]
  .rfl
  .intro i j hm;obtain⟨rfl,h1,_⟩:=KC.1 hm;omega
theorem aBq {m:p5}: ∀{l:List pN},NJ m l->∀s∈l,xU m s=s
 |x::l,h,s,hs=>by
  rcases aQV.1 hs with rfl|hs
  .exact h.1
  .exact aBq h.2 s hs
theorem HS {m:p5}: ∀{l:List pM},NK m l->∀b∈l,FE m (some b)=b/\b≠.dead
 |x::l,h,b,hb=>by
  cases x with
  |dead=>exact h.elim
  |cells t y ts=>
   rcases aQV.1 hb with rfl|hb
   .exact⟨h.1,fun h=>by cases h⟩
   .exact HS h.2 b hb
  |row e t l n=>
   rcases aQV.1 hb with rfl|hb
   .exact⟨h.1,fun h=>by cases h⟩
   .exact HS h.2 b hb
  |map k v l=>
   rcases aQV.1 hb with rfl|hb
   .exact⟨h.1,fun h=>by cases h⟩
   .exact HS h.2 b hb
  |iter s n=>
   rcases aQV.1 hb with rfl|hb
   .exact⟨h.1,fun h=>by cases h⟩
   .exact HS h.2 b hb
  |grow e c n=>
   rcases aQV.1 hb with rfl|hb
   .exact⟨h.1,fun h=>by cases h⟩
   .exact HS h.2 b hb
theorem NL {g:Gh}{w:pB}: ∀{ss:List pN}{vs:p7},uB g w ss vs->vs.length=ss.length/\∀(i:Nat) s,ss[i]? =some s->∃v,vs[i]? =some v/\rD g w s v
 |[],vs,h=>by rw[show vs=[] from h];exact⟨rfl,fun i s h=>by simp at h⟩
 |s::ss,vs,⟨v,vs',e,h1,h2⟩=>by
  subst e;obtain⟨h3,h4⟩:=NL h2;refine⟨by simp [h3],fun i s' hi=> ?_⟩;cases i with
  |zero=>simp only[aQ8,aQE] at hi;subst hi;exact⟨v,rfl,h1⟩
  |succ i=>simp only[aRi] at hi|-;exact h4 i s' hi
theorem NM: ∀(L:List pM),qD L=L.length
 |[]=>rfl
 |_::L=>by simp only[qD,aQJ,NM L]
theorem aJ1 {g:Gh}{w:pB}{args:List pN}{vals:p7}{L:List pM}{N:Nat}(hH:rR g w (pX 0 L)) (ha:uB g w args vals) (hs:NJ (uK 0 L) args) (hb:NK (uK 0 L) L) (hN:args.length<=N):
  tP w.heap.size (tD g 0 (uK 0 L)) w ⟨qR 0 args,pX 0 L,qD L,N,qD L⟩ {tmps:=vals.toArray++Array.replicate (N-vals.toArray.size) undef,defers:=[]}/\
  (∀i blk,L[i]? =some blk->(tD g 0 (uK 0 L)).J i=g.J i/\xW (tD g 0 (uK 0 L)) w i blk/\∀b o,rK (tD g 0 (uK 0 L)) i blk b o->rK g i blk b o):=by
 have hk:vT 0 (uK 0 L)=true:=T8;have hmem: ∀i blk,L[i]? =some blk->(i,i)∈uK 0 L:=fun i blk h=>KC.2 ⟨rfl,oW,by have:=(aQP.1 h).1;omega⟩;have hblk: ∀i blk,L[i]? =some blk->xW (tD g 0 (uK 0 L)) w i blk/\∀b o,rK (tD g 0 (uK 0 L)) i blk b o->rK g i blk b o:=by
  intro i blk h;have hr:=(HS hb blk (List.mem_of_getElem? h)).1;have:=HP (g:=g) (w:=w) hk (hmem i blk h) (b:=some blk) (fun c hc=>by cases hc;exact hH.blk i blk (by rw[vE];exact h));rw[hr] at this;exact⟨this.1,fun b o ho=>by obtain⟨c,hc,hco⟩:=this.2 b o ho;cases hc;exact hco⟩
 obtain⟨hl,hv⟩:=NL ha;refine⟨⟨fun t=> ?_,⟨fun i b h=> ?_,fun i j bi bj b o hij h1 h2 o1 o2=> ?_,hH.sl,hH.tab.1,fun i blk b o hg ho=>hH.tab.2 i blk b o hg ((hblk i blk (by rw[<-vE];exact hg)).2 b o ho)⟩,?_,fun i hi=> ?_,XR _ _,aQ4 _⟩,fun i blk h=>⟨(yJ hk (hmem i blk h)).1,hblk i blk h⟩⟩
 .rw[aBp,aQI (aRJ _),Nat.sub_zero];cases ht:args[t]? with
  |none=>exact⟨trivial,trivial⟩
  |some s=>
   obtain⟨v,hv1,hv2⟩:=hv t s ht;have hlt:t<vals.length:=(aQP.1 hv1).1;have:(vals.toArray++Array.replicate (N-vals.toArray.size) undef).getD t undef=v:=by
    rw[aQ7,Array.getElem?_append_left (by simpa using hlt)];simp [hv1]
   simp only[aSD];rw[this];have:=SV hk hv2;rw[aBq hs s (List.mem_of_getElem? ht)] at this;exact this
 .rw[vE] at h;exact(hblk i b h).1
 .rw[vE] at h1 h2;exact hH.dis i j bi bj b o hij (by rw[vE];exact h1) (by rw[vE];exact h2) ((hblk i bi h1).2 b o o1) ((hblk j bj h2).2 b o o2)
 .simp only[aSm,Array.size_replicate,aRo];omega
 .have hold:xL (uK 0 L) i=none:=by
   cases ho:xL (uK 0 L) i with
   |none=>rfl
   |some o=>
    obtain⟨rfl,_,h2⟩:=KC.1 (XX ho);have hi:qD L<=i:=hi;rw[NM] at hi;omega
  refine⟨?_,fun n=> ?_⟩
  .show (if i<0 then g.J i else(xL (uK 0 L) i).bind g.J)=none;rw[aQO oW,hold];rfl
  .show (if i<0 then g.cur i n else(xL (uK 0 L) i).bind fun o=>g.cur o n)=none;rw[aQO oW,hold];rfl
structure sV (B:Nat) (w w':pB):Prop where
 os:w'.os=w.os
 tape:w'.tape=w.tape
 output:w'.output=w.output
 size:w.heap.size<=w'.heap.size
 blk: ∀b,b<w.heap.size->w'.heap[b]? =w.heap[b]? \/(B<=b/\NG<=b/\∃o o',w.heap[b]? =some o/\w'.heap[b]? =some o'/\DT o=true/\DT o'=true)
theorem aBr {w:pB}{b:Nat}{ob:Obj}(hd:w.heap[b]? =some ob) (hm:DT ob=true) (o:Nat):w.frozen? ⟨b,o,none⟩=false:=by
 unfold World.frozen?;simp only[hd];cases ob<;>first|rfl|cases hm
theorem aJ2 {w:pB}{b:Nat}{ob:Obj}(hd:w.heap[b]? =some ob) (hm:DT ob=true):w.shape? b=none:=by
 unfold World.shape?;simp only[hd];cases ob<;>first|rfl|cases hm
section
variable {B:Nat}{w w' w'':pB}
theorem sV.refl (B:Nat) (w:pB):sV B w w:=⟨rfl,rfl,rfl,aQ4 _,fun _ _=> .inl rfl⟩
theorem sV.trans (h:sV B w w') (k:sV B w' w''):sV B w w'':=by
 refine⟨k.os.trans h.os,k.tape.trans h.tape,k.output.trans h.output,aRs h.size k.size,fun b hb=> ?_⟩;rcases k.blk b (aRh hb h.size) with k1|⟨k0,k1,o,o',k2,k3,k4,k5⟩
 .rcases h.blk b hb with h1|⟨h0,h1,o,o',h2,h3,h4,h5⟩
  .exact .inl (k1.trans h1)
  .exact .inr ⟨h0,h1,o,o',h2,k1.trans h3,h4,h5⟩
 .rcases h.blk b hb with h1|⟨h0,h1,p,p',h2,h3,h4,h5⟩
  .exact .inr ⟨k0,k1,o,o',h1▸k2,k3,k4,k5⟩
  .exact .inr ⟨h0,h1,p,o',h2,k3,h4,k5⟩
theorem sV.cell (t:sV B w w') {b:Nat}(hb:b<w.heap.size) (o:Nat):w'.cell? ⟨b,o,none⟩=w.cell? ⟨b,o,none⟩/\w'.frozen? ⟨b,o,none⟩=w.frozen? ⟨b,o,none⟩:=by
 rcases t.blk b hb with h|⟨_,_,o1,o2,h1,h2,m1,m2⟩
 .exact⟨aQ5 h,by unfold World.frozen?;simp only[h]⟩
 .exact⟨by rw[XS h1 m1,XS h2 m2],by rw[aBr h1 m1,aBr h2 m2]⟩
theorem sV.shape (t:sV B w w') {b:Nat}{s:TypeId×Nat}(h:w.shape? b=some s):w'.shape? b=some s:=by
 have hb:b<w.heap.size:=by
  unfold World.shape? at h;cases hx:w.heap[b]? with
  |none=>rw[hx] at h;cases h
  |some _=>exact(aQ1.1 hx).1
 rcases t.blk b hb with k|⟨_,_,o1,o2,h1,h2,m1,m2⟩
 .unfold World.shape? at h|-;rw[k];exact h
 .rw[aJ2 h1 m1] at h;cases h
theorem sV.le (t:sV B w w') {g:Gh}(hs: ∀b o,g.S b o->b<w.heap.size):Le g w g w':=⟨fun _ _ h=>h,fun b o h=>(t.cell (hs b o h) o).1,fun _ _ h=>h,fun _ _ _ h=>h⟩
theorem sV.heapOk (t:sV B w w') {g:Gh}{H:rH}(h:rR g w H):rR g w' H:=by
 have own: ∀{i blk b o},pQ H i=some blk->rK g i blk b o->w'.heap[b]? =w.heap[b]? :=fun hg ho=>by
  rcases t.blk _ (HK (h.blk _ _ hg) ho) with k|⟨_,_,o1,o2,h1,_,m1,_⟩
  .exact k
  .exact(SS (h.blk _ _ hg) ho h1 m1).elim
 refine⟨fun i blk hb=>JX (h.blk i blk hb) (t.le h.sl) rfl rfl (fun b o ho=>t.cell (HK (h.blk i blk hb) ho) o) (fun b ho=>own hb (ho 0)) (fun _ _ _ x=>x) (fun b o s _ x=>t.shape x),h.dis,fun b o x=>aRh (h.sl b o x) t.size,GX h.tab.1 t.size (fun b hb=> ?_),h.tab.2⟩;rcases t.blk b (aRh hb h.tab.1.1) with k|⟨_,k,_⟩
 .exact k
 .omega
theorem tP.turn {g:Gh}{s:St}{a:Act}{ds:List Deferred}(h:tP B g w s a) (t:sV B w w') (hd:wC B w' ds):tP B g w' s {a with defers:=ds}:=
 ⟨fun x=>yW (t.le h.heap.sl) (h.env x),t.heapOk h.heap,h.size,h.nb,hd,h.np⟩
theorem sJ.turn {A:Nat->Nat->Prop}{L:List pM}{g0 g:Gh}{w0:pB}{H:rH}(h:sJ A L g0 w0 g w H) (hs: ∀b o,g.S b o->b<w.heap.size) (t:sV w0.heap.size w w'):sJ A L g0 w0 g w' H:=by
 refine⟨fun b o x=>⟨(h.shut b o x).1,(t.cell (hs b o (h.shut b o x).1) o).1.trans (h.shut b o x).2⟩,⟨t.os.trans h.fr.os,t.tape.trans h.fr.tape,t.output.trans h.fr.output,aRs h.fr.size t.size,fun b hb hA=> ?_,fun b o hb hA=> ?_,h.fr.new,fun b s x=> ?_⟩,h.perm,h.J,h.live,h.ty,h.cur⟩
 .rcases t.blk b (aRh hb h.fr.size) with k|⟨k,_⟩
  .exact k.trans (h.fr.blk b hb hA)
  .omega
 .have:=t.cell (aRh hb h.fr.size) o;have k:=h.fr.cell b o hb hA;exact⟨this.1.trans k.1,this.2.trans k.2⟩
 .rcases h.fr.shape b s x with k|k
  .exact .inl (t.shape k)
  .exact .inr k
end
theorem aBs {P:Program}{fn:Func}{R:Ending->pB->Prop}{A:Nat->Nat->Prop}{L:List pM}{g0 g:Gh}{w0:pB}{s:St}{tmps:Array pC}: ∀(ds:List Deferred) (w:pB),tP w0.heap.size g w s {tmps:=tmps,defers:=ds}->sJ A L g0 w0 g w s.H->
  (∀w',tP w0.heap.size g w' s {tmps:=tmps,defers:=[]}->sJ A L g0 w0 g w' s.H->∃v,(results fn tmps).run P w'= .ok v w'/\R (.returned v) w')->LeavesInM Fence.wide 0 P fn tmps R ds .returning w
 |[],w,hr,hg,h=>h w hr hg
 |d::ds,w,hr,hg,h=>by
  obtain⟨hnd,hall⟩:=hr.def_;obtain⟨D,rfl,h1,h2,h3⟩:=hall d aQ3;have hlt:=(aQ1.1 h3).1;have t:sV w0.heap.size w (w.putObj D (.deferred none)):=by
   refine⟨rfl,rfl,rfl,by simp [World.putObj],fun b hb=> ?_⟩;by_cases e:b=D
   .subst e;exact .inr ⟨h1,h2,_,_,h3,World.putObj_heap_same hlt,rfl,rfl⟩
   .exact .inl (World.putObj_heap_other e)
  have hd:wC w0.heap.size (w.putObj D (.deferred none)) ds:=by
   refine⟨(List.nodup_cons.1 hnd).2,fun d' hd'=> ?_⟩;obtain⟨D',rfl,k1,k2,k3⟩:=hall d' (aQZ _ hd');refine⟨D',rfl,k1,k2,?_⟩;rw[World.putObj_heap_other (fun e:D'=D=>(List.nodup_cons.1 hnd).1 (by subst e;exact hd'))];exact k3
  exact⟨by simp,.inl ⟨D,_,rfl,run_takeDeferred h3,aBs ds _ (hr.turn t hd) (hg.turn hr.heap.sl t) h⟩⟩
def Ev (R:Bool) (P:Program) (c:Code) (s:St) (Q:Ex->St->Prop):Prop:=
 ∀(ro:p9),ro.isSome=R->
 ∀(A:Nat->Nat->Prop) (L:List pM) (g0:Gh) (w0:pB) (g:Gh) (a:Act) (w:pB) (B:Nat),B<=w0.heap.size->tP B g w s a->sJ A L g0 w0 g w s.H->s.np=L.length->c.wpIn (zY ro) 0 P (aBl B A L g0 w0 Q) a w
variable {R:Bool}
theorem aBt {P:Program}{T:rW}{Γ:sP}(hT:vK P T) (hΓ:AL P Γ) (hm:P.follows .mixedOrders=true) {c:Code}{s:St}{Q:Ex->St->Prop}(h:uY T Γ c s Q):Ev R P c s Q:=
 fun ro hro A L g0 w0 g a w B hB hr hg hn=>DW hT hΓ hm c s Q g a w h hr hg hn
structure qM (P:Program) (T:rW) (Γ:sP):Prop where
 T:vK P T
 Γ:AL P Γ
 m:P.follows .mixedOrders=true
@[go_sem] def skS (l:pA) (Γ:sP) (f:Nat):Option qC:=if zK f l=true then some ⟨[],fun _ _=>none,[],[],none⟩ else Γ f
theorem YJ {P:Program}{T:rW}{Γ:sP}{l:pA}(h:qM P T Γ) (hl:(l.all fun k=>decide (1000000000<=k))=true):qM P T (skS l Γ):=
 ⟨h.T,fun f s hlt hs=>by
  unfold skS at hs;split at hs
  .rename_i hm;have:=aRk (aRz.1 hl f (FJ.1 hm));omega
  .exact h.Γ f s hlt hs,h.m⟩
theorem aJ3 {P:Program}{c:Code}{s:St}{Q Q':Ex->St->Prop}(h:Ev R P c s Q') (hq: ∀e s,Q' e s->Q e s):Ev R P c s Q:=by
 intro ro hro A L g0 w0 g a w B hB hr hg hn;refine aR6 (h ro hro A L g0 w0 g a w B hB hr hg hn) fun x a' w' hp=> ?_;obtain⟨e,g',s',h1,h2,h3,h4,h5⟩:=hp;exact⟨e,g',s',h1,hq e s' h2,h3,h4,h5⟩
theorem aBv {P:Program}{c:Code}{s:St}{Q:Ex->St->Prop}(k:uR) (h:Ev R P c (s.keep k) Q):Ev R P c s Q:=by
 intro ro hro A L g0 w0 g a w B hB hr hg hn;obtain⟨g1,k1,k2,k3,_⟩:=BH hr hg hn k;exact h ro hro A L g0 w0 g1 a w B hB k1 k2 k3
section
variable {P:Program}{s:St}{Q:Ex->St->Prop}
theorem qG (h:Q .normal s):Ev R P .skip s Q:=fun _ _ _ _ _ _ g _ _ _ _ hr hg hn=>wpIn_skip ⟨.normal,g,s,rfl,h,hr,hg,hn⟩
theorem s8 {id:Nat}(h:Q (.exit id) s):Ev R P (.exit id) s Q:=fun _ _ _ _ _ _ g _ _ _ _ hr hg hn=>wpIn_exit ⟨.exit id,g,s,rfl,h,hr,hg,hn⟩
theorem pV (h:Q .ret s):Ev R P .ret s Q:=fun _ _ _ _ _ _ g _ _ _ _ hr hg hn=>wpIn_ret ⟨.ret,g,s,rfl,h,hr,hg,hn⟩
theorem pW {x y:Code}(h:Ev R P x s (MU (fun s'=>Ev R P y s' Q) Q)):Ev R P (.seq x y) s Q:=by
 intro ro hro A L g0 w0 g a w B hB hr hg hn;refine wpIn_seq (aR6 (h ro hro A L g0 w0 g a w B hB hr hg hn) fun e a' w' hp=> ?_);obtain⟨e',g',s',h1,h2,h3,h4,h5⟩:=hp;cases e<;>simp only[CL,aQE] at h1
 case normal=>subst h1;exact h2 ro hro A L g0 w0 g' a' w' B hB h3 h4 h5
 case exit id=>subst h1;exact⟨.exit id,g',s',rfl,h2,h3,h4,h5⟩
 case ret=>subst h1;exact⟨.ret,g',s',rfl,h2,h3,h4,h5⟩
 all_goals cases h1
theorem aJ4 {c:Operand}{x y:Code}{b:Bool}{k:p9}(h:sZ s.env c=(.val .bool b,k)) (ht:b=true->Ev R P x s Q) (hf:b=false->Ev R P y s Q):Ev R P (.cond c x y) s Q:=by
 intro ro hro A L g0 w0 g a w B hB hr hg hn;have hc:=xK hr.env c;rw[h] at hc;exact wpIn_cond_split (uI hc.1) (fun e=>ht e ro hro A L g0 w0 g a w B hB hr hg hn) (fun e=>hf e ro hro A L g0 w0 g a w B hB hr hg hn)
theorem aBw {c:Operand}{x y:Code}{p q:Prop}{k:p9}(h:sZ s.env c=(.flag p q,k)) (ht:p->Ev R P x s Q) (hf:q->Ev R P y s Q):Ev R P (.cond c x y) s Q:=by
 intro ro hro A L g0 w0 g a w B hB hr hg hn;have hc:=xK hr.env c;rw[h] at hc;obtain⟨b,hb,hp,hq⟩:=hc.1;exact wpIn_cond_split hb (fun e=>ht (hp e) ro hro A L g0 w0 g a w B hB hr hg hn) (fun e=>hf (hq e) ro hro A L g0 w0 g a w B hB hr hg hn)
theorem qY {id:Nat}{c:Code}(h:Ev R P c s (FF id Q)):Ev R P (.block id c) s Q:=by
 intro ro hro A L g0 w0 g a w B hB hr hg hn;refine wpIn_block (aR6 (h ro hro A L g0 w0 g a w B hB hr hg hn) fun e a' w' hp=> ?_);obtain⟨e',g',s',h1,h2,h3,h4,h5⟩:=hp;cases e<;>simp only[CL,aQE] at h1
 case normal=>subst h1;exact⟨.normal,g',s',rfl,h2,h3,h4,h5⟩
 case exit j=>
  subst h1;simp only[FF] at h2;simp only[Exit.inBlock];split
  .rename_i hj;rw[aQI hj] at h2;exact⟨.normal,g',s',rfl,h2,h3,h4,h5⟩
  .rename_i hj;rw[aQO hj] at h2;exact⟨.exit j,g',s',rfl,h2,h3,h4,h5⟩
 case ret=>subst h1;exact⟨.ret,g',s',rfl,h2,h3,h4,h5⟩
 all_goals cases h1
end
@[go_sem] def YK (k:Nat) (t:Ty) (l:List t.den):pN->pN
 |(.own j m,x)=>if j=k then(.val (.list t) l,some k) else(.own j m,x)
 |s=>s
@[go_sem] def NN (k:Nat) (t:Ty) (l:List t.den):List (Nat×pN)->List (Nat×pN)
 |[]=>[]
 |(i,s)::r=>(i,YK k t l s)::NN k t l r
@[go_sem] def aBx (k n:Nat):pN->Prop
 |(.own j m,_)=>j=k->m=n
 |_=>True
@[go_sem] def YL (k n:Nat):List (Nat×pN)->Prop
 |[]=>True
 |(_,s)::r=>aBx k n s/\YL k n r
theorem aBy {k:Nat}{t:Ty}{l:List t.den}: ∀{env:List (Nat×pN)}{i:Nat},lk (NN k t l env) i=YK k t l (lk env i)
 |[],i=>rfl
 |(j,s)::r,i=>by
  simp only[NN,lk];split
  .rfl
  .exact aBy
theorem aBz {k n:Nat}: ∀{env:List (Nat×pN)}{i:Nat},YL k n env->aBx k n (lk env i)
 |[],i,_=>trivial
 |(j,s)::r,i,⟨h1,h2⟩=>by
  simp only[lk];split
  .exact h1
  .exact aBz h2
theorem NO {P:Program}{c:Code}{s:St}{Q:Ex->St->Prop}(k:Nat) {e:TypeId}{t:Ty}{l:List t.den}{n:Nat}(hk:pQ s.H k=some (.row e t l n)) (hok:YL k n s.env)
  (h:Ev R P c ⟨NN k t l s.env,(k,.grow e t.cells (List.length l))::s.H,s.nb,s.N,s.np⟩ Q):Ev R P c s Q:=by
 intro ro hro A L g0 w0 g a w B hB hr hg hn;obtain⟨hl,v,xs,hv,hown,hF,hnone,hseal⟩:=hr.heap.blk k _ hk
 let g':Gh:={g with S:=fun b o=>g.S b o\/(v.ownBlock=some b/\o<n*t.cells)}
 have le:Le g w g' w:=⟨fun _ _ h=> .inl h,fun _ _ _=>rfl,fun _ _ h=>h,fun _ _ _ h=>h⟩;have hown2: ∀b,v.ownBlock=some b->∀o,rK g k (.row e t l n) b o:=fun b hb o=>⟨v,hv,hb⟩;have hlist: ∀u,g.cur k n=some u->((u= .slice none 0 0/\n=0)\/∃b cap,u= .slice (some ⟨b,0,none⟩) n cap/\n<=cap)->sM g' w (.list t) l u:=by
  intro u hu hshape;rw[hv] at hu;obtain rfl:=aQH hu;rcases hshape with⟨rfl,h0⟩ |⟨b,cap,rfl,hcap⟩
  .have:l=[]:=aRe (by rw[hl,h0]);subst this;exact .inr ⟨rfl,none,0,rfl,aQ4 _,.inl rfl⟩
  .refine .inr ⟨rfl,some ⟨b,0,none⟩,cap,by rw[hl],by rw[hl];exact hcap,.inr ⟨b,0,rfl,K0 (AJ (fun _ _ h=>vU le h) hF) (fun j u hu=> ?_) (fun j hj=> ?_)⟩⟩
   .have:=hown.cells (g:=b) rfl j u hu;rwa [aRN] at this
   .right;exact⟨rfl,by rw[hl] at hj;omega⟩
 have hget: ∀i b,pQ ((k,pM.grow e t.cells (List.length l))::s.H) i=some b->(i=k/\b= .grow e t.cells (List.length l))\/(i≠k/\pQ s.H i=some b):=by
  intro i b hb;simp only[pQ] at hb;split at hb
  .rename_i e1;exact .inl ⟨e1.symm,(aQH hb).symm⟩
  .rename_i e1;exact .inr ⟨Ne.symm e1,hb⟩
 have howns: ∀i b bb o,pQ ((k,pM.grow e t.cells (List.length l))::s.H) i=some b->rK g' i b bb o->∃b0,pQ s.H i=some b0/\rK g i b0 bb o:=by
  intro i b bb o hb ho;rcases hget i b hb with⟨rfl,rfl⟩ |⟨_,h1⟩
  .obtain⟨u,hu,hub⟩:=ho;have hu':g.cur i (List.length l)=some u:=hu;rw[hl] at hu';exact⟨_,hk,u,hu',hub⟩
  .exact⟨b,h1,(xH (g':=g') (g:=g) rfl rfl).1 ho⟩
 have hrel:tP B g' w ⟨NN k t l s.env,(k,.grow e t.cells (List.length l))::s.H,s.nb,s.N,s.np⟩ a:=by
  refine⟨fun i=> ?_,⟨fun i b hb=> ?_,fun i j bi bj b o hij h1 h2 o1 o2=> ?_,fun b o hS=> ?_,hr.heap.tab.1,fun i b bb oo hb ho=>by
   obtain⟨c1,k1,k2⟩:=howns i b bb oo hb ho;exact hr.heap.tab.2 i c1 bb oo k1 k2⟩,hr.size,hr.nb,hr.def_,hr.np⟩
  .rw[aBy];have h1:=hr.env i;have h2:=aBz (i:=i) hok;generalize lk s.env i=sl at h1 h2;obtain⟨d,x⟩:=sl;cases d with
   |own j m=>
    simp only[YK];split
    .rename_i hj;subst hj;have hm:m=n:=h2 rfl;subst hm;refine⟨hlist _ h1.1.1 h1.1.2,?_⟩;show g'.cur j (List.length l)=_;rw[hl];exact h1.1.1
    .exact yW le h1
   |_=>exact yW le h1
  .rcases hget i b hb with⟨rfl,rfl⟩ |⟨hne,h1⟩
   .refine⟨v,xs,by rw[hl];exact hv,by rw[hl];exact hown,fun m hm=>hnone m (by rw[hl] at hm;exact hm),fun b hb o hS=> ?_⟩;rw[hl];rcases hS with hS|hS
    .exact absurd hS (hseal b hb o)
    .exact hS.2
   .exact JX (hr.heap.blk i b h1) le rfl rfl (fun _ _ _=>⟨rfl,rfl⟩) (fun _ _=>rfl) (fun bb o ho hS=>by
     rcases hS with hS|hS
     .exact hS
     .exact absurd (hown2 bb hS.1 o) (fun h5=>hr.heap.dis i k b _ bb o hne h1 hk ho h5)) (fun _ _ _ _ h=>h)
  .obtain⟨c1,k1,k2⟩:=howns i bi b o h1 o1;obtain⟨c2,k3,k4⟩:=howns j bj b o h2 o2;exact hr.heap.dis i j c1 c2 b o hij k1 k3 k2 k4
  .rcases hS with hS|hS
   .exact hr.heap.sl b o hS
   .exact N0 hown hS.1
 have hgood:sJ A L g0 w0 g' w ((k,.grow e t.cells (List.length l))::s.H):=by
  refine⟨fun b o h0=>⟨.inl (hg.shut b o h0).1,(hg.shut b o h0).2⟩,⟨hg.fr.os,hg.fr.tape,hg.fr.output,hg.fr.size,hg.fr.blk,hg.fr.cell,fun b o hS=> ?_,hg.fr.shape⟩,fun i b bb o hb ho=> ?_,hg.J,hg.live,fun i u y us hi hb=> ?_,hg.cur⟩
  .rcases hS with hS|hS
   .exact hg.fr.new b o hS
   .exact .inr (hg.perm k _ b o hk (hown2 b hS.1 o))
  .obtain⟨c1,k1,k2⟩:=howns i b bb o hb ho;exact hg.perm i c1 bb o k1 k2
  .rcases hget i _ hb with⟨_,h1⟩ |⟨_,h1⟩
   .cases h1
   .exact hg.ty i u y us hi h1
 exact h ro hro A L g0 w0 g' a w B hB hrel hgood hn
def iter {σ ρ:Type}(f:σ->Option (σ⊕ρ)):Nat->σ->Option ρ
 |0,_=>none
 |n+1,x=>match f x with
  |none=>none
  |some (.inl y)=>iter f n y
  |some (.inr r)=>some r
theorem aBA {σ ρ:Type}{f:σ->Option (σ⊕ρ)}{r:ρ}: ∀{n:Nat}{x:σ},iter f n x=some r->iter f (n+1) x=some r
 |0,_,h=>by cases h
 |n+1,x,h=>by
  unfold iter at h|-;split
  .rename_i e;rw[e] at h;cases h
  .rename_i y e;rw[e] at h;exact aBA h
  .rename_i r' e;rw[e] at h;exact h
theorem YM {σ ρ:Type}{f:σ->Option (σ⊕ρ)}{r:ρ}{n:Nat}{x:σ}(h:iter f n x=some r): ∀m,iter f (n+m) x=some r
 |0=>h
 |m+1=>aBA (YM h m)
theorem aBB {σ ρ:Type}{f:σ->Option (σ⊕ρ)}{r r':ρ}{n m:Nat}{x:σ}(h:iter f n x=some r) (h':iter f m x=some r'):r=r':=by
 have h1:=YM h m;have h2:=YM h' n;rw[Nat.add_comm] at h2;exact aQH (h1.symm.trans h2)
noncomputable def NP {σ ρ:Type}(f:σ->Option (σ⊕ρ)) (x:σ):Option ρ:=open Classical in if h: ∃n r,iter f n x=some r then some (Classical.choose (aR3 h)) else none
def aJ5 {ρ:Type}:Option ρ->Option ρ->Option ρ
 |some r,_=>some r
 |none,r=>r
noncomputable def rF {σ ρ:Type}(f:σ->Option (σ⊕ρ)) (x:σ):Option ρ:=aJ5 (iter f 2000 x) (NP f x)
theorem aJ6 {σ ρ:Type}{f:σ->Option (σ⊕ρ)}{x:σ}{r:ρ}{n:Nat}(h:iter f n x=some r):NP f x=some r:=by
 have hx: ∃n r,iter f n x=some r:=⟨n,r,h⟩;unfold NP;rw[aSC hx,aBB h (aR3 (aR3 hx))]
theorem YN {σ ρ:Type}{f:σ->Option (σ⊕ρ)}{x:σ}{r:ρ}{n:Nat}(h:iter f n x=some r):rF f x=some r:=by
 unfold rF;cases hi:iter f 2000 x with
 |some r'=>rw[aBB h hi];rfl
 |none=>exact aJ6 h
theorem T9 {σ ρ:Type}{f:σ->Option (σ⊕ρ)}{x:σ}{r:ρ}(h:rF f x=some r): ∃n,iter f n x=some r:=by
 unfold rF at h;cases hi:iter f 2000 x with
 |some r'=>
  rw[hi] at h;cases h;exact⟨_,hi⟩
 |none=>
  rw[hi] at h;have h:NP f x=some r:=h;unfold NP at h;split at h
  .rename_i hx;have:=aR3 (aR3 hx);rw[aQH h] at this;exact⟨_,this⟩
  .cases h
attribute [irreducible] rF
theorem CM {σ ρ:Type}{f:σ->Option (σ⊕ρ)}{x y:σ}(h:f x=some (.inl y)):rF f x=rF f y:=by
 cases hy:rF f y with
 |some r=>
  obtain⟨n,hn⟩:=T9 hy;exact YN (n:=n+1) (by unfold iter;rw[h];exact hn)
 |none=>
  cases hx:rF f x with
  |none=>rfl
  |some r=>
   obtain⟨n,hn⟩:=T9 hx;cases n with
   |zero=>cases hn
   |succ n=>
    unfold iter at hn;rw[h] at hn;rw[YN hn] at hy;cases hy
theorem xM {σ ρ:Type}{f:σ->Option (σ⊕ρ)}{x:σ}{r:ρ}(h:f x=some (.inr r)):rF f x=some r:=YN (n:=1) (by unfold iter;rw[h])
def Nxt {σ ρ:Type}(f:σ->Option (σ⊕ρ)) (y:ρ) (n:Nat):σ⊕ρ->Prop
 | .inl x=>iter f n x=some y
 | .inr r=>r=y
def qL {σ ρ:Type}(enc:σ->St) (f:σ->Option (σ⊕ρ)) (y:ρ) (n:Nat) (Q:Ex->St->Prop):Ex->St->Prop
 | .normal,s=> ∃(k:uR) (x:σ),s.keep k=enc x/\iter f n x=some y
 | .exit j,s=>Q (.exit j) s
 | .ret,s=>Q .ret s
theorem aJ8 {P:Program}{c:Code}{s:St}{Q:Ex->St->Prop}(I:Nat->St->Prop) (h0: ∃(k:uR) (n:Nat),I n (s.keep k))
  (h: ∀n s,I n s->Ev R P c s (fun e s'=>match e with| .normal=> ∃(k:uR) (m:Nat),m<n/\I m (s'.keep k) |e=>Q e s')):Ev R P (.loop c) s Q:=by
 intro ro hro A L g0 w0 g a w B hB hr hg hn;obtain⟨k,n0,h0⟩:=h0;obtain⟨g1,k1,k2,k3,_⟩:=BH hr hg hn k
 let R:Act->pB->Nat->Prop:=fun a w n=> ∃g s,I n s/\tP B g w s a/\sJ A L g0 w0 g w s.H/\s.np=L.length
 refine wpIn_loop (fun a w=> ∃n,R a w n) (fun a w=>NI (R a w)) ⟨_,g1,s.keep k,h0,k1,k2,k3⟩ (fun a w hI=> ?_);obtain⟨⟨g2,s2,i1,i3,i4,i5⟩,_⟩:=T7 hI;refine aR6 (h _ s2 i1 ro hro A L g0 w0 g2 a w B hB i3 i4 i5) fun e a' w' hp=> ?_;obtain⟨e',g',s',h1,h2,h3,h4,h5⟩:=hp;cases e<;>simp only[CL,aQE] at h1
 case normal=>
  subst h1;obtain⟨k',m,j1,j2⟩:=h2;obtain⟨g3,l1,l2,l3,_⟩:=BH h3 h4 h5 k';have hR:R a' w' m:=⟨g3,s'.keep k',j2,l1,l2,l3⟩;exact⟨⟨_,hR⟩,Nat.lt_of_le_of_lt ((T7 ⟨_,hR⟩).2 _ hR) j1⟩
 case exit id=>subst h1;exact⟨.exit id,g',s',rfl,h2,h3,h4,h5⟩
 case ret=>subst h1;exact⟨.ret,g',s',rfl,h2,h3,h4,h5⟩
 all_goals cases h1
theorem sC {P:Program}{c:Code}{s:St}{Q:Ex->St->Prop}{σ ρ:Type}{f:σ->Option (σ⊕ρ)}{x0:σ}{y:ρ}(hy:rF f x0=some y) (enc:σ->St) (k:uR) (h0:s.keep k=enc x0)
  (round: ∀x w n,f x=some w->Nxt f y n w->Ev R P c (enc x) (qL enc f y n Q)):Ev R P (.loop c) s Q:=by
 obtain⟨n,hn⟩:=T9 hy;refine aJ8 (fun n s=> ∃x,s=enc x/\iter f n x=some y) ⟨k,n,x0,h0,hn⟩ fun n s ⟨x,e,hx⟩=> ?_;subst e;cases n with
 |zero=>cases hx
 |succ n=>
  unfold iter at hx;refine aJ3 (Q':=qL enc f y n Q) ?_ (fun e s' hq=> ?_)
  .split at hx
   .cases hx
   .rename_i x' e;exact round x _ n e hx
   .rename_i r e;exact round x _ n e (aQH hx)
  .cases e with
   |normal=>obtain⟨k,x',h1,h2⟩:=hq;exact⟨k,n,oW,x',h1,h2⟩
   |exit j=>exact hq
   |ret=>exact hq
def qX (j:Nat) (X:St->Prop) (Q:Ex->St->Prop):Ex->St->Prop
 | .normal,s=>Q .normal s
 | .exit i,s=>if i=j then∃k:uR,X (s.keep k) else Q (.exit i) s
 | .ret,s=>Q .ret s
theorem sE {P:Program}{c:Code}{s:St}{Q:Ex->St->Prop}(j:Nat) (X:St->Prop) (h:Ev R P c s (qX j X Q)) (J: ∀s',X s'->Q (.exit j) s'):Ev R P c s Q:=by
 intro ro hro A L g0 w0 g a w B hB hr hg hn;refine aR6 (h ro hro A L g0 w0 g a w B hB hr hg hn) fun x a' w' hp=> ?_;obtain⟨e,g',s',h1,h2,h3,h4,h5⟩:=hp;cases e with
 |normal=>exact⟨.normal,g',s',h1,h2,h3,h4,h5⟩
 |ret=>exact⟨.ret,g',s',h1,h2,h3,h4,h5⟩
 |exit i=>
  have h2:(if i=j then∃k:uR,X (s'.keep k) else Q (.exit i) s'):=h2;by_cases hij:i=j
  .rw[aQI hij] at h2;obtain⟨k,hk⟩:=h2;obtain⟨g1,k1,k2,k3,_⟩:=BH h3 h4 h5 k;exact⟨.exit i,g1,s'.keep k,h1,by rw[hij];exact J _ hk,k1,k2,k3⟩
  .rw[aQO hij] at h2;exact⟨.exit i,g',s',h1,h2,h3,h4,h5⟩
section
variable {Q:Ex->St->Prop}{s:St}{j i:Nat}{X:St->Prop}{σ ρ:Type}{enc:σ->St}{f:σ->Option (σ⊕ρ)}{y:ρ}{n:Nat}
theorem tQ (h:Q .ret s):qX j X Q .ret s:=h
theorem s9 (h: ∃k:uR,X (s.keep k)):qX j X Q (.exit j) s:=by show (if j=j then _ else _);rw[aQI rfl];exact h
theorem rT (h: ∃(k:uR) (x:σ),s.keep k=enc x/\iter f n x=some y):qL enc f y n Q .normal s:=h
theorem sA (h:Q (.exit j) s):qL enc f y n Q (.exit j) s:=h
theorem tM (h:Q .ret s):qL enc f y n Q .ret s:=h
end
def qN (X:St->Prop) (Q:Ex->St->Prop):Ex->St->Prop
 | .normal,s=> ∃k:uR,X (s.keep k)
 | .exit j,s=>Q (.exit j) s
 | .ret,s=>Q .ret s
theorem vF {P:Program}{c:Code}{s:St}{Q:Ex->St->Prop}(X:St->Prop) (h:Ev R P c s (qN X Q)) (J: ∀s',X s'->Q .normal s'):Ev R P c s Q:=by
 intro ro hro A L g0 w0 g a w B hB hr hg hn;refine aR6 (h ro hro A L g0 w0 g a w B hB hr hg hn) fun x a' w' hp=> ?_;obtain⟨e,g',s',h1,h2,h3,h4,h5⟩:=hp;cases e with
 |exit j=>exact⟨.exit j,g',s',h1,h2,h3,h4,h5⟩
 |ret=>exact⟨.ret,g',s',h1,h2,h3,h4,h5⟩
 |normal=>
  obtain⟨k,hk⟩:=h2;obtain⟨g1,k1,k2,k3,_⟩:=BH h3 h4 h5 k;exact⟨.normal,g1,s'.keep k,h1,J _ hk,k1,k2,k3⟩
section
variable {Q:Ex->St->Prop}{s:St}{j:Nat}{X:St->Prop}
theorem sB (h: ∃k:uR,X (s.keep k)):qN X Q .normal s:=h
theorem aBC (h:Q .ret s):qN X Q .ret s:=h
end
def val {ρ:Type}[Inhabited ρ] (x:Option ρ):ρ:=x.getD default
theorem r8 {ρ:Type}[Inhabited ρ] {x:Option ρ}{y:ρ}(h:x=some y):val x=y:=by rw[h];rfl
theorem pZ {ρ:Type}{x:Option ρ}{y:ρ}(h:x=some y):x.isSome=true:=by rw[h];rfl
theorem pP {ρ:Type}{c:Prop}[Decidable c] {x:Option ρ}{r:ρ}(h:(if c then x else none)=some r):c/\x=some r:=by
 by_cases hc:c
 .rw[aQI hc] at h;exact⟨hc,h⟩
 .rw[aQO hc] at h;cases h
theorem r9 {σ ρ:Type}{x:Option σ}{k:σ->Option ρ}{r:ρ}(h:x.bind k=some r): ∃y,x=some y/\k y=some r:=by
 cases x with
 |none=>cases h
 |some y=>exact⟨y,rfl,h⟩
theorem aJ9 {ρ:Type}{b:Bool}{x y:ρ}{r:ρ}(h:(if b=true then x else y)=r) (hb:b=true):x=r:=by rw[aQI hb] at h;exact h
theorem aKa {ρ:Type}{b:Bool}{x y:ρ}{r:ρ}(h:(if b=true then x else y)=r) (hb:b=false):y=r:=by rw[hb,aQO oX] at h;exact h
def sR {σ ρ:Type}(x:Option (σ⊕ρ)) (k:σ->Option ρ):Option ρ:=x.bind fun y=>match y with
 | .inl v=>k v
 | .inr r=>some r
theorem tN {σ ρ:Type}{x:Option (σ⊕ρ)}{k:σ->Option ρ}{r:ρ}(h:sR x k=some r): ∃y,x=some y/\(match y with| .inl v=>k v| .inr r=>some r)=some r:=r9 h
def sG {σ ρ:Type}(x:Option σ) (k:σ->Option ρ):Option ρ:=x.bind k
def aBD {σ ρ:Type}(x:σ) (k:σ->ρ):ρ:=k x
theorem aKb {σ ρ:Type}{x:σ}{k:σ->ρ}{r:ρ}(h:aBD x k=r): ∃y,x=y/\k y=r:=⟨x,rfl,h⟩
theorem rI {x:Bool}(h:x=true):(x==true)=true:=by rw[h];rfl
theorem KD {G x:Bool}(hG:G=true) (h:x=true):(G&&(x==true))=true:=by rw[hG,h];rfl
theorem CN {G x:Bool}(hG:G=true) (h:x=false):(G&&(x==false))=true:=by rw[hG,h];rfl
theorem rU {x:Bool}(h:x=false):(x==false)=true:=by rw[h];rfl
section
variable {P:Program}{T:rW}{Γ:sP}(E:qM P T Γ) {s:St}{Q:Ex->St->Prop}
include E
theorem aBE {id:Nat}{ops:Array Oper}{a:tZ}(h:tC T Γ ops.toList ops.toList (some ⟨s,[],[]⟩)=some a) (hp:qI a.side) (hq:Q .normal a.s):Ev R P (.region id ops false) s Q:=
 aBt E.T E.Γ E.m (aH3 h hp hq)
theorem aBF {id:Nat}{ops:Array Oper}{a:tZ}(h:tC T Γ ops.toList ops.toList (some ⟨s,[],[]⟩)=some a) (hf:CG ops s.nb a.es.reverse=true) (hp:qI a.side) (hq:Q .normal a.s):Ev R P (.region id ops true) s Q:=
 aBt E.T E.Γ E.m (aH4 h hf hp hq)
end
end Go.Proofs.YtkpflnijijccpaaGreatDoor.Vc
