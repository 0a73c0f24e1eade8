import Derived.Laws.BytesArg
import Derived.Lib.AppendStr
import Derived.MapKept
import Derived.OrdersIn
import Derived.RangeFuncLeaves
import Derived.RangeFuncNested
import Derived.Scope
import Derived.Test.YtedimeeleabhnaaGreatDoorV00
set_option linter.all false
set_option maxRecDepth 100000
set_option maxHeartbeats 4000000
namespace Go.Proofs.YtedimeeleabhnaaGreatDoor.Vc
open Go.RowKit
def FC:Ty->TypeDesc
 | .int k=> .int k
 | .str=> .string
 |_=> .bool
theorem a7P {P:Program}{t:TypeId}{ti:TI}(h:sY P t ti) (hk:tN ti.ty=true):P.underlying t=some (FC ti.ty):=by
 have j:=h.2;unfold xO at j;obtain⟨ty,el,by',ar,ls⟩:=ti;cases ty<;>simp only[tN,aOT] at hk<;>exact j
theorem a7Q {g:Gh}{w:pZ}{k:Ty}(hk:tN k=true) {a x:k.den}{v u:qA}(ha:sS g w k a v) (j:sS g w k x u):Instr.sameNow (FC k) v u=some (wG k a x)/\(wG k a x=true->u=v):=by
 cases k with
 |int k=>
  rw[vK ha,vK j];simp only[FC,Instr.sameNow,aPl,wG];refine⟨?_,λh=>?_⟩
  .congr 1
  .rw[aO3 h]
 |str=>
  rw[xX ha,xX j];simp only[FC,Instr.sameNow,wG];refine⟨?_,λh=>?_⟩
  .congr 1;rw[aOE,MapKept.bytes_beq,aOt];constructor
   .intro h;have:=aOI (λz:ByteArray=>z.data.toList) h;simpa using this
   intro h;rw[h]
  .rw[aO3 h]
 |bool=>
  rw[vT ha,vT j];simp only[FC,Instr.sameNow,wG];refine⟨trivial,λh=>?_⟩;rw[aP2.1 h]
 |_=>simp [tN] at hk
theorem pl {s t:Ty}(h:(tN (.pair s t)||CQ (.pair s t))=true):tN s=true/\CQ t=true:=by
 replace h:(false||(tN s&&CQ t))=true:=h
 rwa [Bool.false_or,aOo] at h
theorem pm: ∀{t:Ty},(tN t||CQ t)=true->∀a b:t.den,∃c,zQ t a b=some c/\(c=true->a=b)
 | .bool,_,a,b=>⟨_,rfl,λh=>by simpa using h⟩
 | .int _,_,a,b=>⟨_,rfl,λh=>aO3 h⟩
 | .str,_,a,b=>⟨_,rfl,λh=>aO3 h⟩
 | .unit,_,_,_=>⟨_,rfl,λ_=>rfl⟩
 | .pair s t,h,a,b=>by
  replace h:=pl h;obtain⟨c,E,D⟩:=pm (t:=s) (by rw[h.1];rfl) a.1 b.1;obtain⟨d,z,j⟩:=pm (t:=t) (by rw[h.2];simp) a.2 b.2;refine⟨c&&d,by simp only[zQ,E,z,zQ.eqAnd],λh=>?_⟩;rw[aOo] at h;exact Prod.ext (D h.1) (j h.2)
theorem pn {g:Gh}{w:pZ}: ∀{t:Ty},(tN t||CQ t)=true->∀{x:t.den}{c d:pV},Rd g w t x c->Rd g w t x d->c=d
 | .bool,_,_,_,_,h,k=>h.trans k.symm
 | .int _,_,_,_,_,h,k=>h.trans k.symm
 | .str,_,_,_,_,h,k=>h.trans k.symm
 | .unit,_,_,_,_,h,k=>h.trans k.symm
 | .pair s t,h,_,_,_,⟨a1,a2,e1,z,j⟩,⟨b1,b2,e2,k1,k2⟩=>by
  replace h:=pl h;rw[e1,e2,pn (t:=s) (by rw[h.1];rfl) z k1,pn (t:=t) (by rw[h.2];simp) j k2]
theorem po {g:Gh}{w:pZ}: ∀{t:Ty},(tN t||CQ t)=true->∀{x:t.den}{c:pV},Rd g w t x c->∀v∈c,∀n,Instr.sameBits n v v=true
 | .bool,_,_,_,h,v,hv,n=>by rw[show _=_ from h] at hv;simp at hv;subst hv;cases n<;>simp [Instr.sameBits]
 | .int _,_,_,_,h,v,hv,n=>by rw[show _=_ from h] at hv;simp at hv;subst hv;cases n<;>simp [Instr.sameBits]
 | .str,_,_,_,h,v,hv,n=>by rw[show _=_ from h] at hv;simp at hv;subst hv;cases n<;>simp [Instr.sameBits,MapKept.bytes_beq]
 | .unit,_,_,_,h,v,hv,n=>by rw[show _=_ from h] at hv;simp at hv
 | .pair s t,h,_,_,⟨a1,a2,e1,z,j⟩,v,hv,n=>by
  replace h:=pl h;subst e1;rcases aOR.1 hv with hv|hv
  .exact po (t:=s) (by rw[h.1];rfl) z v hv n
  exact po (t:=t) (by rw[h.2];simp) j v hv n
theorem a7R {P:Program}{h:Nat}{t:TypeId}{ty:Ty}(hb:tN ty=true) (e:xD P h (.ty t) ty):P.underlying t=some (FC ty):=by
 cases e<;>first|assumption|(simp [tN,Ty.isRow] at*;done) |(cases ty<;>simp [tN,Ty.isRow] at*)
theorem Fg {P:Program}{w:pZ}{t:TypeId}{k:Ty}(hb:tN k=true) (j:P.underlying t=some (FC k)) (em:Bool) (n:Nat) (v:qA):(Instr.checkKey em (n+1) t v).run P w= .ok () w:=by
 unfold Instr.checkKey;simp only[aOr,aOC j,aOl];cases k<;>simp [tN] at hb<;>rfl
theorem Fh {P:Program}{g:Gh}{w:pZ}{h:Nat}(em:Bool) (n:Nat): ∀{ty:Ty}{fs:List Field}{o:Nat},CQ ty=true->xD P h (.fs o fs) ty->∀(px cx:pV) (x:ty.den),px.length=o->Rd g w ty x cx->
  (forIn fs () (fun(f:Field) (_:Unit)=>(do if f.name≠ "_" then Instr.checkKey em (n+1) f.type (<-part f.type (px++cx).toArray f.offset)
                                           pure (ForInStep.yield ()):Sem (ForInStep Unit)))).run P w= .ok () w
 | .unit,fs,o,_,e,px,cx,x,_,_=>by
  cases e;simp
 | .pair a b,fs,o,hk,e,px,cx,x,hpx,⟨x1,x2,ex,rx1,rx2⟩=>by
  cases e with
  | @cons _ _ f r _ _ hn ho hsz hrow ea eb=>
   replace hk:(tN a&&CQ b)=true:=hk;rw[aOo] at hk;subst ex;obtain⟨vx,p1,v1⟩:=RK (P:=P) (c1:=px) (c3:=x2) hsz hrow rx1;have c1:=Fg (w:=w) hk.1 (a7R hk.1 ea) em n vx;have ih:=Fh em n (ty:=b) hk.2 eb (px++x1) x2 x.2 (by rw[aOg,hpx,sU rx1]) rx2;rw[aOk] at p1;rw[aOk] at ih;rw[hpx,<-ho] at p1;simp only[List.forIn_cons,aOr,hn,ne_eq,not_false_eq_true,aPl,aOl,p1,c1,aOD];exact ih
theorem Fi {P:Program}{t:TypeId}{kt:TI}(h:sY P t kt) (hk:DS kt.ty=true) (hb:JD kt=true):(tN kt.ty=true/\P.underlying t=some (FC kt.ty))\/(CQ kt.ty=true/\kt.ty.isRow=true/\∃fs,P.underlying t=some (.struct fs)/\P.stoodInHeld t=false/\∃h,h<9000/\xD P (h+1) (.ty t) kt.ty/\xD P h (.fs 0 fs.toList) kt.ty):=by
 obtain⟨ty,el,by',ar,ls⟩:=kt;cases ty with
 |pair a b=>
  refine .inr ⟨hk,rfl,?_⟩;simp only[JD,aOo,aOt,aO1] at hb;obtain⟨rfl,rfl⟩:=hb;have G:=h.2;unfold xO at G;obtain⟨D,I⟩:=G;obtain⟨_,M,K,hE⟩:=I rfl;rcases D with⟨_,fs,z,_⟩ |⟨D,_⟩
  .refine⟨fs,z,?_⟩;have E:=hE;cases hE with
   |struct hr j F hf=>
    rw[z] at j;obtain rfl:=TypeDesc.struct.inj (aOj j);exact⟨F,_,pN,E,hf⟩
   |arr hr j F hf=>
    rw[z] at j;cases j
  .cases D
 |_=>first|(simp [DS] at hk;done) |exact .inl ⟨rfl,a7P h rfl⟩
theorem pq {P:Program}{g:Gh}{w:pZ}{t:TypeId}{kt:TI}(h:sY P t kt) (hk:DS kt.ty=true) (hb:JD kt=true) {x:kt.ty.den}{v:qA}(D:sS g w kt.ty x v) (em:Bool):(Instr.checkKey em 10000 t v).run P w= .ok () w:=by
 rcases Fi h hk hb with⟨z,j⟩ |⟨z,j,fs,E,_,G,_,_,hf⟩
 .exact Fg z j em 9999 v
 obtain⟨cs,rfl,F⟩:=DY j D;have:=Fh (w:=w) em 9998 z hf [] cs x rfl F;rw[show (10000:Nat)=9999+1 from rfl,Instr.checkKey];simp only[aOr,aOC E,aOl];rw[<-Array.forIn_toList];simp at this|-;exact(aOI (λr=>Result.andThen r _) this).trans rfl
theorem a7S {P:Program}{g:Gh}{w:pZ}{t:TypeId}{kt:TI}(hk:DS kt.ty=true) (hp:CQ kt.ty=true) (hr:kt.ty.isRow=true) {n:Nat}(I:n<9500) (hE:xD P n (.ty t) kt.ty) {a x:kt.ty.den}{v u:qA}(ha:sS g w kt.ty a v) (z:sS g w kt.ty x u):(Op.equal t v u).run P w= .ok (wG kt.ty a x) w/\(wG kt.ty a x=true->u=v):=by
 obtain⟨b,j,E⟩:=hE.run (g:=g) (w:=w) 9999 pN a x v u ha z;have F:wG kt.ty a x=b:=by
  revert hk hr j;clear ha z hE E;generalize kt.ty=ty at a x;cases ty<;>intro hk hr j<;>first|(simp [DS] at hk;done) |(simp [Ty.isRow] at hr;done) |(simp [wG,j])
 rw[F];refine⟨E,λhb=>?_⟩;obtain⟨c,D,G⟩:=pm (by rw[hp];simp) a x;rw[j] at D;obtain rfl:=aOj D;obtain rfl:=G hb;obtain⟨c1,rfl,r1⟩:=DY hr ha;obtain⟨c2,rfl,r2⟩:=DY hr z;rw[pn (by rw[hp];simp) r1 r2]
theorem Fj {P:Program}{g:Gh}{w:pZ}{t:TypeId}{k v:Ty}{a:k.den}{key:qA}(F: ∀x u,sS g w k x u->(Op.equal t key u).run P w= .ok (wG k a x) w/\(wG k a x=true->u=key)) (ha:sS g w k a key): ∀{l:List (k.den×v.den)}{es:List MapEntry}(i:Nat),xN g w k v l es->
  (w5 k v l a=false->(Instr.findAsking t key es i).run P w= .ok none w/\sC k v l a=v.zero/\∀b val born,sS g w v b val->xN g w k v (rN k v a b l) (es++[⟨key,val,born⟩]))/\
  (w5 k v l a=true->∃j e,es[j]? =some e/\(Instr.findAsking t key es i).run P w= .ok (some (i+j,e.val)) w/\sS g w v (sC k v l a) e.val/\e.key=key/\∀b val,sS g w v b val->xN g w k v (rN k v a b l) (es.modify j λe=>{e with key:=key,val:=val}))
 |[],es,i,h=>by
  rw[show es=[] from h];exact⟨λ_=>⟨rfl,rfl,λb val born hb=>⟨_,[],rfl,ha,hb,rfl⟩⟩,λh=>by simp [w5] at h⟩
 |(x,y)::l,_,i,⟨e,es',rfl,E,D,G⟩=>by
  obtain⟨s1,s2⟩:=F x e.key E;cases z:wG k a x with
  |true=>
   rw[z] at s1;refine⟨λh=>by simp [w5,z] at h,λ_=>⟨0,e,rfl,?_,?_,s2 z,λb val hb=>?_⟩⟩
   .simp only[Instr.findAsking,aOr,s1,aOl,aPl,aOD,aPm]
   .simp only[sC,z,aPl];exact D
   .simp only[rN,z,aPl];exact⟨_,es',rfl,ha,hb,G⟩
  |false=>
   rw[z] at s1;obtain⟨f1,f2⟩:=Fj (v:=v) F ha (i+1) G;refine⟨λh=>?_,λh=>?_⟩
   .simp only[w5,z] at h;obtain⟨g1,g2,g3⟩:=f1 aQe;refine⟨by simp only[Instr.findAsking,aOr,s1,aOl,aOT,aPq];exact g1,by simp only[sC,z];simpa using g2,λb val born hb=>?_⟩;simp only[rN,z];exact⟨e,_,rfl,E,D,g3 b val born hb⟩
   simp only[w5,z] at h;obtain⟨j,e',g1,g2,g3,g4,g5⟩:=f2 aQe;refine⟨j+1,e',by simpa using g1,by simp only[Instr.findAsking,aOr,s1,aOl,aOT,aPq];rw[g2];congr 3;omega,by simp only[sC,z];simpa using g3,g4,λb val hb=>?_⟩;simp only[rN,z];exact⟨e,_,rfl,E,D,g5 b val hb⟩
theorem Fk {g:Gh}{w:pZ}{k v:Ty}(hk:tN k=true) {a:k.den}{key:qA}(ha:sS g w k a key): ∀{l:List (k.den×v.den)}{es:List MapEntry}(i:Nat),xN g w k v l es->
  (w5 k v l a=false->Instr.findNow (FC k) key es i=some none/\sC k v l a=v.zero/\∀b val born,sS g w v b val->xN g w k v (rN k v a b l) (es++[⟨key,val,born⟩]))/\
  (w5 k v l a=true->∃j e,es[j]? =some e/\Instr.findNow (FC k) key es i=some (some (i+j,e.val))/\sS g w v (sC k v l a) e.val/\e.key=key/\∀b val,sS g w v b val->xN g w k v (rN k v a b l) (es.modify j λe=>{e with key:=key,val:=val}))
 |[],es,i,h=>by
  rw[show es=[] from h];exact⟨λ_=>⟨rfl,rfl,λb val born hb=>⟨_,[],rfl,ha,hb,rfl⟩⟩,λh=>by simp [w5] at h⟩
 |(x,y)::l,_,i,⟨e,es',rfl,E,D,F⟩=>by
  obtain⟨s1,s2⟩:=a7Q hk ha E;cases z:wG k a x with
  |true=>
   rw[z] at s1;refine⟨λh=>by simp [w5,z] at h,λ_=>⟨0,e,rfl,?_,?_,s2 z,λb val hb=>?_⟩⟩
   .simp only[Instr.findNow,s1,aPm]
   .simp only[sC,z,aPl];exact D
   .simp only[rN,z,aPl];exact⟨_,es',rfl,ha,hb,F⟩
  |false=>
   rw[z] at s1;obtain⟨f1,f2⟩:=Fk (v:=v) hk ha (i+1) F;refine⟨λh=>?_,λh=>?_⟩
   .simp only[w5,z] at h;obtain⟨g1,g2,g3⟩:=f1 aQe;refine⟨by simp only[Instr.findNow,s1];exact g1,by simp only[sC,z];simpa using g2,λb val born hb=>?_⟩;simp only[rN,z];exact⟨e,_,rfl,E,D,g3 b val born hb⟩
   simp only[w5,z] at h;obtain⟨j,e',g1,g2,g3,g4,g5⟩:=f2 aQe;refine⟨j+1,e',by simpa using g1,by simp only[Instr.findNow,s1];rw[g2];congr 3;omega,by simp only[sC,z];simpa using g3,g4,λb val hb=>?_⟩;simp only[rN,z];exact⟨e,_,rfl,E,D,g5 b val hb⟩
theorem pr {P:Program}{g:Gh}{w:pZ}{t:TypeId}{kt:TI}(h:sY P t kt) (hk:DS kt.ty=true) (hb:JD kt=true) {v:Ty}{a:kt.ty.den}{key:qA}(ha:sS g w kt.ty a key) {l:List (kt.ty.den×v.den)}{es:List MapEntry}(F:xN g w kt.ty v l es):
  (w5 kt.ty v l a=false->(Instr.findKey t key es).run P w= .ok none w/\sC kt.ty v l a=v.zero/\∀b val born,sS g w v b val->xN g w kt.ty v (rN kt.ty v a b l) (es++[⟨key,val,born⟩]))/\
  (w5 kt.ty v l a=true->∃j e,es[j]? =some e/\(Instr.findKey t key es).run P w= .ok (some (j,e.val)) w/\sS g w v (sC kt.ty v l a) e.val/\e.key=key/\∀b val,sS g w v b val->xN g w kt.ty v (rN kt.ty v a b l) (es.modify j λe=>{e with key:=key,val:=val})):=by
 rcases Fi h hk hb with⟨E,D⟩ |⟨E,D,fs,I,_,K,M,hE,_⟩
 .obtain⟨f1,f2⟩:=Fk (v:=v) E ha 0 F;have go: ∀{q},Instr.findNow (FC kt.ty) key es 0=some q->(Instr.findKey t key es).run P w= .ok q w:=by
   intro q z;unfold Instr.findKey;simp only[aOr,aOC D,aOl,z,aOD]
  refine⟨λq=>?_,λq=>?_⟩
  .obtain⟨g1,g2,g3⟩:=f1 q;exact⟨go g1,g2,g3⟩
  obtain⟨j,e,g1,g2,g3,g4,g5⟩:=f2 q;rw[aOO] at g2;exact⟨j,e,g1,go g2,g3,g4,g5⟩
 obtain⟨f1,f2⟩:=Fj (P:=P) (t:=t) (v:=v) (λx u G=>a7S hk E D (n:=K+1) pN hE ha G) ha 0 F;have go: ∀{q},(Instr.findAsking t key es 0).run P w= .ok q w->(Instr.findKey t key es).run P w= .ok q w:=by
  intro q z;unfold Instr.findKey;simp only[aOr,aOC I,aOl];cases es with
  |nil=>simpa[Instr.findNow,Instr.findAsking,aOD] using z
  |cons e es=>simp only[Instr.findNow,Instr.sameNow];exact z
 refine⟨λq=>?_,λq=>?_⟩
 .obtain⟨g1,g2,g3⟩:=f1 q;exact⟨go g1,g2,g3⟩
 obtain⟨j,e,g1,g2,g3,g4,g5⟩:=f2 q;rw[aOO] at g2;exact⟨j,e,g1,go g2,g3,g4,g5⟩
theorem a7T {g:Gh}{w:pZ}{k:Ty}(hk:DS k=true) {x:k.den}{v:qA}(h:sS g w k x v):Instr.sameBits 10000 v v=true:=by
 cases k with
 |int k=>rw[vK h];simp [Instr.sameBits]
 |str=>rw[xX h];simp [Instr.sameBits,MapKept.bytes_beq]
 |bool=>rw[vT h];simp [Instr.sameBits]
 |pair s t=>
  obtain⟨cs,rfl,z⟩:=DY rfl h;have hb:=po (by rw[show CQ (.pair s t)=true from hk];simp) z;simp only[Instr.sameBits,beq_self_eq_true,Bool.true_and,aPh];intro p hp;obtain⟨u,v⟩:=p;obtain⟨i,D,j⟩:=aPD hp;simp only[List.getElem_zip,aOJ] at j;obtain⟨rfl,rfl⟩:=j;exact hb _ (aOm _) 9999
 |_=>simp [DS] at hk
def MI (ok:Bool) (z:qA):Option (Nat×qA)->qA
 |some (_,v)=>if ok then .tuple #[v,.bool true] else v
 |none=>if ok then .tuple #[z,.bool false] else z
section
variable {P:Program}{o:Oper}{a:Act}{g:Gh}{w:pZ}{H:sA}{T:sJ}(hT:w6 P T) (hH:sM g w H)
include hT hH
theorem sE.newMap {side:List Prop}{rds:pY}{base:Nat}{k v:Ty}(hf:g.J base=none) (Q:g.cur base=λ_=>none):
  sE g w H ⟨side,(.val .mp (some base),none),[(base,.map k v [])],rds⟩ (g.var base w.heap.size none) (w.alloc (.map #[] 0)) (.map (some w.heap.size)):=by
 have D:(g.var base w.heap.size none).J base=some ⟨w.heap.size,0,none⟩:=by simp [Gh.var]
 have le:Le g w (g.var base w.heap.size none) (w.alloc (.map #[] 0)):=⟨λ_ _ h=>h,λb o h=>aOH (a:=⟨b,o,none⟩) (aOK _ _ _ (hH.sl b o h)),λi p h=>by
  show (if i=base then _ else _)=_;rw[aOi (λe1=>by rw[e1,hf] at h;cases h)];exact h,λ_ _ _ h=>h⟩
 have fr:Fr (sX g H (qW [(base,qQ.map k v [])])) w (w.alloc (.map #[] 0)) g.S (g.var base w.heap.size none).S:=
  ⟨rfl,rfl,rfl,by simp,λb hb _=>aOK _ _ _ hb,λb o hb _=>⟨aOH (a:=⟨b,o,none⟩) (aOK _ _ _ hb),aPb (a:=⟨b,o,none⟩) (aOK _ _ _ hb)⟩,λb o h=> .inl h,λb s h=> .inl ((F7 (aOK _ _ _ (F6 h))).trans h)⟩
 have gho: ∀i,i∉qW [(base,qQ.map k v [])]->(g.var base w.heap.size none).J i=g.J i/\(g.var base w.heap.size none).cur i=g.cur i:=λi hi=>⟨by
  show (if i=base then _ else _)=_;rw[aOi (λe1=>hi aQk)],rfl⟩
 have get: ∀i blk,i∈qW [(base,qQ.map k v [])]->qU (rL [(base,qQ.map k v [])] H) i=some blk->i=base/\blk= .map k v []:=by
  intro i blk hi z;simp only[qW,aOs] at hi;subst hi;simp only[rL,qU,aPl,aOf] at z;exact⟨rfl,z.symm⟩
 have perm: ∀i blk b o,i∈qW [(base,qQ.map k v [])]->qU (rL [(base,qQ.map k v [])] H) i=some blk->sD (g.var base w.heap.size none) i blk b o->w.heap.size<=b\/sX g H (qW [(base,qQ.map k v [])]) b o:=by
  intro i blk b o hi z K;obtain⟨rfl,rfl⟩:=get i blk hi z;obtain⟨p,hp,O⟩:=K;rw[D] at hp;obtain rfl:=aOj hp;exact .inl (aPH O.symm)
 refine⟨le,⟨.inr ⟨rfl,_,D,rfl⟩,trivial⟩,hH.upd le fr perm gho (λi blk hi z=>?_) (λi j bi bj b o hi M E G F _ _=>E ((get i bi hi G).1.trans (get j bj M F).1.symm)) (λb o h=>aOS (hH.sl b o h) pP),fr,perm,gho,λi u' y us h=>by
  simp only[rL,qU] at h;split at h
  .cases h
  exact .inl ⟨y,us,h⟩⟩
 obtain⟨rfl,rfl⟩:=get i blk hi z;refine⟨⟨w.heap.size,0,none⟩,#[],0,D,⟨rfl,by simp [JL]⟩,?_,rfl,λo I=>aPO _ (hH.sl _ _ I)⟩;show (w.heap.push (.map #[] 0))[w.heap.size]? =_;rw[aP3]
theorem a7U {t:TypeId}{r:Option Operand}(z:o.op= .makeMap t r) {base:Nat}{e:rA}(hr:mq T base (s4 T t) r=some e) (hf:z6 g base e):rU P o a g w H e:=by
 generalize hst:s4 T t=ot at hr;unfold mq at hr;split at hr
 .rename_i el fl ar ls_;unfold Cv at hr;split at hr
  .split at hr
   .cases hr;have j:=hf base aQl (aOA _);refine rU.value (v:= .map (some w.heap.size)) (w':=w.alloc (.map #[] 0)) ?_ (sE.newMap hT hH j.1 (funext j.2));unfold execOp;rw[z];simp only[Instr.makeMap,aOr,run_newObj,aOl,aOD,Option.map_none];rfl
   cases hr
  cases hr
 cases hr
theorem a7V {xt el fl:TypeId}{ok:Bool}{r:Nat}{es:Array MapEntry}{cl:Nat}{key z res:qA}(hm:P.underlying xt=some (.map el fl)) (hb:w.heap[r]? =some (.map es cl)) (E: ∀em,(Instr.checkKey em 10000 el key).run P w= .ok () w)
  {q:Option (Nat×qA)}(D:(Instr.findKey el key es.toList).run P w= .ok q w) (F:(zeroValue fl).run P w= .ok z w)
  (j:res=MI ok z q):(Instr.lookup xt (.map (some r)) key ok).run P w= .ok res w:=by
 subst j;unfold Instr.lookup;simp only[aOr,aOC hm,aOl,MapKept.run_getObj_map hb,aOD,E,D];cases q with
 |none=>cases ok<;>simp [F,aOr,aOl,MI]
 |some q=>cases ok<;>simp [aOr,aOl,MI]
theorem a7W {xt el fl:TypeId}{ok:Bool}{key z:qA}(hm:P.underlying xt=some (.map el fl)) (D: ∀em,(Instr.checkKey em 10000 el key).run P w= .ok () w) (j:(Instr.findKey el key ([]:List MapEntry)).run P w= .ok none w)
  (E:(zeroValue fl).run P w= .ok z w):(Instr.lookup xt (.map none) key ok).run P w= .ok (MI ok z none) w:=by
 unfold Instr.lookup;simp only[aOr,aOC hm,aOl,aOD,D,j];cases ok<;>simp [E,aOr,aOl,MI,j]
theorem sE.updMap {side:List Prop}{rds:pY}{i:Nat}{k v:Ty}{l l':List (k.den×v.den)}{p:Pl}{es es':Array MapEntry}{cl cl':Nat}(hi:qU H i=some (.map k v l)) (hp:g.J i=some p) (I:p.2=0/\JL es' cl') (hb:w.heap[p.1]? =some (.map es cl)) (X: ∀o,¬g.S p.1 o) (Z:xN g w k v l' es'.toList):
  sE g w H ⟨side,(.any,none),[(i,.map k v l')],rds⟩ g {w with heap:=w.heap.setIfInBounds p.1 (.map es' cl')} undef:=by
 have M:p.1<w.heap.size:=(aOB.1 hb).1;have D: ∀b,b≠p.1->(w.heap.setIfInBounds p.1 (.map es' cl'))[b]? =w.heap[b]? :=λb K=>by rw[aO9 (Ne.symm K)]
 have z: ∀o,sX g H (qW [(i,qQ.map k v l')]) p.1 o:=λo=>⟨i,_,by simp [qW],hi,p,hp,rfl⟩;have le:Le g w g {w with heap:=w.heap.setIfInBounds p.1 (.map es' cl')}:=⟨λ_ _ h=>h,λb o h=>aOH (a:=⟨b,o,none⟩) (D b (λe=>X o (e▸h))),λ_ _ h=>h,λ_ _ _ h=>h⟩
 have fr:Fr (sX g H (qW [(i,qQ.map k v l')])) w {w with heap:=w.heap.setIfInBounds p.1 (.map es' cl')} g.S g.S:=
  ⟨rfl,rfl,rfl,by simp,λb _ G=>D b (λe=>G 0 (e▸z 0)),λb o _ G=>⟨aOH (a:=⟨b,o,none⟩) (D b (λe=>G (e▸z o))),aPb (a:=⟨b,o,none⟩) (D b (λe=>G (e▸z o)))⟩,λb o h=> .inl h,λb s h=>(by
   by_cases e:b=p.1
   .exact .inr λo=>e▸z o
   exact .inl ((F7 (D b e)).trans h))⟩
 have get: ∀j blk,j∈qW [(i,qQ.map k v l')]->qU (rL [(i,qQ.map k v l')] H) j=some blk->j=i/\blk= .map k v l':=by
  intro j blk E F;simp only[qW,aOs] at E;subst E;simp only[rL,qU,aPl,aOf] at F;exact⟨rfl,F.symm⟩
 have perm: ∀j blk b o,j∈qW [(i,qQ.map k v l')]->qU (rL [(i,qQ.map k v l')] H) j=some blk->sD g j blk b o->w.heap.size<=b\/sX g H (qW [(i,qQ.map k v l')]) b o:=by
  intro j blk b o E F Y;obtain⟨rfl,rfl⟩:=get j blk E F;obtain⟨q,V,rfl⟩:=Y;rw[hp] at V;obtain rfl:=aOj V;exact .inr (z o)
 refine⟨le,⟨trivial,trivial⟩,hH.upd le fr perm (λ_ _=>⟨rfl,rfl⟩) (λj blk E F=>?_) (λj j' bi bj b o E O Q U R _ _=>Q ((get j bi E U).1.trans (get j' bj O R).1.symm)) (λb o h=>by simpa using hH.sl b o h),fr,perm,λ_ _=>⟨rfl,rfl⟩,λj u' y us h=>by
  simp only[rL,qU] at h;split at h
  .cases h
  exact .inl ⟨y,us,h⟩⟩
 obtain⟨rfl,rfl⟩:=get j blk E F;exact⟨p,es',cl',hp,I,by simp [aPT,M],VU le Z,X⟩
theorem pu {i:Nat}{k:pX}{v:qA}(h:rZ g w (.val .mp (some i),k) v): ∃p,g.J i=some p/\v= .map (some p.1):=by
 obtain⟨p,j,e⟩:=B9 rfl h.1;simp only[aO5,and_true] at e;exact⟨p,j,e⟩
theorem a7X {t:TypeId}{x y:Operand}{ok:Bool}(Y:o.op= .lookup t x y ok) {sx sy:qP}(X:rZ g w sx (a.eval x)) (Q:rZ g w sy (a.eval y)) {e:rA}(hr:ZU T H ok (s4 T t) sx sy=some e):rU P o a g w H e:=by
 generalize hst:s4 T t=ot at hr;unfold ZU at hr;split at hr
 .rename_i el fl ar ls_ i kk;generalize hk:s4 T el=ok1 at hr;generalize hv:s4 T fl=ok2 at hr;unfold mr at hr;split at hr
  .rename_i kt vt k a' _;split at hr
   .rename_i D;obtain⟨D,F⟩:=D;subst D;unfold ZT at hr;split at hr
    .rename_i k' v' l hb;split at hr
     .rename_i U;obtain⟨rfl,rfl⟩:=U;split at hr
      .rename_i z;obtain⟨p,es,cl,hp,hc,Z,hM,hS⟩:=hH.blk i _ hb;obtain⟨p',O,I⟩:=pu hT hH X;rw[hp] at O;obtain rfl:=aOj O;have hm:=(t7 hT hst).2;simp only[xO] at hm;have E:=t7 hT hk;obtain⟨iv,M,V,K⟩:=HD (t7 hT hv);have R:(zeroValue fl).run P w= .ok (yD vt.ty) w:=by
        simp only[zeroValue,typeInfo,aOr,aPe,M,K,aOl,aOD]
       obtain⟨f1,f2⟩:=pr (v:=vt.ty) E z F Q.1 hM;have go: ∀{q res},(Instr.findKey el (a.eval y) es.toList).run P w= .ok q w->res=MI ok (yD vt.ty) q->(execOp a.eval o).run P w= .ok (.value res) w:=by
        intro q res h1 h2;unfold execOp;rw[Y];simp only[I,aOr,a7V hT hH hm Z (pq E z F Q.1) h1 R h2,aOl,aOD]
       cases G:w5 kt.ty vt.ty l a' with
       |false=>
        obtain⟨g1,g2,_⟩:=f1 G;cases ok with
        |true=>
         cases hr;refine rU.pure hH (v:= .tuple #[yD vt.ty,.bool false]) (go g1 rfl) ?_;simp only[QS,G,g2];exact⟨[_,_],rfl,_,[_],rfl,MG g w _,trivial,_,[],rfl,wA g w false,trivial,rfl⟩
        |false=>
         cases hr;refine rU.pure hH (v:=yD vt.ty) (go g1 rfl) ?_;simp only[QS,g2];exact MG g w _
       |true=>
        obtain⟨j,e',g1,g2,g3,g4,g5⟩:=f2 G;cases ok with
        |true=>
         cases hr;refine rU.pure hH (v:= .tuple #[e'.val,.bool true]) (go g2 rfl) ?_;simp only[QS,G];exact⟨[_,_],rfl,_,[_],rfl,g3,trivial,_,[],rfl,wA g w true,trivial,rfl⟩
        |false=>
         cases hr;refine rU.pure hH (v:=e'.val) (go g2 rfl) ?_;simp only[QS];exact g3
      cases hr
     cases hr
    cases hr
   cases hr
  cases hr
 .rename_i el fl ar ls_ kk;generalize hk:s4 T el=ok1 at hr;generalize hv:s4 T fl=ok2 at hr;unfold Cw at hr;split at hr
  .rename_i kt vt k a' _;split at hr
   .rename_i D;obtain⟨D,F⟩:=D;subst D;split at hr
    .rename_i z;have I:a.eval x= .map none:=by
      have e1:=B9 rfl X.1;simpa[Rd,MB] using e1
     have hm:=(t7 hT hst).2;simp only[xO] at hm;have E:=t7 hT hk;obtain⟨iv,M,V,K⟩:=HD (t7 hT hv);have R:(zeroValue fl).run P w= .ok (yD vt.ty) w:=by
      simp only[zeroValue,typeInfo,aOr,aPe,M,K,aOl,aOD]
     obtain⟨f1,_⟩:=pr (v:=vt.ty) E z F Q.1 (l:=[]) (es:=[]) rfl;have go:(execOp a.eval o).run P w= .ok (.value (MI ok (yD vt.ty) none)) w:=by
      unfold execOp;rw[Y];simp only[I,aOr,a7W hT hH hm (pq E z F Q.1) (f1 rfl).1 R,aOl,aOD]
     cases ok with
     |true=>
      cases hr;exact rU.pure hH (v:= .tuple #[yD vt.ty,.bool false]) go ⟨[_,_],rfl,_,[_],rfl,MG g w _,trivial,_,[],rfl,wA g w false,trivial,rfl⟩
     |false=>
      cases hr;exact rU.pure hH (v:=yD vt.ty) go (MG g w _)
    cases hr
   cases hr
  cases hr
 cases hr
omit hT hH in
theorem Fl {T:sJ}{ti:Option TI}{s:qP}{v:qA}(h:rZ g w s v):rZ g w (ZW T ti s) v:=by
 unfold ZW;split
 .unfold Cx;split
  .rename_i f x _;refine⟨.inr ⟨rfl,?_⟩,trivial⟩;rcases h.1 with⟨z,_⟩ |⟨z,vs,D,j⟩
   .cases z
   rw[show vs=[] from D] at j;exact j
  exact h
 exact h
theorem Fm {t:TypeId}{m x y:Operand}(E:o.op= .mapUpdate t m x y\/o.op= .insert t m x y) {sm sx sy:qP}(hm:rZ g w sm (a.eval m)) (V:rZ g w sx (a.eval x)) (Y:rZ g w sy (a.eval y)) {e:rA}(hr:R6 T H (s4 T t) sm sx sy=some e):rU P o a g w H e:=by
 generalize hst:s4 T t=ot at hr;unfold R6 at hr;split at hr
 .rename_i el fl ar ls_ i kk;generalize hk:s4 T el=ok1 at hr;unfold ZV at hr;split at hr
  .rename_i kt k a' _ u b _;split at hr
   .rename_i G;obtain⟨G,R⟩:=G;subst G;unfold R5 at hr;split at hr
    .rename_i k' v' l hb;split at hr
     .rename_i X;obtain⟨rfl,rfl⟩:=X;split at hr
      .rename_i z;cases hr;obtain⟨p,es,cl,hp,D,I,hM,Z⟩:=hH.blk i _ hb;obtain⟨p',O,K⟩:=pu hT hH hm;rw[hp] at O;obtain rfl:=aOj O;have F:=(t7 hT hst).2;simp only[xO] at F;have M:=t7 hT hk;have U:=pq M z R V.1 false;obtain⟨f1,f2⟩:=pr (v:=u) M z R V.1 hM;cases Q:w5 kt.ty u l a' with
       |false=>
        obtain⟨g1,_,g3⟩:=f1 Q;refine rU.skip (w':={w with heap:=w.heap.setIfInBounds p.1 (.map (es.push ⟨a.eval x,a.eval y,cl⟩) (cl+1))}) ?_ (sE.updMap hT hH hb hp ⟨D.1,a6Z D.2 _ _⟩ I Z ?_)
        .unfold execOp;rcases E with E|E<;>rw[E]<;>
          simp only[Instr.mapUpdate,K,aOr,aOC F,aOl,MapKept.run_getObj_map I,U,g1,MapKept.run_setObj_map _ I,aOD]
        .simp only[QS,Array.toList_push];exact g3 b _ _ Y.1
       |true=>
        obtain⟨j,e',g1,g2,g3,g4,g5⟩:=f2 Q;refine rU.skip (w':={w with heap:=w.heap.setIfInBounds p.1 (.map (es.modify j λe=>{e with key:=a.eval x,val:=a.eval y}) cl)}) ?_ (sE.updMap hT hH hb hp ⟨D.1,a60 D.2 _ _ λ_=>rfl⟩ I Z ?_)
        .have hj:es[j]? =some e':=by rw[<-aPJ];exact g1
         unfold execOp;rcases E with E|E<;>rw[E]<;>
          simp only[Instr.mapUpdate,K,aOr,aOC F,aOl,MapKept.run_getObj_map I,U,g2,hj,Option.map_some,aP9,g4,Instr.keyThatStays,a7T z V.1,aPl,MapKept.run_setObj_map _ I,aOD]
        simp only[QS,Array.toList_modify];exact g5 b _ Y.1
      cases hr
     cases hr
    cases hr
   cases hr
  cases hr
 cases hr
end
theorem Fn {P:Program}{w:pZ}{r:Nat}{s:ByteArray}{n:Nat}(hb:w.heap[r]? =some (.stringIter s n)):(getObj r).run P w= .ok (.stringIter s n) w:=by
 simp [getObj,Sem.run,hb]
theorem a7Y {P:Program}{w:pZ}{r:Nat}{s:ByteArray}{n:Nat}(o:Obj) (hb:w.heap[r]? =some (.stringIter s n)):(setObj r o).run P w= .ok () {w with heap:=w.heap.setIfInBounds r o}:=by
 simp [setObj,Sem.run,hb]
section
variable {P:Program}{o:Oper}{a:Act}{g:Gh}{w:pZ}{H:sA}{T:sJ}(hT:w6 P T) (hH:sM g w H)
include hT hH
theorem sE.newIter {side:List Prop}{rds:pY}{base:Nat}{s:pJ}(hf:g.J base=none) (Q:g.cur base=λ_=>none):
  sE g w H ⟨side,(.val .ref (some (base,0)),none),[(base,.iter s 0)],rds⟩ (g.var base w.heap.size none) (w.alloc (.stringIter ⟨s.toArray⟩ 0)) (.pointer (some ⟨w.heap.size,0,none⟩)):=by
 have D:(g.var base w.heap.size none).J base=some ⟨w.heap.size,0,none⟩:=by simp [Gh.var]
 have le:Le g w (g.var base w.heap.size none) (w.alloc (.stringIter ⟨s.toArray⟩ 0)):=⟨λ_ _ h=>h,λb o h=>aOH (a:=⟨b,o,none⟩) (aOK _ _ _ (hH.sl b o h)),λi p h=>by
  show (if i=base then _ else _)=_;rw[aOi (λe1=>by rw[e1,hf] at h;cases h)];exact h,λ_ _ _ h=>h⟩
 have fr:Fr (sX g H (qW [(base,qQ.iter s 0)])) w (w.alloc (.stringIter ⟨s.toArray⟩ 0)) g.S (g.var base w.heap.size none).S:=
  ⟨rfl,rfl,rfl,by simp,λb hb _=>aOK _ _ _ hb,λb o hb _=>⟨aOH (a:=⟨b,o,none⟩) (aOK _ _ _ hb),aPb (a:=⟨b,o,none⟩) (aOK _ _ _ hb)⟩,λb o h=> .inl h,λb s h=> .inl ((F7 (aOK _ _ _ (F6 h))).trans h)⟩
 have gho: ∀i,i∉qW [(base,qQ.iter s 0)]->(g.var base w.heap.size none).J i=g.J i/\(g.var base w.heap.size none).cur i=g.cur i:=λi hi=>⟨by
  show (if i=base then _ else _)=_;rw[aOi (λe1=>hi aQk)],rfl⟩
 have get: ∀i blk,i∈qW [(base,qQ.iter s 0)]->qU (rL [(base,qQ.iter s 0)] H) i=some blk->i=base/\blk= .iter s 0:=by
  intro i blk hi z;simp only[qW,aOs] at hi;subst hi;simp only[rL,qU,aPl,aOf] at z;exact⟨rfl,z.symm⟩
 have perm: ∀i blk b o,i∈qW [(base,qQ.iter s 0)]->qU (rL [(base,qQ.iter s 0)] H) i=some blk->sD (g.var base w.heap.size none) i blk b o->w.heap.size<=b\/sX g H (qW [(base,qQ.iter s 0)]) b o:=by
  intro i blk b o hi z K;obtain⟨rfl,rfl⟩:=get i blk hi z;obtain⟨p,hp,O⟩:=K;rw[D] at hp;obtain rfl:=aOj hp;exact .inl (aPH O.symm)
 refine⟨le,⟨.inr ⟨rfl,_,D,rfl⟩,trivial⟩,hH.upd le fr perm gho (λi blk hi z=>?_) (λi j bi bj b o hi M E G F _ _=>E ((get i bi hi G).1.trans (get j bj M F).1.symm)) (λb o h=>aOS (hH.sl b o h) pP),fr,perm,gho,λi u' y us h=>by
  simp only[rL,qU] at h;split at h
  .cases h
  exact .inl ⟨y,us,h⟩⟩
 obtain⟨rfl,rfl⟩:=get i blk hi z;refine⟨⟨w.heap.size,0,none⟩,D,rfl,?_,λo I=>aPO _ (hH.sl _ _ I)⟩;show (w.heap.push (.stringIter ⟨s.toArray⟩ 0))[w.heap.size]? =_;rw[aP3]
theorem sE.updIter {side:List Prop}{rds:pY}{i:Nat}{s:pJ}{n n':Nat}{d:qP}{val:qA}{p:Pl}(hi:qU H i=some (.iter s n)) (hp:g.J i=some p) (I:p.2=0) (hb:w.heap[p.1]? =some (.stringIter ⟨s.toArray⟩ n)) (X: ∀o,¬g.S p.1 o) (Z:rZ g {w with heap:=w.heap.setIfInBounds p.1 (.stringIter ⟨s.toArray⟩ n')} d val):
  sE g w H ⟨side,d,[(i,.iter s n')],rds⟩ g {w with heap:=w.heap.setIfInBounds p.1 (.stringIter ⟨s.toArray⟩ n')} val:=by
 have M:p.1<w.heap.size:=(aOB.1 hb).1;have D: ∀b,b≠p.1->(w.heap.setIfInBounds p.1 (.stringIter ⟨s.toArray⟩ n'))[b]? =w.heap[b]? :=λb K=>by rw[aO9 (Ne.symm K)]
 have z: ∀o,sX g H (qW [(i,qQ.iter s n')]) p.1 o:=λo=>⟨i,_,by simp [qW],hi,p,hp,rfl⟩;have le:Le g w g {w with heap:=w.heap.setIfInBounds p.1 (.stringIter ⟨s.toArray⟩ n')}:=⟨λ_ _ h=>h,λb o h=>aOH (a:=⟨b,o,none⟩) (D b (λe=>X o (e▸h))),λ_ _ h=>h,λ_ _ _ h=>h⟩
 have fr:Fr (sX g H (qW [(i,qQ.iter s n')])) w {w with heap:=w.heap.setIfInBounds p.1 (.stringIter ⟨s.toArray⟩ n')} g.S g.S:=
  ⟨rfl,rfl,rfl,by simp,λb _ G=>D b (λe=>G 0 (e▸z 0)),λb o _ G=>⟨aOH (a:=⟨b,o,none⟩) (D b (λe=>G (e▸z o))),aPb (a:=⟨b,o,none⟩) (D b (λe=>G (e▸z o)))⟩,λb o h=> .inl h,λb s h=>(by
   by_cases e:b=p.1
   .exact .inr λo=>e▸z o
   exact .inl ((F7 (D b e)).trans h))⟩
 have get: ∀j blk,j∈qW [(i,qQ.iter s n')]->qU (rL [(i,qQ.iter s n')] H) j=some blk->j=i/\blk= .iter s n':=by
  intro j blk E F;simp only[qW,aOs] at E;subst E;simp only[rL,qU,aPl,aOf] at F;exact⟨rfl,F.symm⟩
 have perm: ∀j blk b o,j∈qW [(i,qQ.iter s n')]->qU (rL [(i,qQ.iter s n')] H) j=some blk->sD g j blk b o->w.heap.size<=b\/sX g H (qW [(i,qQ.iter s n')]) b o:=by
  intro j blk b o E F Y;obtain⟨rfl,rfl⟩:=get j blk E F;obtain⟨q,V,rfl⟩:=Y;rw[hp] at V;obtain rfl:=aOj V;exact .inr (z o)
 refine⟨le,Z,hH.upd le fr perm (λ_ _=>⟨rfl,rfl⟩) (λj blk E F=>?_) (λj j' bi bj b o E O Q U R _ _=>Q ((get j bi E U).1.trans (get j' bj O R).1.symm)) (λb o h=>by simpa using hH.sl b o h),fr,perm,λ_ _=>⟨rfl,rfl⟩,λj u' y us h=>by
  simp only[rL,qU] at h;split at h
  .cases h
  exact .inl ⟨y,us,h⟩⟩
 obtain⟨rfl,rfl⟩:=get j blk E F;exact⟨p,hp,I,by simp [aPT,M],X⟩
theorem a7Z {t:TypeId}{x:Operand}(E:o.op= .range t x) {sx:qP}(D:rZ g w sx (a.eval x)) {base:Nat}{e:rA}(hr:mu base (s4 T t) sx=some e) (hf:z6 g base e):rU P o a g w H e:=by
 generalize hst:s4 T t=ot at hr;unfold mu at hr;split at hr
 .rename_i el b ar ls s k;cases hr;have j:=hf base aQl (aOA _);have hv:=xX D.1;have z:=(t7 hT hst).2;simp only[xO] at z;refine rU.value (v:= .pointer (some ⟨w.heap.size,0,none⟩)) (w':=w.alloc (.stringIter ⟨s.toArray⟩ 0)) ?_ (sE.newIter hT hH j.1 (funext j.2));unfold execOp;rw[E];simp only[Instr.range,hv,aOr,aOC z,run_newObj,aOl,aOD];rfl
 cases hr
theorem a71 {x:Operand}{b:Bool}(K:o.op= .next x b) {sx:qP}(O:rZ g w sx (a.eval x)) {e:rA}(hr:ZX H b sx=some e):rU P o a g w H e:=by
 unfold ZX at hr;split at hr
 .rename_i i k;unfold mv at hr;split at hr
  .rename_i s n hb;cases hr;obtain⟨p,hp,F,z,M⟩:=hH.blk i _ hb;obtain⟨q,I,hv⟩:=zH O.1;rw[hp] at I;obtain rfl:=aOj I;rw[F] at hv;by_cases G:n<s.length
   .have D:n<(⟨s.toArray⟩:ByteArray).size:=by simpa[ByteArray.size] using G
    refine rU.value (v:= .tuple #[.bool true,.int .i64 (n:Int),.int .i32 (xW s n)]) (w':={w with heap:=w.heap.setIfInBounds p.1 (.stringIter ⟨s.toArray⟩ (B7 s n))}) ?_ (sE.updIter hT hH hb hp F z M ⟨⟨λ_=>rfl,λh=>absurd G (of_decide_eq_false h)⟩,trivial⟩)
    unfold execOp;rw[K];have E:B7 s n=n+(Utf8.decode ⟨s.toArray⟩ n).2:=by unfold B7 ms;rw[aOd G]
    simp only[Instr.next,hv,aOr,Fn z,aOl,D,aPl,a7Y _ z,aOD,E];rfl
   have D: ¬n<(⟨s.toArray⟩:ByteArray).size:=by simpa[ByteArray.size] using G
   have E:B7 s n=n:=by unfold B7;rw[aOi G]
   have Q:({w with heap:=w.heap.setIfInBounds p.1 (.stringIter ⟨s.toArray⟩ (B7 s n))}:pZ)=w:=by
    rw[E];have:w.heap.setIfInBounds p.1 (.stringIter ⟨s.toArray⟩ n)=w.heap:=by
     obtain⟨U,V⟩:=aOB.1 z;apply Array.ext_getElem?;intro j;rw[aPT];split
     .rename_i R;subst R;first|rw[z] |rw[aOd U,z]
     rfl
    rw[this]
   refine rU.value (v:= .tuple #[.bool false]) (w':={w with heap:=w.heap.setIfInBounds p.1 (.stringIter ⟨s.toArray⟩ (B7 s n))}) ?_ (sE.updIter hT hH hb hp F z M ⟨⟨λh=>absurd (aO3 h) G,λ_=>rfl⟩,trivial⟩)
   rw[Q];unfold execOp;rw[K];simp only[Instr.next,hv,aOr,Fn z,aOl,D,aPq,aOD]
  cases hr
 cases hr
end
def tD:Nat->List qQ->sA
 |_,[]=>[]
 |c,b::L=>(c,b)::tD (c+1) L
theorem bd: ∀(L:List qQ) (c i:Nat),qU (tD c L) i=if c<=i then L[i-c]? else none
 |[],c,i=>by simp [tD,qU]
 |b::L,c,i=>by
  simp only[tD,qU];by_cases h:c=i
  .subst h;simp
  rw[aOi h,bd L (c+1) i];by_cases j:c<=i
  .rw[aOd j,aOd pN];obtain⟨d,z⟩: ∃d,i-c=d+1:=⟨i-c-1,pN⟩;rw[z,aOZ];congr 1;omega
  rw[aOi j,aOi pN]
theorem zI (L:List qQ) (i:Nat):qU (tD 0 L) i=L[i]? :=by rw[bd];simp
def wV (g:Gh) (H:sA) (b o:Nat):Prop:= ∃i blk,qU H i=some blk/\sD g i blk b o
def wW (g:Gh) (w:pZ):List qP->pV->Prop
 |[],vs=>vs=[]
 |s::ss,vs=> ∃v vs',vs=v::vs'/\rZ g w s v/\wW g w ss vs'
def W6 (g:Gh) (w:pZ):List qP->qA->Prop
 |[s],v=>rZ g w s v
 |l,v=> ∃vs:pV,v= .tuple vs.toArray/\wW g w l vs
structure MJ (g:Gh) (w:pZ) (L:List qQ) (r:r9) (g':Gh) (w':pZ) (v:qA):Prop where
 shut: ∀b o,g.S b o->g'.S b o/\w'.cell? ⟨b,o,none⟩=w.cell? ⟨b,o,none⟩
 heap:sM g' w' (tD 0 r.H)
 ret:W6 g' w' r.ret v
 fr:Fr (wV g (tD 0 L)) w w' g.S g'.S
 perm: ∀i blk b o,r.H[i]? =some blk->sD g' i blk b o->w.heap.size<=b\/wV g (tD 0 L) b o
 J: ∀(i:Nat) t x ts,L[i]? =some (.cells t x ts)->g'.J i=g.J i
 ty: ∀(i:Nat) t x ts u y us,L[i]? =some (.cells t x ts)->r.H[i]? =some (.cells u y us)->u=t
 Jt: ∀i p,i<L.length->g.J i=some p->g'.J i=some p
 cur: ∀i n u,i<L.length->g.cur i n=some u->g'.cur i n=some u
def z7 (P:Program) (f:FuncId) (C:List qP->List qQ->Option r9):Prop:=
 (∀args w,(callFunc f args).run P w= .ok (.enter f args) w)/\
 ∀(g:Gh) (w:pZ) (args:List qP) (vals:pV) (L:List qQ) (r:r9),sM g w (tD 0 L)->wW g w args vals->C args L=some r->(∀p∈r.side,p)->
  Calls P f vals.toArray w (λe w'=> ∃v g',e= .returned v/\MJ g w L r g' w' v)
def pv (P:Program) (f:FuncId) (F:(t:Ty)->List t.den->Option (List t.den)):Prop:=
 ∀(g:Gh) (w:pZ) (e:TypeId) (t:Ty) (l l':List t.den) (v:qA) (n:Nat) (xs:pV),J5 w->w.ownsRow 0 e t.cells v n xs->uV (Rd g w t) t.cells l xs->l.length=n->n<4611686018427387904->F t l=some l'->
  Calls P f #[v] w (λen w'=>en= .returned (.tuple #[])/\l'.length=n/\∃xs',w'.ownsRow 0 e t.cells v n xs'/\uV (Rd g w t) t.cells l' xs'/\w.grownBy w' v.ownBlock)
def DZ (P:Program) (Γ:tV):Prop:= ∀f s,f<1000000000->Γ f=some s->z7 P f s.C/\∀F,s.row=some F->pv P f F
theorem Fo {g:Gh}{w:pZ}{t:Ty}{x:t.den}{v:qA}{k:pX}(h:rZ g w (.val t x,k) v):rZ g w (.val t x,FY t k) v:=by
 refine⟨h.1,?_⟩;cases t with
 |list u=>exact h.2
 |_=>trivial
theorem a73 {t:Ty}{k:pX}: ∀c,FY t k=some c->∃u,t= .list u:=by
 cases t with
 |list u=>exact λ_ _=>⟨u,rfl⟩
 |_=>intro c h;cases h
theorem bf {g g':Gh}{w:pZ}(z:g'.S=g.S) {t:Ty}(hp:t.pure=true) {x:t.den}{v:qA}{k k':pX}(E: ∀c,k=some c->∃u,t= .list u) (h:rZ g w (.val t x,k) v) (hk: ∀c,k=some c->∃c',k'=some c'/\∀n u,g.cur c n=some u->g'.cur c' n=some u) (j:k=none->k'=none):rZ g' w (.val t x,k') v:=by
 have hv:sS g' w t x v:=h.1.imp (λ⟨a,cs,e,q⟩=>⟨a,cs,e,vJ z hp q⟩) (λ⟨a,q⟩=>⟨a,vJ z hp q⟩);refine⟨hv,?_⟩;cases k with
 |none=>rw[j rfl];trivial
 |some c=>
  obtain⟨c',rfl,F⟩:=hk c rfl;have D:=h.2;cases t with
  |list u=>exact F _ _ D
  |pair a b=>obtain⟨u,e⟩:=E c rfl;cases e
  |_=>exact D.elim
section
variable {P:Program}{o:Oper}{a:Act}{g:Gh}{w:pZ}{H:sA}{T:sJ}{Γ:tV}(hT:w6 P T) (hΓ:DZ P Γ) (hH:sM g w H)
include hT hΓ hH
theorem pw {ti:Option TI}{s:qP}{v:qA}(h:rZ g w s v):rZ g w (QT ti s) v:=by
 unfold QT;split
 .have:v= .slice none 0 0:=h.1;subst this;exact⟨.inr ⟨rfl,none,0,rfl,aOA _,.inl rfl⟩,trivial⟩
 exact h
theorem Fp {ρ:Operand->qP}: ∀{xs:List Operand}{ts:List TypeId},xs.length=ts.length->(∀x∈xs,rZ g w (ρ x) (a.eval x))->wW g w (H8 T ρ xs ts) (xs.map a.eval)
 |[],[],_,_=>rfl
 |x::xs,t::ts,h,j=>⟨_,_,rfl,pw hT hΓ hH (j x pP),Fp aQe (λy z=>j y (by simp [z]))⟩
theorem a74 {l m:List qP}{vs us:pV}(h:wW g w l vs) (k:wW g w m us):wW g w (l++m) (vs++us):=by
 induction l generalizing vs with
 |nil=>rw[show vs=[] from h];exact k
 |cons s l ih=>
  obtain⟨v,vs',rfl,z,j⟩:=h;exact⟨v,_,rfl,z,ih j⟩
theorem Fq: ∀{caps:pT}{vs:pV},yN g caps vs->wW g w (ml caps) vs
 |[],_,h=>h
 |(i,o)::caps,_,⟨p,vs',D,z,j⟩=>⟨_,_,z,⟨.inr ⟨rfl,p,D,rfl⟩,trivial⟩,Fq j⟩
end
theorem Fs {P:Program}{o:Oper}{a:Act}{f:FuncId}{fop:Operand}{args:Array Operand}{tys:Array TypeId}(z:o.op= .call ⟨.value fop,args,tys⟩) {caps:pV}(hf:a.eval fop= .func (.func f) #[] caps.toArray)
  (j: ∀args w,(callFunc f args).run P w= .ok (.enter f args) w) {w:pZ}{K:Act->pZ->Prop}{Q:Exit->Act->pZ->Prop}
  (h:Calls P f ((args.toList.map a.eval)++caps).toArray w (λe w'=> ∃v,e= .returned v/\K (a.put o.dst v) w')):o.wp P a w K Q:=by
 unfold Oper.wp;have:(execOp a.eval o).run P w= .ok (.enter f ((args.toList.map a.eval)++caps).toArray) w:=by
  unfold execOp;rw[z];simp only[resolve,hf,Deferred.ofValue,aOr,aOD,aOl,invoke];rw[j];congr 2;apply aPn.1;simp
 rw[this];unfold Oper.upon;refine h.mono λe w' ⟨v,D,hk⟩=>?_;subst D;exact hk
def wB (g:Gh):Option rX->Option Pl
 |some (.box i _ _ _ o)=>(g.J i).map λp=>⟨p.1,p.2+o,p.3⟩
 |some (.tok k)=>g.J k
 |none=>none
def BW (g:Gh):Option rX->Nat->Option qA
 |some (.tok k),n=>g.cur k n
 |_,_=>none
def vO (g:Gh) (ws:List rX):Gh:=⟨g.S,λc=>wB g ws[c]?,λc n=>BW g ws[c]? n⟩
def bg (H:sA) (ws:List rX):rX->qQ->Prop
 | .box i u x toks o,.cells t y ts=>qU H i=some (.cells u x toks)/\rT t u x o=some y/\∀q n,(q,n)∈ts->∃k,ws[n]? =some (.tok k)/\xK toks (o+q)=some k/\q<t.cells
 | .tok k,.grow e c m=>qU H k=some (.grow e c m)
 | .tok k,.map s t l=>qU H k=some (.map s t l)/\s.pure=true/\t.pure=true
 | .tok k,.row e t l n=>qU H k=some (.row e t l n)/\t.pure=true
 |_,_=>False
structure HF (H:sA) (ws:List rX) (L:List qQ):Prop where
 len:ws.length=L.length
 ok: ∀(c:Nat) wh b,ws[c]? =some wh->L[c]? =some b->bg H ws wh b
 nodup:(sF ws).Nodup
def pz (ws:List rX) (t:Ty) (x y:t.den):Prop:=(t.pure=true/\y=x)\/DR ws t x=some y
def bh (H:sA) (ws:List rX):rX->qQ->Prop
 | .box i u x toks o,.cells t y ts=>qU H i=some (.cells u x toks)/\(∃y0,rT t u x o=some y0/\pz ws t y0 y)/\∀q n,(q,n)∈ts->∃k,ws[n]? =some (.tok k)/\xK toks (o+q)=some k/\q<t.cells
 | .tok k,.grow e c m=>qU H k=some (.grow e c m)
 | .tok k,.map s t l=>qU H k=some (.map s t l)/\s.pure=true/\t.pure=true
 | .tok k,.row e t l n=>qU H k=some (.row e t l n)/\t.pure=true
 |_,_=>False
def bk {i o:Nat}: ∀{ws:List rX}{c0:Nat}{c q:Nat},H4 i o ws c0=some (c,q)->∃d u x toks oc,c=c0+d/\ws[d]? =some (.box i u x toks oc)/\o=oc+q
 |[],_,_,_,h=>by simp [H4] at h
 | .box j u x toks oc::r,c0,c,q,h=>by
  simp only[H4] at h;split at h
  .rename_i E;simp only[aOf,aOJ] at h;obtain⟨rfl,rfl⟩:=h;obtain⟨rfl,z⟩:=E;exact⟨0,u,x,toks,oc,rfl,rfl,pN⟩
  .obtain⟨d,u',x',toks',oc',F,z,D⟩:=bk h;exact⟨d+1,u',x',toks',oc',pN,by simpa using z,D⟩
 | .tok k::r,c0,c,q,h=>by
  simp only[H4] at h;obtain⟨d,u',x',toks',oc',F,z,D⟩:=bk h;exact⟨d+1,u',x',toks',oc',pN,by simpa using z,D⟩
def RQ {i:Nat}: ∀{ws:List rX}{c0 c:Nat},wQ i ws c0=some c->∃d,c=c0+d/\ws[d]? =some (.tok i)
 |[],_,_,h=>by simp [wQ] at h
 | .tok j::r,c0,c,h=>by
  simp only[wQ] at h;split at h
  .rename_i D;simp only[aOf] at h;subst h;subst D;exact⟨0,rfl,rfl⟩
  .obtain⟨d,E,z⟩:=RQ h;exact⟨d+1,pN,by simpa using z⟩
 | .box _ _ _ _ _::r,c0,c,h=>by
  simp only[wQ] at h;obtain⟨d,E,z⟩:=RQ h;exact⟨d+1,pN,by simpa using z⟩
def qa {α β:Type}{a:Option α}{b:Option β}{p:α×β}(h:LU a b=some p):a=some p.1/\b=some p.2:=by
 cases a<;>cases b<;>simp [LU] at h
 subst h;exact⟨rfl,rfl⟩
def a77 {x y:Option (Nat×pT)}(h:V8 x=some y):y=x/\∀f l,x=some (f,l)->l=[]:=by
 unfold V8 at h;split at h
 .cases h;exact⟨rfl,λ_ _ h=>by cases h⟩
 .cases h;exact⟨rfl,λ_ _ h=>by cases h;rfl⟩
 cases h
def a78 {g g':Gh}{x:Option (Nat×pT)}{cs:pV}(j: ∀f l,x=some (f,l)->l=[]) (h:VS g x cs):VS g' x cs:=by
 cases x with
 |none=>exact h
 |some q=>
  obtain⟨f,l⟩:=q;obtain rfl:=j f l rfl;exact h
def bn {g g':Gh}{w:pZ}(G:g'.S=g.S) (f:(t:Ty)->t.den->Option t.den)
  (hp: ∀a b x,f (.pair a b) x=LU (if a.pure=true then some x.1 else f a x.1) (if b.pure=true then some x.2 else f b x.2))
  (O: ∀t x,f (.list t) x=if t.pure=true then some x else none) (hb: ∀x,f .bool x=some x) (hi: ∀k x,f (.int k) x=some x) (M: ∀x,f .str x=some x) (D: ∀x,f .part x=some x) (K: ∀x,f .unit x=some x) (F: ∀x,f .fn x=some x) (z: ∀e t x y cs,f (.rl e t) x=some y->G3 g x cs->G3 g' y cs) (E: ∀x y cs,f .mref x=some y->VT g x cs->VT g' y cs)
  (hr: ∀x y cs,f .ref x=some y->VR g x cs->VR g' y cs) (hm: ∀x y cs,f .mp x=some y->MB g x cs->MB g' y cs) (Q: ∀x,f .clo x=V8 x):
  ∀{t:Ty}{x y:t.den}{cs:pV},Rd g w t x cs->f t x=some y->Rd g' w t y cs
 | .bool,_,_,_,r,h=>by rw[hb] at h;cases h;exact r
 | .int _,_,_,_,r,h=>by rw[hi] at h;cases h;exact r
 | .str,_,_,_,r,h=>by rw[M] at h;cases h;exact r
 | .unit,_,_,_,r,h=>by rw[K] at h;cases h;exact r
 | .rl e t,x,y,_,r,h=>z e t x y _ h r
 | .fn,_,_,_,r,h=>by rw[F] at h;cases h;exact r
 | .mref,x,y,_,r,h=>E x y _ h r
 | .part,_,_,_,r,h=>by rw[D] at h;cases h;exact vJ G (t:= .part) rfl r
 | .list t,x,y,_,r,h=>by
  rw[O] at h;split at h
  .rename_i j;cases h;exact vJ G (t:= .list t) (by simpa[Ty.pure] using j) r
  .cases h
 | .ref,x,y,_,r,h=>hr x y _ h r
 | .clo,x,y,_,r,h=>by
  rw[Q] at h;obtain⟨rfl,I⟩:=a77 h;exact a78 I r
 | .mp,x,y,_,r,h=>hm x y _ h r
 | .pair a b,x,y,_,⟨c1,c2,e,r1,r2⟩,h=>by
  rw[hp] at h;obtain⟨R,I⟩:=qa h;refine⟨c1,c2,e,?_,?_⟩
  .split at R
   .rename_i j;exact(aOj R)▸vJ G j r1
   exact bn G f hp O hb hi M D K F z E hr hm Q r1 R
  split at I
  .rename_i j;exact(aOj I)▸vJ G j r2
  exact bn G f hp O hb hi M D K F z E hr hm Q r2 I
def qb (f:(t:Ty)->t.den->Option t.den)
  (hp: ∀a b x,f (.pair a b) x=LU (if a.pure=true then some x.1 else f a x.1) (if b.pure=true then some x.2 else f b x.2))
  (G: ∀t x,f (.list t) x=if t.pure=true then some x else none) {u:Ty}: ∀{t:Ty}{x y:t.den}{o:Nat}{l:List u.den},f t x=some y->rT (.list u) t x o=some l->rT (.list u) t y o=some l:=by
 intro t
 induction t with
 |pair a b iha ihb=>
  intro x y o l h j;rw[hp] at h;obtain⟨F,E⟩:=qa h;have key: ∀z:(Ty.pair a b).den,∀q,rT (.list u) (.pair a b) z q=if q<a.cells then rT (.list u) a z.1 q else rT (.list u) b z.2 (q-a.cells):=by
   intro z q;cases q with
   |zero=>
    conv=>lhs;unfold rT
    rw[aPN aQh,Nat.zero_sub]
   |succ q=>simp [rT]
  rw[key] at j|-;split
  .rename_i D;rw[aOd D] at j;split at F
   .rw[<-aOj F];exact j
   exact iha F j
  .rename_i D;rw[aOi D] at j;split at E
   .rw[<-aOj E];exact j
   .exact ihb E j
 |list v=>
  intro x y o l h j;rw[G] at h;split at h
  .cases h;exact j
  .cases h
 |_=>
  intro x y o l h j;cases o with
  |zero=>
   unfold rT at j;split at j
   .rename_i e;cases e
   .cases j
  |succ o=>simp [rT] at j
def a79 {g:Gh}{w:pZ}{ws:List rX}{t:Ty}{x y:t.den}{cs:pV}(r:Rd g w t x cs) (h:DR ws t x=some y):Rd (vO g ws) w t y cs:=by
 refine bn (g:=g) (g':=vO g ws) rfl (DR ws) (λa b x=>rfl) (λt x=>rfl) (λ_=>rfl) (λ_ _=>rfl) (λ_=>rfl) (λ_=>rfl) (λ_=>rfl) (λ_=>rfl) (λ_ _ x y cs h r=>?_) (λx y cs h r=>?_) (λx y cs h r=>?_) (λx y cs h r=>?_) (λ_=>rfl) r h
 .cases x with
  |none=>cases h;exact r
  |some q=>
   obtain⟨k,n⟩:=q;simp only[DR,Bx] at h;cases j:wQ k ws 0 with
   |none=>rw[j] at h;cases h
   |some c=>
    rw[j] at h;cases h;obtain⟨d,rfl,z⟩:=RQ j;obtain⟨v,hv,D⟩:=r;refine⟨v,?_,D⟩;show BW g ws[0+d]? n=_;rw[aOO,z];exact hv
 .cases x with
  |none=>cases h;exact r
  |some q=>
   obtain⟨i,o⟩:=q;simp only[DR,YU] at h;cases j:H4 i o ws 0 with
   |none=>rw[j] at h;cases h
   |some q=>
    obtain⟨c,q⟩:=q;rw[j] at h;cases h;obtain⟨d,u,x,toks,oc,rfl,z,rfl⟩:=bk j;obtain⟨p,hp,hv⟩:=r;refine⟨⟨p.1,p.2+oc,p.3⟩,?_,by have:=hv.1;rwa [<-aOX] at this,hv.2.imp id λhv=>by rw[hv];simp [aOX]⟩;show wB g ws[0+d]? =_;rw[aOO,z];simp [wB,hp]
 .cases x with
  |none=>cases h;exact r
  |some q=>
   obtain⟨i,o⟩:=q;simp only[DR,YU] at h;cases j:H4 i o ws 0 with
   |none=>rw[j] at h;cases h
   |some q=>
    obtain⟨c,q⟩:=q;rw[j] at h;cases h;obtain⟨d,u,x,toks,oc,rfl,z,rfl⟩:=bk j;obtain⟨p,hp,hv⟩:=r;refine⟨⟨p.1,p.2+oc,p.3⟩,?_,by rw[hv];simp [aOX]⟩;show wB g ws[0+d]? =_;rw[aOO,z];simp [wB,hp]
 cases x with
 |none=>cases h;exact r
 |some i=>
  simp only[DR,Bw] at h;cases j:wQ i ws 0 with
  |none=>rw[j] at h;cases h
  |some c=>
   rw[j] at h;cases h;obtain⟨d,rfl,z⟩:=RQ j;obtain⟨p,hp,hv⟩:=r;refine⟨p,?_,hv⟩;show wB g ws[0+d]? =_;rw[aOO,z];exact hp
def a8a {g:Gh}{w:pZ}{ws:List rX}{t:Ty}{x y:t.den}{cs:pV}(h:pz ws t x y) (r:Rd g w t x cs):Rd (vO g ws) w t y cs:=by
 rcases h with⟨hp,rfl⟩ |h
 .exact vJ (g:=g) (g':=vO g ws) rfl hp r
 exact a79 r h
def a8b {ws:List rX}{t u:Ty}{x y:t.den}{o:Nat}{l:List u.den}(h:pz ws t x y) (j:rT (.list u) t x o=some l):rT (.list u) t y o=some l:=by
 rcases h with⟨_,rfl⟩ |h
 .exact j
 exact qb (DR ws) (λ_ _ _=>rfl) (λ_ _=>rfl) h j
structure W7 (H:sA) (ws:List rX) (L:List qQ):Prop where
 len:ws.length=L.length
 ok: ∀(c:Nat) wh b,ws[c]? =some wh->L[c]? =some b->bh H ws wh b
 nodup:(sF ws).Nodup
def qc: ∀(ws:List rX) (c:Nat),(sF ws)[c]? =(ws[c]?).map rX.id
 |[],c=>by simp [sF]
 |w::ws,0=>rfl
 |w::ws,c+1=>by simpa[sF] using qc ws c
def JN: ∀ws ws':List rX,sF (ws++ws')=sF ws++sF ws'
 |[],_=>rfl
 |w::ws,ws'=>by simp [sF,JN ws ws']
def HG: ∀{i:Nat}{l:pY},BP i l=true↔i∈l
 |i,[]=>by simp [BP]
 |i,j::r=>by
  simp only[BP,aOv];by_cases h:i=j
  .simp [h]
  rw[aOi h,HG];simp [h]
def bo {ws:List rX}(h:(sF ws).Nodup) {c c':Nat}{x y:rX}(D:ws[c]? =some x) (z:ws[c']? =some y) (E:x.id=y.id):c=c':=by
 have G:(sF ws)[c]? =some x.id:=by rw[qc,D];rfl
 have F:(sF ws)[c']? =some x.id:=by rw[qc,z,E];rfl
 obtain⟨l1,e1⟩:=aOw.1 G;obtain⟨l2,e2⟩:=aOw.1 F;have hp:=aPM.1 h;rcases Nat.lt_trichotomy c c' with j|j|j
 .exact absurd (e1.trans e2.symm) (hp c c' l1 l2 j)
 .exact j
 exact absurd (e2.trans e1.symm) (hp c' c l2 l1 j)
def Ft: ∀{toks:pT}{q k:Nat},xK toks q=some k->(q,k)∈toks
 |[],_,_,h=>by simp [xK] at h
 |(q',k')::r,q,k,h=>by
  simp only[xK] at h;split at h
  .rename_i e;subst e;simp only[aOf] at h;subst h;simp
  exact aOu _ (Ft h)
def a8c {v t:Ty}: ∀{u:Ty}{x:u.den}{o q:Nat}{y:t.den}{l:(Ty.list v).den},rT t u x o=some y->rT (.list v) u x (o+q)=some l->q<t.cells->rT (.list v) t y q=some l:=by
 intro u
 induction u with
 |pair a b iha ihb=>
  intro x o q y l h g D;by_cases E:o=0/\t= .pair a b
  .obtain⟨rfl,rfl⟩:=E;unfold rT at h;rw[aP4 rfl] at h;simp only[uJ,aOf] at h;subst h;simpa using g
  .have keyh:(if o<a.cells then rT t a x.1 o else rT t b x.2 (o-a.cells))=some y:=by
    cases o with
    |zero=>
     unfold rT at h;rw[aPN (λe=>E ⟨rfl,e.symm⟩)] at h;simpa using h
    |succ o=>simpa[rT] using h
   have keyg: ∀z,rT (.list v) (.pair a b) x z=(if z<a.cells then rT (.list v) a x.1 z else rT (.list v) b x.2 (z-a.cells)):=by
    intro z;cases z with
    |zero=>
     conv=>lhs;unfold rT
     rw[aPN aQh,Nat.zero_sub]
    |succ z=>simp [rT]
   rw[keyg] at g;by_cases j:o<a.cells
   .rw[aOd j] at keyh;have F:o+t.cells<=a.cells:=by
     have: ∀{u:Ty}{x:u.den}{o:Nat}{y:t.den},rT t u x o=some y->o+t.cells<=u.cells:=by
      intro u
      induction u with
      |pair a b iha ihb=>
       intro x o y h;have key: ∀o,(if o<a.cells then rT t a x.1 o else rT t b x.2 (o-a.cells))=some y->o+t.cells<=a.cells+b.cells:=by
        intro o h;by_cases j:o<a.cells
        .rw[aOd j] at h;have:=iha h;omega
        rw[aOi j] at h;have:=ihb h;omega
       cases o with
       |zero=>
        unfold rT at h;split at h
        .rename_i e;subst e;simp
        .exact key 0 aQe
       |succ o=>exact key (o+1) (by simpa[rT] using h)
      |_=>
       intro x o y h;cases o with
       |zero=>
        unfold rT at h;split at h
        .rename_i e;subst e;simp
        .simp at h
       |succ o=>simp [rT] at h
     exact this keyh
    rw[aOd pN] at g;exact iha keyh g D
   .rw[aOi j] at keyh;rw[aOi pN,show o+q-a.cells=o-a.cells+q from by omega] at g;exact ihb keyh g D
 |_=>
  intro x o q y l h g D;cases o with
  |zero=>
   unfold rT at h;split at h
   .rename_i e;subst e;simp only[uJ,aOf] at h
    try subst h
    simpa using g
   .simp at h
  |succ o=>simp [rT] at h
def a8d {g:Gh}{w:pZ}{H:sA}{ws:List rX}{L:List qQ}(hH:sM g w H) (hm:W7 H ws L):sM (vO g ws) w (tD 0 L):=by
 have wsL: ∀c b,qU (tD 0 L) c=some b->∃wh,ws[c]? =some wh/\bh H ws wh b:=by
  intro c b h;rw[zI] at h;have Y:c<ws.length:=hm.len▸(aOw.1 h).1;exact⟨ws[c],aOn Y,hm.ok c _ b (aOn Y) h⟩
 have own: ∀c b wh,ws[c]? =some wh->bh H ws wh b->∀bb oo,sD (vO g ws) c b bb oo->∃blk,qU H wh.id=some blk/\sD g wh.id blk bb oo:=by
  intro c b wh z D bb oo Q;cases wh with
  |box i u x toks off=>
   cases b with
   |cells t y ts=>
    obtain⟨U,⟨y0,R,h3⟩,h4⟩:=D;obtain⟨p,hp,e1,e2,e3⟩:=Q;have F:wB g ws[c]? =some p:=hp;rw[z] at F;obtain⟨p0,O,rfl⟩:=aOq.1 F;obtain⟨p1,cs,hx,V,_⟩:=hH.blk i _ U;obtain⟨c1,c2,c3,hu,hl,I⟩:=DX V R;have l1:=sU V;have l2:=sU I;rw[hu] at l1;simp only[aOg] at l1;exact⟨_,U,p0,O,e1,by simp at e2;omega,by simp at e3;omega⟩
   |_=>exact D.elim
  |tok k=>
   cases b with
   |grow e cc m=>
    obtain⟨v,hv,hb⟩:=Q;have E:BW g ws[c]? m=some v:=hv;rw[z] at E;exact⟨_,D,v,E,hb⟩
   |map s t l=>
    obtain⟨p,hp,hb⟩:=Q;have F:wB g ws[c]? =some p:=hp;rw[z] at F;exact⟨_,D.1,p,F,hb⟩
   |row e t l m=>
    obtain⟨v,hv,hb⟩:=Q;have E:BW g ws[c]? m=some v:=hv;rw[z] at E;exact⟨_,D.1,v,E,hb⟩
   |_=>exact D.elim
 refine⟨λc b h=>?_,λc c' b b' bb oo hq U R o1 o2=>?_,hH.sl,hH.tab.1,λc b bb oo h Q=>?_⟩
 rotate_right
 .obtain⟨wh,z,D⟩:=wsL c b h;obtain⟨k1,g1,p1⟩:=own c b wh z D bb oo Q;exact hH.tab.2 _ _ bb oo g1 p1
 .obtain⟨wh,z,D⟩:=wsL c b h;cases wh with
  |box i u x toks off=>
   cases b with
   |cells t y ts=>
    obtain⟨U,⟨y0,R,h3⟩,h4⟩:=D;obtain⟨p,cs,hp,V,he,X,hg,hd⟩:=hH.blk i _ U;obtain⟨c1,c2,c3,rfl,rfl,I⟩:=DX V R;have l1:=sU V;have l2:=sU I;simp only[aOg] at l1;refine⟨⟨p.1,p.2+c1.length,p.3⟩,c2,?_,a8a h3 I,λj v hv=>?_,⟨λj hj=>?_,λh0 s M=>X.2 pN s M⟩,λj hj M=>?_,λq n G=>?_⟩
    .show wB g ws[c]? =_;rw[z];simp [wB,hp]
    .have:=he (c1.length+j) v (by
      have ht:=(aOw.1 hv).1;rw[aOk,aOp pN,aOW,aOy ht];exact hv)
     rw[aOX];exact this
    .have:=X.1 (c1.length+j) pN;rw[aOX];exact this
    .exact hg (c1.length+j) pN (by rw[<-aOX];exact M)
    .obtain⟨k,k1,k2,k3⟩:=h4 q n G;have Z:(c1.length+q,k)∈toks:=Ft k2;obtain⟨u',l,v,g1,g2,g3⟩:=hd _ _ Z;refine⟨u',l,v,a8b h3 (a8c R g1 k3),?_,?_⟩
     .rw[aOk,aOp pN,aOW,aOy pN] at g2;exact g2
     .show BW g ws[n]? _=_;rw[k1];exact g3
   |_=>exact D.elim
  |tok k=>
   cases b with
   |grow e cc m=>
    have e1:(vO g ws).cur c=g.cur k:=by
     funext n;show BW g ws[c]? n=_;rw[z];rfl
    obtain⟨v,xs,hv,hr,hn,M⟩:=hH.blk k _ D;exact⟨v,xs,by rw[e1];exact hv,hr,λm G=>by rw[e1];exact hn m G,M⟩
   |map s t l=>
    obtain⟨p,es,cl,hp,O,hh,hM,hS⟩:=hH.blk k _ D.1;refine⟨p,es,cl,?_,O,hh,ME (g:=g) (g':=vO g ws) rfl D.2.1 D.2.2 hM,hS⟩;show wB g ws[c]? =_;rw[z];exact hp
   |row e t l m=>
    have e1:(vO g ws).cur c=g.cur k:=by
     funext n;show BW g ws[c]? n=_;rw[z];rfl
    obtain⟨hl,v,xs,hv,hr,hF,hn,M⟩:=hH.blk k _ D.1;exact⟨hl,v,xs,by rw[e1];exact hv,hr,CU (λ_ _ h=>vJ (g:=g) (g':=vO g ws) rfl D.2 h) hF,λm G=>by rw[e1];exact hn m G,M⟩
   |_=>exact D.elim
 obtain⟨wh,z,D⟩:=wsL c b U;obtain⟨wh',K,hc⟩:=wsL c' b' R;obtain⟨k1,g1,p1⟩:=own c b wh z D bb oo o1;obtain⟨k2,g2,p2⟩:=own c' b' wh' K hc bb oo o2;exact hH.dis wh.id wh'.id k1 k2 bb oo (λe=>hq (bo hm.nodup z K e)) g1 g2 p1 p2
def Fu {H:sA}{ws more:List rX}: ∀{wh:rX}{b:qQ},bg H ws wh b->bg H (ws++more) wh b
 | .box _ _ _ _ _,.cells _ _ _,⟨D,z,j⟩=>⟨D,z,λq n h=>let ⟨k,k1,k2⟩:=j q n h;⟨k,by rw[aOy (aOw.1 k1).1];exact k1,k2⟩⟩
 | .box _ _ _ _ _,.grow _ _ _,h=>h.elim
 | .box _ _ _ _ _,.dead,h=>h.elim
 | .box _ _ _ _ _,.row _ _ _ _,h=>h.elim
 | .box _ _ _ _ _,.map _ _ _,h=>h.elim
 | .box _ _ _ _ _,.iter _ _,h=>h.elim
 | .tok _,.iter _ _,h=>h.elim
 | .tok _,.row _ _ _ _,h=>h
 | .tok _,.grow _ _ _,h=>h
 | .tok _,.map _ _ _,h=>h
 | .tok _,.cells _ _ _,h=>h.elim
 | .tok _,.dead,h=>h.elim
def MK (g:Gh) (w:pZ) (ws more:List rX):Le (vO g ws) w (vO g (ws++more)) w:=by
 refine⟨λ_ _ h=>h,λ_ _ _=>rfl,λc p h=>?_,λc n v h=>?_⟩
 .have j:wB g ws[c]? =some p:=h;show wB g (ws++more)[c]? =some p;cases z:ws[c]? with
  |none=>rw[z] at j;cases j
  |some wh=>rw[aOy (aOw.1 z).1];exact j
 have j:BW g ws[c]? n=some v:=h;show BW g (ws++more)[c]? n=some v;cases z:ws[c]? with
 |none=>rw[z] at j;cases j
 |some wh=>rw[aOy (aOw.1 z).1];exact j
def ML {g g':Gh}{w w':pZ}(h:Le g w g' w'): ∀{ss:List qP}{vs:pV},wW g w ss vs->wW g' w' ss vs
 |[],_,r=>r
 |_::_,_,⟨v,vs',e,r1,r2⟩=>⟨v,vs',e,DW h r1,ML h r2⟩
def G4 {g:Gh}{w:pZ}: ∀{ss:List qP}{vs:pV}{s:qP}{v:qA},wW g w ss vs->rZ g w s v->wW g w (ss++[s]) (vs++[v])
 |[],_,_,_,h,k=>by rw[show _=[] from h];exact⟨_,_,rfl,k,rfl⟩
 |_::_,_,_,_,⟨v,vs',e,r1,r2⟩,k=>⟨v,vs'++_,by rw[e];rfl,r1,G4 r2 k⟩
def HF.tok {H:sA}{ws:List rX}{L:List qQ}(h:HF H ws L) {k:Nat}{b0:qQ}(hk:bg H (ws++[.tok k]) (.tok k) b0) (D:k∉sF ws):HF H (ws++[.tok k]) (L++[b0]):=by
 refine⟨by simp [h.len],λi wh b j z=>?_,?_⟩
 .by_cases hi:i<ws.length
  .rw[aOy hi] at j;rw[aOy (h.len▸hi)] at z;exact Fu (h.ok i wh b j z)
  rw[aOp pN] at j;rw[aOp (by rw[<-h.len];omega),<-h.len] at z;obtain⟨d,E⟩: ∃d,i-ws.length=d:=⟨_,rfl⟩;rw[E] at j z;cases d with
  |zero=>
   simp only[aOL,aOf] at j z;subst j;subst z;exact hk
  |succ d=>simp at j
 rw[JN];exact List.nodup_append.2 ⟨h.nodup,by simp [sF],λa ha b hb=>by
  simp only[sF,rX.id,aOs] at hb;subst hb;intro e;exact D (e▸ha)⟩
def Fv: ∀{os:pY}{n q m:Nat},(q,m)∈LS os n->∃j:Nat,os[j]? =some q/\m=n+j
 |[],_,_,_,h=>by simp [LS] at h
 |q'::os,n,q,m,h=>by
  simp only[LS,aOv,aOJ] at h;rcases h with⟨rfl,rfl⟩ |h
  .exact⟨0,rfl,rfl⟩
  obtain⟨j,z,D⟩:=Fv h;exact⟨j+1,by simpa using z,pN⟩
def Fw {n:Nat}: ∀{os:pY}{j q:Nat},QU n os=true->os[j]? =some q->q<n
 |[],_,_,_,h=>by simp at h
 |q'::os,0,q,h,z=>by
  simp only[QU,aOo,aOt] at h;simp only[aOL,aOf] at z;exact z▸h.1
 |q'::os,j+1,q,h,z=>by
  simp only[QU,aOo] at h;exact Fw h.2 aQg
def bp {H:sA}{toks:pT}{o:Nat}: ∀{os:pY}{a a':tC},yY H toks o os (some a)=some a'->
  ∃(ks:pY) (bs:List qQ),ks.length=os.length/\bs.length=os.length/\a'.args=a.args/\a'.H.reverse=a.H.reverse++bs/\a'.ws.reverse=a.ws.reverse++ks.map rX.tok/\a'.n=a.n+os.length/\
   (∀(j:Nat) q k,os[j]? =some q->ks[j]? =some k->xK toks (o+q)=some k)/\(∀(j:Nat) k b,ks[j]? =some k->bs[j]? =some b->qU H k=some b/\∃e c m,b= .grow e c m)/\(∀k∈ks,k∉sF a.ws.reverse)/\ks.Nodup
 |[],a,a',h=>by
  simp only[yY,aOf] at h;subst h;exact⟨[],[],rfl,rfl,rfl,by simp,by simp,rfl,by simp,by simp,by simp,by simp⟩
 |q::os,a,a',h=>by
  simp only[yY] at h;have none_no: ∀os,yY H toks o os none=none:=by
   intro os
   induction os with
   |nil=>rfl
   |cons q os ih=>
    have:zS H (xK toks (o+q)) none=none:=by
     cases xK toks (o+q) with
     |none=>rfl
     |some k=>simp only[zS];cases qU H k with
      |none=>rfl
      |some b=>cases b<;>rfl
    simp only[yY,this,ih]
  cases hk:xK toks (o+q) with
  |none=>rw[hk] at h;simp only[zS,none_no] at h;cases h
  |some k=>
   rw[hk] at h;simp only[zS] at h;cases hb:qU H k with
   |none=>rw[hb] at h;simp only[CH,none_no] at h;cases h
   |some b=>
    rw[hb] at h;cases b with
    |grow e c m=>
     simp only[CH] at h;by_cases hm:BP k (sF a.ws)=true
     .rw[aOd hm,none_no] at h;cases h
     .rw[aOi hm] at h;obtain⟨ks,bs,U,R,Q,K,I,O,M,h8,F,G⟩:=bp h;simp only[aOY] at K I F;have E: ∀ws:List rX,∀i,i∈sF ws.reverse↔i∈sF ws:=by
       intro ws i
       induction ws with
       |nil=>simp
       |cons x r ih=>rw[aOY,JN];simp [sF,ih,or_comm]
      refine⟨k::ks,.grow e c m::bs,by simp [U],by simp [R],Q,by rw[K];simp,by rw[I];simp,by rw[O];simp;omega,λj q' k'=>?_,λj k' b'=>?_,λk' D=>?_,?_⟩
      .cases j with
       |zero=>intro e1 e2;simp only[aOL,aOf] at e1 e2;subst e1;subst e2;exact hk
       |succ j=>intro e1 e2;exact M j q' k' (by simpa using e1) (by simpa using e2)
      .cases j with
       |zero=>intro e1 e2;simp only[aOL,aOf] at e1 e2;subst e1;subst e2;exact⟨hb,_,_,_,rfl⟩
       |succ j=>intro e1 e2;exact h8 j k' b' (by simpa using e1) (by simpa using e2)
      .rcases aOv.1 D with rfl|D
       .rw[E];exact λz=>hm (HG.2 z)
       intro z;exact F k' D (by rw[JN];exact List.mem_append_left _ z)
      .refine List.nodup_cons.2 ⟨λz=>F k z (by rw[JN];simp [sF,rX.id]),G⟩
    |cells t y ts=>simp only[CH,none_no] at h;cases h
    |row=>simp only[CH,none_no] at h;cases h
    |map=>simp only[CH,none_no] at h;cases h
    |iter=>simp only[CH,none_no] at h;cases h
    |dead=>simp only[CH,none_no] at h;cases h
def Fx: ∀ks:pY,sF (ks.map rX.tok)=ks
 |[]=>rfl
 |k::ks=>by simp [sF,rX.id,Fx ks]
def HF.box {H:sA}{ws:List rX}{L:List qQ}(h:HF H ws L) {t u:Ty}{x:u.den}{y:t.den}{toks:pT}{i o:Nat}{os ks:pY}{bs:List qQ}(hi:qU H i=some (.cells u x toks)) (Q:rT t u x o=some y) (G:QU t.cells os=true) (R:i∉sF ws)
  (O:ks.length=os.length) (Y:bs.length=os.length) (X: ∀(j:Nat) q k,os[j]? =some q->ks[j]? =some k->xK toks (o+q)=some k) (h8: ∀(j:Nat) k b,ks[j]? =some k->bs[j]? =some b->qU H k=some b/\∃e c m,b= .grow e c m) (V: ∀k∈ks,k∉sF (ws++[.box i u x toks o])) (K:ks.Nodup):
  HF H ((ws++[.box i u x toks o])++ks.map rX.tok) ((L++[.cells t y (LS os (ws.length+1))])++bs):=by
 have z:(ws++[rX.box i u x toks o]).length=ws.length+1:=by simp
 have D:(L++[qQ.cells t y (LS os (ws.length+1))]).length=ws.length+1:=by simp [h.len]
 refine⟨by simp [h.len,O,Y],λc wh b e1 e2=>?_,?_⟩
 .by_cases M:c<ws.length
  .rw[aOy pN,aOy M] at e1;rw[aOy pN,aOy (h.len▸M)] at e2;rw[aOk];exact Fu (h.ok c wh b e1 e2)
  by_cases I:c=ws.length
  .subst I;rw[aOy pN,aOp (aOA _),aPU] at e1;rw[aOy pN,aOp (by rw[h.len];exact aOA _),h.len,aPU] at e2;simp only[aOL,aOf] at e1 e2;subst e1;subst e2;refine⟨hi,Q,λq n hm=>?_⟩;rw[<-h.len] at hm;obtain⟨j,F,rfl⟩:=Fv hm;have E:j<ks.length:=by rw[O];exact(aOw.1 F).1
   refine⟨ks[j],?_,X j q _ F (aOn E),Fw G F⟩;rw[aOp pN,z,show ws.length+1+j- (ws.length+1)=j from by omega];simp [E]
  rw[aOp pN,z] at e1;rw[aOp pN,D] at e2;rw[List.getElem?_map] at e1;obtain⟨k,hk,rfl⟩:=aOq.1 e1;obtain⟨U,e,cc,m,rfl⟩:=h8 _ k b hk e2;exact U
 rw[JN,Fx];refine List.nodup_append.2 ⟨?_,K,λa ha b hb e=>V b hb (e▸ha)⟩;rw[JN];exact List.nodup_append.2 ⟨h.nodup,by simp [sF],λa ha b hb=>by
  simp only[sF,rX.id,aOs] at hb;subst hb;intro e;exact R (e▸ha)⟩
def W8 (ws:List rX) (i:Nat):i∈sF ws.reverse↔i∈sF ws:=by
 induction ws with
 |nil=>simp
 |cons x r ih=>rw[aOY,JN];simp [sF,ih,or_comm]
structure BX (g:Gh) (w:pZ) (H:sA) (vals:pV) (a:tC):Prop where
 n:a.n=a.ws.reverse.length
 m:HF H a.ws.reverse a.H.reverse
 args:wW (vO g a.ws.reverse) w a.args.reverse vals
def a8e {g:Gh}{w:pZ}{ws:List rX}{t:Ty}(hp:t.pure=true) {x:t.den}{v:qA}{k:pX}(h:rZ g w (.val t x,k) v):rZ (vO g ws) w (.val t x,none) v:=
 ⟨h.1.imp (λ⟨a,cs,e,q⟩=>⟨a,cs,e,vJ (g:=g) (g':=vO g ws) rfl hp q⟩) (λ⟨a,q⟩=>⟨a,vJ (g:=g) (g':=vO g ws) rfl hp q⟩),trivial⟩
def a8f {H:sA}{k:pX}{a b:tC}{l m:List qP}(h:zS H k (some ⟨l,a.H,a.ws,a.n⟩)=some b):b.args=l/\zS H k (some ⟨m,a.H,a.ws,a.n⟩)=some ⟨m,b.H,b.ws,b.n⟩:=by
 cases k with
 |none=>cases h
 |some k=>
  simp only[zS] at h|-;cases hb:qU H k with
  |none=>rw[hb] at h;simp [CH] at h
  |some bl=>
   rw[hb] at h;cases bl with
   |grow e c n=>
    simp only[CH] at h|-;split at h
    .cases h
    .rename_i j;rw[aOi j];cases h;exact⟨rfl,rfl⟩
   |_=>simp [CH] at h
def Fy {H:sA}{toks:pT}{o:Nat}{m:List qP}: ∀{os:pY}{a b:tC},yY H toks o os (some a)=some b->b.args=a.args/\yY H toks o os (some ⟨m,a.H,a.ws,a.n⟩)=some ⟨m,b.H,b.ws,b.n⟩
 |[],a,b,h=>by simp only[yY,aOf] at h;subst h;exact⟨rfl,rfl⟩
 |q::os,a,b,h=>by
  simp only[yY] at h|-;have none_no: ∀os,yY H toks o os none=none:=by
   intro os
   induction os with
   |nil=>rfl
   |cons q os ih=>
    have:zS H (xK toks (o+q)) none=none:=by
     cases xK toks (o+q) with
     |none=>rfl
     |some k=>simp only[zS];cases qU H k with
      |none=>rfl
      |some b=>cases b<;>rfl
    simp only[yY,this,ih]
  cases hm:zS H (xK toks (o+q)) (some a) with
  |none=>rw[hm,none_no] at h;cases h
  |some c=>
   rw[hm] at h;obtain⟨E,D⟩:=a8f (a:=a) (l:=a.args) (m:=m) hm;obtain⟨z,j⟩:=Fy (m:=m) h;rw[D];exact⟨z.trans E,j⟩
def a8g {H:sA}{t:Ty}{os:pY}{i o:Nat}{a b:tC}{m:List qP}(h:w9 H t os i o a (qU H i)=some b):w9 H t os i o ⟨m,a.H,a.ws,a.n⟩ (qU H i)=some ⟨(.val .ref (some (a.n,0)),none)::m,b.H,b.ws,b.n⟩:=by
 cases hb:qU H i with
 |none=>rw[hb] at h;simp [w9] at h
 |some bl=>
  rw[hb] at h;cases bl with
  |cells u x toks=>
   simp only[w9] at h|-;cases j:rT t u x o with
   |none=>rw[j] at h;simp [FZ] at h
   |some y=>
    rw[j] at h;simp only[FZ] at h|-;split at h
    .rename_i z;rw[aOd z];exact(Fy (m:=(.val .ref (some (a.n,0)),none)::m) h).2
    .cases h
  |_=>simp [w9] at h
def Fz {g:Gh}{i o:Nat}{p:Pl}{v:qA}: ∀{l:pT}{vs:pV},yN g l vs->g.J i=some p->v= .pointer (some ⟨p.1,p.2+o,none⟩)->yN g (l++[(i,o)]) (vs++[v])
 |[],vs,h,hp,hv=>by rw[show vs=[] from h];exact⟨p,[],hp,by rw[hv];rfl,rfl⟩
 |(_,_)::l,vs,⟨q,vs',D,z,j⟩,hp,hv=>⟨q,vs'++[v],D,by rw[z];rfl,Fz j hp hv⟩
def Ga {α:Type}: ∀(l acc:List α),zR l acc=l.reverse++acc
 |[],_=>rfl
 |x::l,acc=>by simp [zR,Ga l]
def Gb {g:Gh}{w:pZ}{H:sA}(hH:sM g w H) {t:Ty}{os:pY}{i o:Nat}{vals:pV}{a a':tC}(ha:BX g w H vals a) {p:Pl}(hp:g.J i=some p) (h:w9 H t os i o a (qU H i)=some a'):
  BX g w H vals ⟨a.args,a'.H,a'.ws,a'.n⟩/\∃more,a'.ws.reverse=a.ws.reverse++more/\a'.args=(.val .ref (some (a.n,0)),none)::a.args/\(vO g a'.ws.reverse).J a.n=some ⟨p.1,p.2+o,p.3⟩:=by
 cases hb:qU H i with
 |none=>rw[hb] at h;simp [w9] at h
 |some b=>
  rw[hb] at h;cases b with
  |cells u x toks=>
   simp only[w9] at h;cases D:rT t u x o with
   |none=>rw[D] at h;simp [FZ] at h
   |some y=>
    rw[D] at h;simp only[FZ] at h;split at h
    .rename_i E;simp only[aOo,aO1] at E;obtain⟨ks,bs,Q,U,O,M,z,K,R,h8,I,G⟩:=bp h;simp only[aOY] at O M z K I;have F:i∉sF a.ws.reverse:=λj=>by
      have:=HG.2 ((W8 _ _).1 j);rw[E.2] at this;cases this
     have e5:a'.ws.reverse=a.ws.reverse++([rX.box i u x toks o]++ks.map rX.tok):=by rw[z];simp only[aOk]
     refine⟨⟨by rw[K];simp only;rw[z,ha.n];simp [Q];omega,?_,?_⟩,_,e5,O,?_⟩
     .simp only;rw[M,z,ha.n];exact ha.m.box hb D E.1 F Q U R h8 I G
     .simp only;rw[e5];exact ML (MK g w _ _) ha.args
     show wB g a'.ws.reverse[a.n]? =_;rw[e5,ha.n,aOp (aOA _),aPU];show (g.J i).map _=_;rw[hp];rfl
    .cases h
  |grow=>simp [w9] at h
  |row=>simp [w9] at h
  |map=>simp [w9] at h
  |iter=>simp [w9] at h
  |dead=>simp [w9] at h
def Gc {H:sA}{f:FuncId}{args0:List qP}: ∀{ks:List (Ty×pY)}{cs ids:pT}{a a':tC},y6 H f args0 ks cs ids (some a)=some a'->∃s more,a'.args=s::args0/\a'.ws.reverse=a.ws.reverse++more
 |[],[],ids,a,a',h=>by
  simp only[y6,aOf] at h;subst h;exact⟨_,[],rfl,by simp⟩
 |[],_::_,_,_,_,h=>by simp [y6] at h
 |_::_,[],_,_,_,h=>by simp [y6] at h
 |(t,os)::ks,(i,o)::cs,ids,a,a',h=>by
  simp only[y6] at h;cases hb:w9 H t os i o a (qU H i) with
  |none=>rw[hb] at h;cases ks<;>cases cs<;>simp [y6] at h
  |some b=>
   rw[hb] at h;obtain⟨s,more,E,D⟩:=Gc h;obtain⟨more0,z⟩: ∃more0,b.ws.reverse=a.ws.reverse++more0:=by
    unfold w9 at hb;split at hb
    .unfold FZ at hb;split at hb
     .split at hb
      .obtain⟨ks,bs,_,_,_,_,j,_⟩:=bp hb;exact⟨_,by rw[j];simp only[aOY];exact aOk ..⟩
      cases hb
     cases hb
    cases hb
   exact⟨s,more0++more,E,by rw[D,z,aOk]⟩
def Gd {g:Gh}{w:pZ}{H:sA}(hH:sM g w H) {f:FuncId}{args0:List qP}{vals:pV}: ∀{ks:List (Ty×pY)}{cs:pT}{ids:pT}{vs us:pV}{a a':tC},BX g w H vals ⟨args0,a.H,a.ws,a.n⟩->
  yN g cs vs->yN (vO g a.ws.reverse) ids.reverse us->y6 H f args0 ks cs ids (some a)=some a'->
  BX g w H vals ⟨args0,a'.H,a'.ws,a'.n⟩/\∃ids',a'.args=(.val .clo (some (f,ids')),none)::args0/\(∃more,a'.ws.reverse=a.ws.reverse++more)/\yN (vO g a'.ws.reverse) ids' (us++vs)
 |[],[],ids,vs,us,a,a',ha,hv,z,h=>by
  simp only[y6,Ga,List.append_nil,aOf] at h;subst h;rw[show vs=[] from hv,List.append_nil];exact⟨ha,_,rfl,⟨[],by simp⟩,z⟩
 |[],_::_,_,_,_,_,_,_,_,_,h=>by simp [y6] at h
 |_::_,[],_,_,_,_,_,_,_,_,h=>by simp [y6] at h
 |(t,os)::ks,(i,o)::cs,ids,vs,us,a,a',ha,⟨p,vs',hp,E,D⟩,z,h=>by
  simp only[y6] at h;cases hb:w9 H t os i o a (qU H i) with
  |none=>rw[hb] at h;cases ks<;>cases cs<;>simp [y6] at h
  |some b=>
   rw[hb] at h;have G:w9 H t os i o ⟨args0,a.H,a.ws,a.n⟩ (qU H i)=some ⟨(.val .ref (some (a.n,0)),none)::args0,b.H,b.ws,b.n⟩:=a8g hb;obtain⟨q1,more,q2,q3,q4⟩:=Gb hH ha hp G;simp only at q1 q2 q3 q4;have j:=MK g w a.ws.reverse more;rw[<-q2] at j;have F:yN (vO g b.ws.reverse) ((a.n,0)::ids).reverse (us++[.pointer (some ⟨p.1,p.2+o,none⟩)]):=by
    simp only[aOY];exact Fz (nd j.J z) q4 pP
   obtain⟨z1,ids',z2,⟨more',z3⟩,z4⟩:=Gd hH (a:=b) q1 D F h;refine⟨z1,ids',z2,⟨more++more',by rw[z3,q2,aOk]⟩,?_⟩;rw[E];rw[aOk] at z4;exact z4
def Ge {g:Gh}{w:pZ}{H:sA}(hH:sM g w H) {p:PK}{s:qP}{v:qA}{vals:pV}{a a':tC}(ha:BX g w H vals a) (F:rZ g w s v) (h:y7 H a p s=some a'):BX g w H (vals++[v]) a':=by
 unfold y7 at h;split at h
 .rename_i f k;simp only[YS,aOf] at h;subst h;refine⟨ha.n,ha.m,?_⟩;simp only[aOY];refine G4 ha.args ⟨?_,trivial⟩;rcases F.1 with⟨E,_⟩ |⟨E,vs,G,I⟩
  .cases E
  rw[show vs=[] from G] at I;exact .inr ⟨rfl,[],rfl,I⟩
 .rename_i t x k _;simp only[YR] at h;split at h
  .rename_i hp;simp only[aOf] at h;subst h;refine⟨ha.n,ha.m,?_⟩;simp only[aOY];exact G4 ha.args (a8e hp F)
  cases h
 .simp only[YT,aOf] at h;subst h;refine⟨ha.n,ha.m,?_⟩;simp only[aOY];exact G4 ha.args ⟨F.1,trivial⟩
 .rename_i t x k;cases hb:qU H k with
  |none=>rw[hb] at h;simp [CI] at h
  |some b=>
   rw[hb] at h;cases b with
   |grow e c m=>
    simp only[CI] at h;split at h
    .rename_i z;simp only[aOo,aO1] at z;simp only[aOf] at h;subst h;have D:k∉sF a.ws.reverse:=λj=>by
      have:=HG.2 ((W8 _ _).1 j);rw[z.2] at this;cases this
     refine⟨by simp [ha.n],by simpa using ha.m.tok (b0:= .grow e c m) hb D,?_⟩;simp only[aOY];refine G4 (ML (MK g w _ _) ha.args) (bf (g:=g) (g':=vO g (a.ws.reverse++[.tok k])) (k':=some a.n) rfl z.1 (λ_ _=>⟨_,rfl⟩) F (λc' e1=>?_) (λe1=>by cases e1));cases e1;refine⟨_,rfl,λn u O=>?_⟩;show BW g (a.ws.reverse++[rX.tok k])[a.n]? n=some u;rw[ha.n,aOp (aOA _),aPU];exact O
    .cases h
   |cells=>simp [CI] at h
   |row=>simp [CI] at h
   |map=>simp [CI] at h
   |iter=>simp [CI] at h
   |dead=>simp [CI] at h
 .rename_i t os i o k;obtain⟨p,hp,hv⟩:=zH F.1;obtain⟨E,more,G,I,Q⟩:=Gb hH ha hp h;refine⟨E.n,E.m,?_⟩;rw[I];simp only[aOY];exact G4 E.args ⟨.inr ⟨rfl,_,Q,by rw[hv];rfl⟩,trivial⟩
 .rename_i i k;cases hb:qU H i with
  |none=>rw[hb] at h;simp [CK] at h
  |some b=>
   rw[hb] at h;cases b with
   |map s t l=>
    simp only[CK] at h;split at h
    .rename_i z;simp only[aOo,aO1] at z;simp only[aOf] at h;subst h;have D:i∉sF a.ws.reverse:=λj=>by
      have:=HG.2 ((W8 _ _).1 j);rw[z.2] at this;cases this
     refine⟨by simp [ha.n],by simpa using ha.m.tok (b0:= .map s t l) ⟨hb,z.1.1,z.1.2⟩ D,?_⟩;simp only[aOY];obtain⟨p,hp,hv⟩: ∃p,g.J i=some p/\v= .map (some p.1):=by
      obtain⟨p,E,e⟩:=B9 rfl F.1;simp only[aO5,and_true] at e;exact⟨p,E,e⟩
     refine G4 (ML (MK g w _ _) ha.args) ⟨.inr ⟨rfl,p,?_,by rw[hv]⟩,trivial⟩;show wB g (a.ws.reverse++[rX.tok i])[a.n]? =_;rw[ha.n,aOp (aOA _),aPU];exact hp
    .cases h
   |cells=>simp [CK] at h
   |row=>simp [CK] at h
   |grow=>simp [CK] at h
   |iter=>simp [CK] at h
   |dead=>simp [CK] at h
 .rename_i i k;cases hb:qU H i with
  |none=>rw[hb] at h;simp [CL] at h
  |some b=>
   rw[hb] at h;cases b with
   |map s t l=>
    simp only[CL] at h;split at h
    .rename_i z;simp only[aOo,aO1] at z;simp only[aOf] at h;subst h;have D:i∉sF a.ws.reverse:=λj=>by
      have:=HG.2 ((W8 _ _).1 j);rw[z.2] at this;cases this
     refine⟨by simp [ha.n],by simpa using ha.m.tok (b0:= .map s t l) ⟨hb,z.1.1,z.1.2⟩ D,?_⟩;simp only[aOY];obtain⟨p,hp,hv⟩: ∃p,g.J i=some p/\v= .agg #[.map (some p.1)]:=by
      obtain⟨cs,rfl,c1,c2,rfl,⟨p,E,e⟩,G⟩:=DY rfl F.1;exact⟨p,E,by rw[e,show c2=[] from G];rfl⟩
     refine G4 (ML (MK g w _ _) ha.args) ⟨.inl ⟨rfl,[.map (some p.1)],by rw[hv],[.map (some p.1)],[],rfl,⟨p,?_,rfl⟩,rfl⟩,trivial⟩;show wB g (a.ws.reverse++[rX.tok i])[a.n]? =_;rw[ha.n,aOp (aOA _),aPU];exact hp
    .cases h
   |cells=>simp [CL] at h
   |row=>simp [CL] at h
   |grow=>simp [CL] at h
   |iter=>simp [CL] at h
   |dead=>simp [CL] at h
 .rename_i k n k';cases hb:qU H k with
  |none=>rw[hb] at h;simp [CM] at h
  |some b=>
   rw[hb] at h;cases b with
   |row e t l m=>
    simp only[CM] at h;split at h
    .rename_i z;simp only[aOo,aO1] at z;simp only[aOf] at h;subst h;have D:k∉sF a.ws.reverse:=λj=>by
      have:=HG.2 ((W8 _ _).1 j);rw[z.2] at this;cases this
     refine⟨by simp [ha.n],by simpa using ha.m.tok (b0:= .row e t l m) ⟨hb,z.1⟩ D,?_⟩;simp only[aOY];obtain⟨E,G⟩:=F.1;refine G4 (ML (MK g w _ _) ha.args) ⟨⟨?_,G⟩,trivial⟩;show BW g (a.ws.reverse++[rX.tok k])[a.n]? n=_;rw[ha.n,aOp (aOA _),aPU];exact E
    .cases h
   |cells=>simp [CM] at h
   |grow=>simp [CM] at h
   |map=>simp [CM] at h
   |iter=>simp [CM] at h
   |dead=>simp [CM] at h
 .rename_i ks f cs k';obtain⟨vs,M,K⟩: ∃vs,yN g cs vs/\v= .func (.func f) #[] vs.toArray:=by
   rcases F.1 with⟨E,_⟩ |⟨_,vs,G,I⟩
   .cases E
   simp only[aO5,and_true] at I;exact⟨vs,G,I⟩
  obtain⟨z1,ids',z2,_,z4⟩:=Gd hH (ids:=[]) (a:=a) (us:=[]) ha M rfl h;refine⟨z1.n,z1.m,?_⟩;rw[z2];simp only[aOY];exact G4 z1.args ⟨.inr ⟨rfl,vs,by simpa using z4,by rw[K]⟩,trivial⟩
 cases h
def Gf {g:Gh}{w:pZ}{H:sA}(hH:sM g w H): ∀{ps:List PK}{ss:List qP}{vs vals:pV}{a a':tC},BX g w H vals a->wW g w ss vs->y8 H ps ss (some a)=some a'->BX g w H (vals++vs) a'
 |[],[],vs,vals,a,a',ha,z,h=>by
  simp only[y8,aOf] at h;subst h;rw[show vs=[] from z,List.append_nil];exact ha
 |p::ps,s::ss,vs,vals,a,a',ha,⟨v,vs',e,E,D⟩,h=>by
  simp only[y8] at h;cases j:y7 H a p s with
  |none=>rw[j] at h;cases ps<;>cases ss<;>simp [y8] at h
  |some a1=>
   rw[j] at h;have:=Gf hH (Ge hH ha E j) D h;rw[e];simpa using this
 |[],_::_,_,_,_,_,_,_,h=>by simp [y8] at h
 |_::_,[],_,_,_,_,_,_,h=>by simp [y8] at h
def BX.nil (g:Gh) (w:pZ) (H:sA):BX g w H [] ⟨[],[],[],0⟩:=
 ⟨rfl,⟨rfl,λc wh b h _=>by simp at h,by simp [sF]⟩,rfl⟩
def Gg: ∀(l:List qQ) (n:Nat),J8 l n=l[n]?
 |[],_=>by simp [J8]
 |_::_,0=>rfl
 |_::r,n+1=>by simpa[J8] using Gg r n
def a8h {g:Gh}{w:pZ}: ∀{t:Ty}{x:t.den}{cs:pV}{o:Nat}{y:pW},Rd g w t x cs->H3 t x o=some y->∃cs',G3 g y cs':=by
 intro t
 induction t with
 |pair a b iha ihb=>
  intro x cs o y r h;obtain⟨c1,c2,_,r1,r2⟩:=r;simp only[H3] at h;split at h
  .exact iha r1 h
  .exact ihb r2 h
 |rl e u=>
  intro x cs o y r h;cases o with
  |zero=>simp only[H3,aOf] at h;subst h;exact⟨cs,r⟩
  |succ o=>simp [H3] at h
 |_=>intro x cs o y r h;cases o<;>simp [H3] at h
def a8i {g:Gh}{w:pZ}{H:sA}(hH:sM g w H) {vals:pV}{a:tC}(ha:BX g w H vals a) (c q:Nat) (pk:PK): ∃v,rZ g w (LT q pk (J8 a.H c)) v:=by
 rw[Gg];have any: ∃v,rZ g w (.any,none) v:=⟨undef,trivial,trivial⟩;cases hb:a.H[c]? with
 |none=>cases pk<;>exact any
 |some b=>
  cases b with
  |cells t y ts=>
   have V:c<a.H.length:=(aOw.1 hb).1;have K:a.H.reverse[a.H.length-1-c]? =some (.cells t y ts):=by
    rw[List.getElem?_reverse pN,show a.H.length-1- (a.H.length-1-c)=c by omega];exact hb
   obtain⟨wh,G⟩: ∃wh,a.ws.reverse[a.H.length-1-c]? =some wh:=by
    have O:=ha.m.len;simp only[List.length_reverse] at O;exact⟨_,aOn (by rw[List.length_reverse];omega)⟩
   have M:=ha.m.ok _ wh _ G K;cases wh with
   |tok k=>exact M.elim
   |box i u x toks off=>
    obtain⟨U,R,_⟩:=M;obtain⟨p,cs,hp,Q,_⟩:=hH.blk i _ U;obtain⟨c1,c2,c3,X,O,E⟩:=DX Q R;cases pk with
    |p t' os=>
     simp only[LT];cases F:rT .ref t y q with
     |none=>exact any
     |some z=>
      cases z with
      |none=>exact any
      |some z=>
       obtain⟨d1,d2,d3,_,_,j⟩:=DX E F;obtain⟨p',D,e⟩:=j;exact⟨_,.inr ⟨rfl,p',D,rfl⟩,trivial⟩
    |m=>
     simp only[LT];cases F:rT .mp t y q with
     |none=>exact any
     |some z=>
      cases z with
      |none=>exact any
      |some z=>
       obtain⟨d1,d2,d3,_,_,j⟩:=DX E F;obtain⟨p',D,e⟩:=j;exact⟨_,.inr ⟨rfl,p',D,rfl⟩,trivial⟩
    |v=>exact any
    |own=>exact any
    |s=>exact any
    |f ks=>exact any
    |r=>
     simp only[LT];cases F:H3 t y q with
     |none=>exact any
     |some z=>
      cases z with
      |none=>exact any
      |some z=>
       obtain⟨cs',j⟩:=a8h E F;obtain⟨v,hv,_,I⟩:=j;exact⟨v,⟨hv,I⟩,trivial⟩
  |_=>cases pk<;>exact any
def Gi {g:Gh}{w:pZ}{H:sA}(hH:sM g w H) {vals:pV}: ∀{gs:List (Nat×Nat×PK)}{a a':tC},BX g w H vals a->BQ H gs (some a)=some a'->BX g w H vals a'
 |[],a,a',ha,h=>by
  simp only[BQ,aOf] at h;subst h;exact ha
 |(c,q,pk)::gs,a,a',ha,h=>by
  simp only[BQ] at h;obtain⟨v,hv⟩:=a8i hH ha (a.n-1-c) q pk;cases hp:y7 H a pk (LT q pk (J8 a.H (a.n-1-c))) with
  |none=>
   rw[hp] at h;simp only[QV] at h;cases gs<;>simp [BQ] at h
  |some b=>
   rw[hp] at h;simp only[QV] at h;have hb:=Ge hH ha hv hp;refine Gi hH (a:=⟨a.args,b.H,b.ws,b.n⟩) ⟨hb.n,hb.m,?_⟩ h;obtain⟨s,more,e1,e2⟩: ∃s more,b.args=s::a.args/\b.ws.reverse=a.ws.reverse++more:=by
    have j:=hp;unfold y7 at j;split at j
    .simp only[YS,aOf] at j;subst j;exact⟨_,[],rfl,by simp⟩
    .simp only[YR] at j;split at j
     .simp only[aOf] at j;subst j;exact⟨_,[],rfl,by simp⟩
     cases j
    .simp only[YT,aOf] at j;subst j;exact⟨_,[],rfl,by simp⟩
    .unfold CI at j;split at j
     .split at j
      .simp only[aOf] at j;subst j;exact⟨_,[_],rfl,aOY ..⟩
      cases j
     cases j
    .unfold w9 at j;split at j
     .unfold FZ at j;split at j
      .split at j
       .obtain⟨ks,bs,_,_,D,_,z,_⟩:=bp j;exact⟨_,_,D,by rw[z];simp only[aOY];exact aOk ..⟩
       cases j
      cases j
     cases j
    .unfold CK at j;split at j
     .split at j
      .simp only[aOf] at j;subst j;exact⟨_,[_],rfl,aOY ..⟩
      cases j
     cases j
    .unfold CL at j;split at j
     .split at j
      .simp only[aOf] at j;subst j;exact⟨_,[_],rfl,aOY ..⟩
      cases j
     cases j
    .unfold CM at j;split at j
     .split at j
      .simp only[aOf] at j;subst j;exact⟨_,[_],rfl,aOY ..⟩
      cases j
     cases j
    .exact Gc j
    cases j
   rw[e2];exact ML (MK g w _ _) ha.args
def a8j {b:Option qQ}{l:Option (List qQ)}{r:List qQ}(h:kl b l=some r): ∃b' l',b=some b'/\l=some l'/\r=b'::l':=by
 cases b<;>cases l<;>simp [kl] at h
 exact⟨_,_,rfl,rfl,h.symm⟩
def Gj {W:List rX}: ∀{L0 L:List qQ},J9 W L0=some L->L.length=L0.length/\∀(c:Nat) (b:qQ),L[c]? =some b->∃b0,L0[c]? =some b0/\YV W b0=some b
 |[],L,h=>by
  simp only[J9,aOf] at h;subst h;exact⟨rfl,λc b h=>by simp at h⟩
 |b0::L0,L,h=>by
  simp only[J9] at h;obtain⟨b',l',D,z,rfl⟩:=a8j h;obtain⟨k1,k2⟩:=Gj z;refine⟨by simp [k1],λc b j=>?_⟩;cases c with
  |zero=>simp only[aOL,aOf] at j;subst j;exact⟨b0,rfl,D⟩
  |succ c=>obtain⟨b1,q1,q2⟩:=k2 c b aQf;exact⟨b1,by simpa using q1,q2⟩
def HF.ren {H:sA}{ws:List rX}{L0 L:List qQ}(h:HF H ws L0) (K:J9 ws L0=some L):W7 H ws L:=by
 obtain⟨k1,k2⟩:=Gj K;refine⟨h.len.trans k1.symm,λc wh b I hb=>?_,h.nodup⟩;obtain⟨b0,q1,q2⟩:=k2 c b hb;have j:=h.ok c wh b0 I q1;cases b0 with
 |cells t y ts=>
  cases wh with
  |tok k=>exact j.elim
  |box i u x toks o=>
   obtain⟨G,F,E⟩:=j;simp only[YV] at q2;split at q2
   .rename_i hp;obtain rfl:=aOj q2;exact⟨G,⟨y,F,.inl ⟨hp,rfl⟩⟩,E⟩
   .cases D:DR ws t y with
    |none=>rw[D] at q2;cases q2
    |some z=>
     rw[D] at q2;obtain rfl:=aOj q2;exact⟨G,⟨y,F,.inr D⟩,E⟩
 |_=>
  simp only[YV,aOf] at q2;subst q2;cases wh<;>exact j
theorem AI: ∀(W:List rX) (c:Nat),B4 W c=W[c]?
  |[],c=>by simp [B4]
  |_::_,0=>rfl
  |_::W,c+1=>by simpa[B4] using AI W c
theorem Gk: ∀L:List qQ,wR L=L.length
  |[]=>rfl
  |_::L=>by simp [wR,Gk L]
theorem Gm {α:Type}: ∀(l acc:List α),zR l acc=l.reverse++acc
  |[],_=>rfl
  |x::l,acc=>by simp [zR,Gm l]
theorem qd {a:Option (Nat×qQ)}{b:Option (List (Nat×qQ))}{l:List (Nat×qQ)}(h:V9 a b=some l): ∃q r,a=some q/\b=some r/\l=q::r:=by
  cases a<;>cases b<;>simp [V9] at h
  exact⟨_,_,rfl,rfl,h.symm⟩
def JO (base n:Nat) (W ws:List rX) (R:List qQ) (c0:Nat) (id:Nat) (b:qQ):Prop:=
  (∃(c:Nat) (i:Nat) (u:Ty) (x:u.den) (toks:pT) (o:Nat) (b0:qQ),ws[c]? =some (.box i u x toks o)/\id=i/\R[c]? =some b0/\y9 base n i o W u x toks b0=some (i,b))\/
  (∃(c k:Nat) (b0:qQ),ws[c]? =some (.tok k)/\id=k/\R[c]? =some b0/\AE k b0=some (k,b))\/
  (∃(c:Nat) (b0:qQ),R[c]? =some b0/\id=base+(c0+c)/\ws[c]? =none/\F4 base n (c0+c) W b0=some (id,b))
theorem JO.succ {base n:Nat}{W:List rX}{wh:rX}{ws:List rX}{b0:qQ}{R:List qQ}{c0 id:Nat}{b:qQ}(h:JO base n W ws R (c0+1) id b):JO base n W (wh::ws) (b0::R) c0 id b:=by
  rcases h with⟨c,i,u,x,toks,o,b1,E,D,z,j⟩ |⟨c,k,b1,E,D,z,j⟩ |⟨c,b1,E,D,z,j⟩
  .exact .inl ⟨c+1,i,u,x,toks,o,b1,by simpa using E,D,by simpa using z,j⟩
  .exact .inr (.inl ⟨c+1,k,b1,by simpa using E,D,by simpa using z,j⟩)
  exact .inr (.inr ⟨c+1,b1,by simpa using E,by rw[D];omega,by simpa using z,by rw[show c0+(c+1)=c0+1+c from by omega];exact j⟩)
theorem JO.succ0 {base n:Nat}{W:List rX}{b0:qQ}{R:List qQ}{c0 id:Nat}{b:qQ}(h:JO base n W [] R (c0+1) id b):JO base n W [] (b0::R) c0 id b:=by
  rcases h with⟨c,i,u,x,toks,o,b1,j,_⟩ |⟨c,k,b1,j,_⟩ |⟨c,b1,j,D,E,z⟩
  .simp at j
  .simp at j
  exact .inr (.inr ⟨c+1,b1,by simpa using j,by rw[D];omega,by simp,by rw[show c0+(c+1)=c0+1+c from by omega];exact z⟩)
theorem Gn {i:Nat}{t:Ty}{ts:pT}{o:Option t.den}{q:Nat×qQ}(h:Cb i t ts o=some q): ∃y,o=some y/\q=(i,.cells t y ts):=by
  cases o with
  |none=>cases h
  |some y=>exact⟨y,rfl,(aOj h).symm⟩
theorem a8k {base n c:Nat}{W:List rX}{b:qQ}{q:Nat×qQ}(h:F4 base n c W b=some q):q.1=base+c:=by
  cases b<;>simp only[F4] at h
  · split at h
    .exact(aOj h)▸rfl
    obtain⟨y,_,rfl⟩:=Gn h;rfl
  .exact(aOj h)▸rfl
  · split at h
    .exact(aOj h)▸rfl
    cases h
  · split at h
    .exact(aOj h)▸rfl
    cases h
  .cases h
  exact(aOj h)▸rfl
def bY (base n:Nat) (W:List rX) (t:Ty) (x y:t.den):Prop:=(t.pure=true/\y=x)\/CN base n W t x=some y
theorem qe {base n i o:Nat}{W:List rX}{u t:Ty}{x:u.den}{y:t.den}{toks ts:pT}{q:Nat×qQ}(h:y9 base n i o W u x toks (.cells t y ts)=some q):
    ∃y2 z,bY base n W t y y2/\sW t y2 u x o=some z/\q=(i,.cells u z (rL (F3 base n W o ts) (vZ toks o t.cells))):=by
  simp only[y9] at h;split at h
  · rename_i hp
    cases j:sW t y u x o with
    |none=>rw[j] at h;simp [YX] at h
    |some z=>rw[j] at h;exact⟨y,z,.inl ⟨hp,rfl⟩,j,(aOj h).symm⟩
  cases D:CN base n W t y with
  |none=>rw[D] at h;cases h
  | some y2=>
    rw[D] at h;simp only[Cc] at h;cases j:sW t y2 u x o with
    |none=>rw[j] at h;simp [YX] at h
    |some z=>rw[j] at h;exact⟨y2,z,.inr D,j,(aOj h).symm⟩
theorem a8l {k:Nat}{b:qQ}{q:Nat×qQ}(h:AE k b=some q):q.1=k:=by
  cases b<;>simp only[AE] at h
  .cases h
  .exact(aOj h)▸rfl
  · split at h
    .exact(aOj h)▸rfl
    cases h
  · split at h
    .exact(aOj h)▸rfl
    cases h
  .cases h
  exact(aOj h)▸rfl
theorem a8m {base n i o:Nat}{W:List rX}{u:Ty}{x:u.den}{toks:pT}{b:qQ}{q:Nat×qQ}(h:y9 base n i o W u x toks b=some q):q.1=i:=by
  cases b with
  |cells t y ts=>obtain⟨y2,z,_,_,rfl⟩:=qe h;rfl
  |grow=>simp [y9] at h
  |row=>simp [y9] at h
  |map=>simp [y9] at h
  |iter=>simp [y9] at h
  |dead=>simp only[y9,aOf] at h;exact h▸rfl
theorem RR {base n:Nat}{W:List rX}: ∀{ws:List rX}{R:List qQ}{c0:Nat}{upd:List (Nat×qQ)},BR base n W c0 ws R=some upd->
    ws.length<=R.length/\(∀id b,qU upd id=some b->JO base n W ws R c0 id b)/\(∀id,id∈qW upd->∃b,qU upd id=some b)/\
    (∀(c:Nat) wh,ws[c]? =some wh->wh.id∈qW upd)/\(∀(c:Nat) b,R[c]? =some b->ws[c]? =none->base+(c0+c)∈qW upd)
  | [],[],_,upd,h=>by
    simp only[BR,aOf] at h;subst h;exact⟨aOA _,λ_ _ h=>by simp [qU] at h,λ_ h=>by simp [qW] at h,λ_ _ h=>by simp at h,λ_ _ h=>by simp at h⟩
  | [],b::R,c0,upd,h=>by
    simp only[BR] at h;obtain⟨q,r,E,G,rfl⟩:=qd h;obtain⟨k1,k2,k3,k4,k5⟩:=RR G;have D:=a8k E;obtain⟨q1,q2⟩:=q;simp only at D;subst D;refine⟨by simp,λid b' j=>?_,λid hi=>?_,λc wh z=>by simp at z,λc b' hb F=>?_⟩
    · simp only[qU] at j
      split at j
      · rename_i e
        obtain rfl:=aOj j;subst e;exact .inr (.inr ⟨0,b,rfl,rfl,by simp,E⟩)
      exact(k2 id b' j).succ0
    · simp only[qU]
      by_cases e:base+c0=id
      .rw[aOd e];exact⟨_,rfl⟩
      rw[aOi e]
      simp only[qW,aOv] at hi;exact k3 id (hi.resolve_left (Ne.symm e))
    · cases c with
      |zero=>simp [qW]
      | succ c=>
        have:=k5 c b' aQo pP;simp only[qW,aOv];right;rw[show base+(c0+(c+1))=base+(c0+1+c) from by omega];exact this
  | .box i u x toks o::ws,[],c0,upd,h=>by simp [BR] at h
  | .tok k::ws,[],c0,upd,h=>by simp [BR] at h
  | .box i u x toks o::ws,b::R,c0,upd,h=>by
    simp only[BR] at h;obtain⟨q,r,E,G,rfl⟩:=qd h;obtain⟨k1,k2,k3,k4,k5⟩:=RR G;have D:=a8m E;obtain⟨q1,q2⟩:=q;simp only at D;subst D;refine⟨by simp;omega,λid b' j=>?_,λid hi=>?_,λc wh z=>?_,λc b' hb F=>?_⟩
    · simp only[qU] at j
      split at j
      · rename_i e
        obtain rfl:=aOj j;subst e;exact .inl ⟨0,q1,u,x,toks,o,b,rfl,rfl,rfl,E⟩
      exact(k2 id b' j).succ
    · simp only[qU]
      by_cases e:q1=id
      .rw[aOd e];exact⟨_,rfl⟩
      rw[aOi e]
      simp only[qW,aOv] at hi;exact k3 id (hi.resolve_left (Ne.symm e))
    · cases c with
      |zero=>simp only[aOL,aOf] at z;subst z;simp [qW,rX.id]
      |succ c=>simp only[qW,aOv];exact .inr (k4 c wh aQg)
    · cases c with
      |zero=>simp at F
      | succ c=>
        have:=k5 c b' aQo aQn;simp only[qW,aOv];right;rw[show base+(c0+(c+1))=base+(c0+1+c) from by omega];exact this
  | .tok k::ws,b::R,c0,upd,h=>by
    simp only[BR] at h;obtain⟨q,r,E,G,rfl⟩:=qd h;obtain⟨k1,k2,k3,k4,k5⟩:=RR G;have D:=a8l E;obtain⟨q1,q2⟩:=q;simp only at D;subst D;refine⟨by simp;omega,λid b' j=>?_,λid hi=>?_,λc wh z=>?_,λc b' hb F=>?_⟩
    · simp only[qU] at j
      split at j
      · rename_i e
        obtain rfl:=aOj j;subst e;exact .inr (.inl ⟨0,q1,b,rfl,rfl,rfl,E⟩)
      exact(k2 id b' j).succ
    · simp only[qU]
      by_cases e:q1=id
      .rw[aOd e];exact⟨_,rfl⟩
      rw[aOi e]
      simp only[qW,aOv] at hi;exact k3 id (hi.resolve_left (Ne.symm e))
    · cases c with
      |zero=>simp only[aOL,aOf] at z;subst z;simp [qW,rX.id]
      |succ c=>simp only[qW,aOv];exact .inr (k4 c wh aQg)
    cases c with
    |zero=>simp at F
    | succ c=>
      have:=k5 c b' aQo aQn;simp only[qW,aOv];right;rw[show base+(c0+(c+1))=base+(c0+1+c) from by omega];exact this
def uB (g g':Gh) (base:Nat) (W:List rX) (ids:pY):Gh:=
  ⟨g'.S,λi=>if base<=i/\i∈ids then g'.J (i-base) else match wQ i W 0 with|some c=>g'.J c|none=>g.J i,
   λi=>if base<=i/\i∈ids then g'.cur (i-base) else match wQ i W 0 with|some c=>g'.cur c|none=>g.cur i⟩
theorem bq {n c:Nat}{wh:Option rX}:QW n c wh=true↔c<n/\wh=none:=by
  cases wh with
  |none=>simp [QW]
  |some wh=>simp [QW]
theorem a8n {base n c i:Nat}{wh:Option rX}(h:B5 base n c wh=some i):wh=some (.tok i)\/(wh=none/\c<n/\i=base+c):=by
  cases wh with
  | none=>
    simp only[B5] at h;split at h
    .rename_i j;exact .inr ⟨rfl,j,(aOj h).symm⟩
    .cases h
  | some wh=>
    cases wh with
    |box=>cases h
    |tok k=>simp only[B5,aOf] at h;subst h;exact .inl rfl
theorem br {i:Nat}: ∀{ws:List rX}{c0:Nat},(∀c:Nat,ws[c]? ≠some (.tok i))->wQ i ws c0=none
  |[],_,_=>rfl
  | .tok j::r,c0,h=>by
    simp only[wQ];split
    .rename_i e;subst e;exact absurd rfl (h 0)
    .exact br (λc=>by have:=h (c+1);simpa using this)
  | .box _ _ _ _ _::r,c0,h=>by
    simp only[wQ];exact br (λc=>by have:=h (c+1);simpa using this)
theorem a8o {i c:Nat}{ws:List rX}(z:(sF ws).Nodup) (h:ws[c]? =some (.tok i)):wQ i ws 0=some c:=by
  cases D:wQ i ws 0 with
  | none=>
    exfalso
    have: ∀{ws:List rX}{c0 c:Nat},ws[c]? =some (.tok i)->wQ i ws c0≠none:=by
      intro ws
      induction ws with
      |nil=>intro c0 c h;simp at h
      | cons wh r ih=>
        intro c0 c h;cases c with
        | zero=>
          simp only[aOL,aOf] at h;subst h;simp [wQ]
        | succ c=>
          simp only[aOZ] at h;cases wh with
          |box=>exact ih h
          | tok j=>
            simp only[wQ];split
            .simp
            exact ih h
    exact this h D
  | some d=>
    obtain⟨d',e1,E⟩:=RQ D;rw[aOO] at e1;subst e1;rw[bo z h E rfl]
theorem Fr.mono {A B:Nat->Nat->Prop}{w w':pZ}{S S':Nat->Nat->Prop}(h:Fr A w w' S S') (j: ∀b o,A b o->B b o):Fr B w w' S S':=
  ⟨h.os,h.tape,h.output,h.size,λb hb E=>h.blk b hb (λo D=>E o (j b o D)),λb o hb E=>h.cell b o hb (λD=>E (j b o D)),λb o z=>(h.new b o z).imp id (Or.imp id (j b o)),λb s z=>(h.shape b s z).imp id λh o=>j b o (h o)⟩
theorem bt {base n:Nat}{W:List rX}{o:Nat}: ∀{ts:pT}{q k:Nat},(q,k)∈F3 base n W o ts->∃q' c,(q',c)∈ts/\B5 base n c (B4 W c)=some k/\q=o+q'
  |[],_,_,h=>by simp [F3] at h
  | (q',c)::r,q,k,h=>by
    simp only[F3] at h;cases j:B5 base n c (B4 W c) with
    | none=>
      rw[j] at h;obtain⟨a,b,D,z⟩:=bt h;exact⟨a,b,aOu _ D,z⟩
    | some k'=>
      rw[j] at h;rcases aOv.1 h with h|h
      · simp only[aOJ] at h
        obtain⟨rfl,rfl⟩:=h;exact⟨q',c,by simp,j,rfl⟩
      obtain⟨a,b,D,z⟩:=bt h
      exact⟨a,b,aOu _ D,z⟩
theorem wX {α:Type}{x:α}: ∀{l m:List α},x∈rL l m↔x∈l\/x∈m
  |[],m=>by simp [rL]
  |y::l,m=>by simp [rL,wX (l:=l),or_assoc]
theorem qf: ∀{toks:pT}{off n q k:Nat},(q,k)∈vZ toks off n->(q,k)∈toks/\¬(off<=q/\q<off+n)
  |[],_,_,_,_,h=>by simp [vZ] at h
  | (q',k')::r,off,n,q,k,h=>by
    simp only[vZ] at h;split at h
    · obtain⟨z,j⟩:=qf h
      exact⟨aOu _ z,j⟩
    rename_i D
    rcases aOv.1 h with h|h
    · cases h
      exact⟨by simp,D⟩
    obtain⟨z,j⟩:=qf h
    exact⟨aOu _ z,j⟩
section
variable {g g':Gh}{w w':pZ}{H:sA}{W:List rX}{L:List qQ}{r:r9}{v:qA}{base:Nat}{upd:List (Nat×qQ)}
variable (hH:sM g w H) (hm:W7 H W L) (hr:MJ (vO g W) w L r g' w' v) (hb:BR base r.H.length W 0 W r.H=some upd) (hf: ∀i,i∈qW upd->base<=i->g.J i=none/\∀n,g.cur i n=none)
include hH hm hr hb hf
theorem G5 {c:Nat}{wh:rX}(G:W[c]? =some wh):wh.id∈qW upd/\wh.id<base/\∃b,L[c]? =some b/\bh H W wh b:=by
  have F:=(RR hb).2.2.2.1 c wh G;have E:c<L.length:=hm.len▸(aOw.1 G).1;have j:=hm.ok c wh _ G (aOn E);refine⟨F,Nat.lt_of_not_le λI=>?_,_,aOn E,j⟩;have z:=hf _ F I;cases wh with
  | box i u x toks o=>
    cases D:L[c] with
    | cells t y ts=>
      rw[D] at j;obtain⟨p,cs,hp,_⟩:=hH.blk i _ j.1;rw[show (rX.box i u x toks o).id=i from rfl] at z;rw[z.1] at hp;cases hp
    |_=>rw[D] at j;exact j.elim
  | tok k=>
    cases D:L[c] with
    | grow e cc m=>
      rw[D] at j;obtain⟨v,xs,hv,_⟩:=hH.blk k _ j;rw[show (rX.tok k).id=k from rfl] at z;rw[z.2] at hv;cases hv
    | map s t l=>
      rw[D] at j;obtain⟨p,es,cl,hp,_⟩:=hH.blk k _ j.1;rw[show (rX.tok k).id=k from rfl] at z;rw[z.1] at hp;cases hp
    | row e t l m=>
      rw[D] at j;obtain⟨_,v,xs,hv,_⟩:=hH.blk k _ j.1;rw[show (rX.tok k).id=k from rfl] at z;rw[z.2] at hv;cases hv
    |_=>rw[D] at j;exact j.elim
theorem a8p {c:Nat}(z:c<r.H.length) (j:W[c]? =none):base+c∈qW upd:=by
  have:=(RR hb).2.2.2.2 c _ (aOn z) j;simpa using this
theorem RS {c:Nat}(D:c<r.H.length) (z:W[c]? =none):(uB g g' base W (qW upd)).J (base+c)=g'.J c/\(uB g g' base W (qW upd)).cur (base+c)=g'.cur c:=by
  have j:=a8p hH hm hr hb hf D z;refine⟨?_,?_⟩
  · show (if base<=base+c/\base+c∈qW upd then _ else _)=_
    rw[aOd ⟨pN,j⟩,aOW]
  show (if base<=base+c/\base+c∈qW upd then _ else _)=_
  rw[aOd ⟨pN,j⟩,aOW]
theorem Gp {i:Nat}(hi: ¬(base<=i/\i∈qW upd)) (j:wQ i W 0=none):(uB g g' base W (qW upd)).J i=g.J i/\(uB g g' base W (qW upd)).cur i=g.cur i:=by
  refine⟨?_,?_⟩
  · show (if base<=i/\i∈qW upd then _ else _)=_
    rw[aOi hi,j]
  show (if base<=i/\i∈qW upd then _ else _)=_
  rw[aOi hi,j]
theorem Gq {c k:Nat}(z:W[c]? =some (.tok k)):(uB g g' base W (qW upd)).J k=g'.J c/\(uB g g' base W (qW upd)).cur k=g'.cur c:=by
  have j:=(G5 hH hm hr hb hf z).2.1;simp only[rX.id] at j;have D:=a8o hm.nodup z;refine⟨?_,?_⟩
  · show (if base<=k/\k∈qW upd then _ else _)=_
    rw[aOi pN,D]
  show (if base<=k/\k∈qW upd then _ else _)=_
  rw[aOi pN,D]
theorem W9 {c i:Nat}{u:Ty}{x:u.den}{toks:pT}{o:Nat}(j:W[c]? =some (.box i u x toks o)):(uB g g' base W (qW upd)).J i=g.J i/\(uB g g' base W (qW upd)).cur i=g.cur i:=by
  have D:=(G5 hH hm hr hb hf j).2.1;simp only[rX.id] at D;refine Gp hH hm hr hb hf pN (br λd z=>?_);have:=bo hm.nodup j z rfl;subst this;rw[j] at z;cases z
theorem MM {c i:Nat}(hi:B5 base r.H.length c W[c]? =some i):(uB g g' base W (qW upd)).J i=g'.J c/\(uB g g' base W (qW upd)).cur i=g'.cur c:=by
  rcases a8n hi with h|⟨z,j,rfl⟩
  .exact Gq hH hm hr hb hf h
  exact RS hH hm hr hb hf j z
theorem Gr:Le g w (uB g g' base W (qW upd)) w':=by
  have len: ∀{i c:Nat},wQ i W 0=some c->W[c]? =some (.tok i)/\c<L.length:=by
    intro i c h;obtain⟨d,e1,j⟩:=RQ h;rw[aOO] at e1;subst e1;exact⟨j,hm.len▸(aOw.1 j).1⟩
  refine⟨λb o h=>(hr.shut b o h).1,λb o h=>(hr.shut b o h).2,λi p h=>?_,λi n u h=>?_⟩
  · show (if base<=i/\i∈qW upd then _ else _)=_
    rw[aOi (λ⟨z,j⟩=>by rw[(hf i j z).1] at h;cases h)];cases D:wQ i W 0 with
    |none=>exact h
    | some c=>
      obtain⟨z,j⟩:=len D;refine hr.Jt c p j ?_;show wB g W[c]? =_;rw[z];exact h
  show (if base<=i/\i∈qW upd then g'.cur (i-base) else match wQ i W 0 with|some c=>g'.cur c|none=>g.cur i) n=_
  rw[aOi (λ⟨z,j⟩=>by rw[(hf i j z).2] at h;cases h)];cases D:wQ i W 0 with
  |none=>exact h
  | some c=>
    obtain⟨z,j⟩:=len D;refine hr.cur c n u j ?_;show BW g W[c]? n=_;rw[z];exact h
theorem a8q {t:Ty}{x y:t.den}{cs:pV}(z:Rd g' w' t x cs) (h:CN base r.H.length W t x=some y):Rd (uB g g' base W (qW upd)) w' t y cs:=by
  refine bn (g:=g') (g':=uB g g' base W (qW upd)) rfl (CN base r.H.length W) (λa b x=>rfl) (λt x=>rfl) (λ_=>rfl) (λ_ _=>rfl) (λ_=>rfl) (λ_=>rfl) (λ_=>rfl) (λ_=>rfl) (λ_ _ x y cs h z=>?_) (λx y cs h z=>?_) (λx y cs h z=>?_) (λx y cs h z=>?_) (λ_=>rfl) z h
  · cases x with
    |none=>cases h;exact z
    | some q=>
      obtain⟨c,n⟩:=q;simp only[CN,Ca,AI] at h;obtain⟨i,hi,rfl⟩:=aOq.1 h;obtain⟨v,hv,R⟩:=z;exact⟨v,by rw[(MM hH hm hr hb hf hi).2];exact hv,R⟩
  · cases x with
    |none=>cases h;exact z
    | some q=>
      obtain⟨c,o⟩:=q;simp only[CN,LW] at h;obtain⟨p,hp,hv⟩:=z;unfold LW.back2 at h;split at h
      · rename_i i uu x toks o' j
        cases h;rw[AI] at j;obtain⟨_,Q,b,M,F⟩:=G5 hH hm hr hb hf j;cases b with
        | cells t y ts=>
          have G:=hr.J c t y ts M;rw[hp] at G;have D:wB g W[c]? =some p:=G.symm;rw[j] at D;obtain⟨p0,E,rfl⟩:=aOq.1 D;exact⟨p0,by rw[(W9 hH hm hr hb hf j).1];exact E,by have:=hv.1;rwa [aOX] at this,hv.2.imp id λhv=>by rw[hv];simp [aOX]⟩
        |_=>exact F.elim
      split at h
      · rename_i K
        cases h;obtain⟨O,I⟩:=bq.1 K;rw[AI] at I;exact⟨p,by rw[(RS hH hm hr hb hf O I).1];exact hp,hv⟩
      cases h
  · cases x with
    |none=>cases h;exact z
    | some q=>
      obtain⟨c,o⟩:=q;simp only[CN,LW] at h;obtain⟨p,hp,hv⟩:=z;unfold LW.back2 at h;split at h
      · rename_i i uu x toks o' j
        cases h;rw[AI] at j;obtain⟨_,Q,b,M,F⟩:=G5 hH hm hr hb hf j;cases b with
        | cells t y ts=>
          have G:=hr.J c t y ts M;rw[hp] at G;have D:wB g W[c]? =some p:=G.symm;rw[j] at D;obtain⟨p0,E,rfl⟩:=aOq.1 D;exact⟨p0,by rw[(W9 hH hm hr hb hf j).1];exact E,by rw[hv];simp [aOX]⟩
        |_=>exact F.elim
      split at h
      · rename_i K
        cases h;obtain⟨O,I⟩:=bq.1 K;rw[AI] at I;exact⟨p,by rw[(RS hH hm hr hb hf O I).1];exact hp,hv⟩
      cases h
  cases x with
  |none=>cases h;exact z
  | some c=>
    simp only[CN,Bz,AI] at h;obtain⟨i,hi,rfl⟩:=aOq.1 h;obtain⟨p,hp,hv⟩:=z;exact⟨p,by rw[(MM hH hm hr hb hf hi).1];exact hp,hv⟩
theorem Gs {t:Ty}{x y:t.den}{cs:pV}(j:Rd g' w' t x cs) (h:bY base r.H.length W t x y):Rd (uB g g' base W (qW upd)) w' t y cs:=by
  rcases h with⟨hp,rfl⟩ |h
  .exact vJ (g:=g') (g':=uB g g' base W (qW upd)) rfl hp j
  exact a8q hH hm hr hb hf j h
omit hH hm hr hb hf in
theorem Gt {n:Nat}{t u:Ty}{x y:t.den}{o:Nat}{l:List u.den}(h:bY base n W t x y) (j:rT (.list u) t x o=some l):rT (.list u) t y o=some l:=by
  rcases h with⟨_,rfl⟩ |h
  .exact j
  exact qb (CN base n W) (λ_ _ _=>rfl) (λ_ _=>rfl) h j
theorem Gu: ∀(cs:pT) {l:pT}{vs:pV},yN g' cs vs->QX base r.H.length W cs=some l->yN (uB g g' base W (qW upd)) l vs
  |[],l,vs,h,e=>by cases e;exact h
  | (c,o)::cs,l,vs,⟨p,vs',hp,hv,F⟩,e=>by
    unfold QX at e;cases j:km base r.H.length c o (B4 W c) with
    |none=>rw[j] at e;cases e
    | some q=>
      cases E:QX base r.H.length W cs with
      |none=>rw[j,E] at e;cases e
      | some l'=>
        rw[j,E] at e;cases e;refine(?_ : ∃p vs',_);have ih:=Gu cs F E;unfold km at j;split at j
        · rename_i i uu x toks o' z
          cases j;rw[AI] at z;obtain⟨_,U,b,Q,I⟩:=G5 hH hm hr hb hf z;cases b with
          | cells t y ts=>
            have K:=hr.J c t y ts Q;rw[hp] at K;have D:wB g W[c]? =some p:=K.symm;rw[z] at D;obtain⟨p0,G,rfl⟩:=aOq.1 D;exact⟨p0,vs',by rw[(W9 hH hm hr hb hf z).1];exact G,by rw[hv];simp [aOX],ih⟩
          |_=>exact I.elim
        split at j
        · rename_i O
          cases j;obtain⟨R,M⟩:=bq.1 O;rw[AI] at M;exact⟨p,vs',by rw[(RS hH hm hr hb hf R M).1];exact hp,hv,ih⟩
        cases j
theorem a8r {s:qP}{u:qA}(h:rZ g' w' s u):rZ (uB g g' base W (qW upd)) w' (YW base r.H.length W s) u:=by
  obtain⟨d,k⟩:=s
  have tokk: ∀{t:Ty}(hp:t.pure=true) {x:t.den}{k:pX},(∀c,k=some c->∃u,t= .list u)->rZ g' w' (.val t x,k) u->rZ (uB g g' base W (qW upd)) w' (.val t x,LV base r.H.length W k) u:=by
    intro t hp x k X h;cases k with
    |none=>exact bf (g:=g') (g':=uB g g' base W (qW upd)) (k:=none) (k':=none) rfl hp (λc e=>by cases e) h (λc e=>by cases e) (λ_=>rfl)
    | some c=>
      simp only[LV,AI];cases E:B5 base r.H.length c W[c]? with
      | some i=>
        refine bf (g:=g') (g':=uB g g' base W (qW upd)) (k:=some c) (k':=some i) rfl hp X h (λc' e=>?_) (λe=>by cases e);cases e;refine⟨_,rfl,λn u V=>?_⟩;rw[(MM hH hm hr hb hf E).2];exact V
      | none=>
        exact bf (g:=g') (g':=uB g g' base W (qW upd)) (k:=none) (k':=none) rfl hp (λc e=>by cases e) ⟨h.1,trivial⟩ (λc e=>by cases e) (λ_=>rfl)
  unfold YW;split
  · rename_i c m k' heq
    simp only[aOJ] at heq;obtain⟨rfl,rfl⟩:=heq;simp only[LV,AI];cases E:B5 base r.H.length c W[c]? with
    | some i=>
      obtain⟨G,h4⟩:=h.1;exact⟨⟨by rw[(MM hH hm hr hb hf E).2];exact G,h4⟩,trivial⟩
    |none=>exact⟨trivial,trivial⟩
  · rename_i c o k' heq
    simp only[aOJ] at heq;obtain⟨rfl,rfl⟩:=heq;obtain⟨p,hp,hv⟩:=zH h.1;unfold By;split
    · rename_i i uu x toks o' z
      rw[AI] at z;obtain⟨_,he,b,Z,K⟩:=G5 hH hm hr hb hf z;cases b with
      | cells t y ts=>
        have M:=hr.J c t y ts Z;rw[hp] at M;have F:wB g W[c]? =some p:=M.symm;rw[z] at F;obtain⟨p0,I,rfl⟩:=aOq.1 F;refine⟨.inr ⟨rfl,p0,by rw[(W9 hH hm hr hb hf z).1];exact I,?_⟩,trivial⟩;rw[hv];simp [aOX]
      |_=>exact K.elim
    split
    · rename_i E
      obtain⟨j,D⟩:=bq.1 E;rw[AI] at D;exact⟨.inr ⟨rfl,p,by rw[(RS hH hm hr hb hf j D).1];exact hp,by rw[hv]⟩,trivial⟩
    exact⟨trivial,trivial⟩
  · rename_i k' heq
    simp only[aOJ] at heq;obtain⟨rfl,rfl⟩:=heq;rcases h.1 with⟨j,_⟩ |⟨j,D⟩
    .cases j
    exact⟨.inr ⟨j,D⟩,trivial⟩
  · rename_i c k' heq
    simp only[aOJ] at heq;obtain⟨rfl,rfl⟩:=heq;simp only[LV,AI];cases E:B5 base r.H.length c W[c]? with
    | some i=>
      obtain⟨p,hp,hv⟩:MB g' (some c) [u]:=B9 rfl h.1;exact⟨.inr ⟨rfl,p,by rw[(MM hH hm hr hb hf E).1];exact hp,hv⟩,trivial⟩
    |none=>exact⟨trivial,trivial⟩
  · rename_i k' heq
    simp only[aOJ] at heq;obtain⟨rfl,rfl⟩:=heq;rcases h.1 with⟨j,_⟩ |⟨j,D⟩
    .cases j
    exact⟨.inr ⟨j,D⟩,trivial⟩
  · rename_i f cs k' heq
    simp only[aOJ] at heq;obtain⟨rfl,rfl⟩:=heq;cases Y:QX base r.H.length W cs with
    |none=>exact⟨trivial,trivial⟩
    | some l=>
      rcases h.1 with⟨j,_⟩ |⟨_,vs,D,G⟩
      .cases j
      exact⟨.inr ⟨rfl,vs,Gu hH hm hr hb hf cs D Y,G⟩,trivial⟩
  · rename_i t x k' hd U R Q O heq
    simp only[aOJ] at heq;obtain⟨rfl,rfl⟩:=heq;split
    · rename_i hp
      exact tokk hp a73 (Fo h)
    exact⟨trivial,trivial⟩
  exact⟨trivial,trivial⟩
end
theorem Gv {g:Gh}{w:pZ}{H:sA}{W:List rX}{L:List qQ}(hH:sM g w H) (hm:W7 H W L) {bb oo:Nat}(h:wV (vO g W) (tD 0 L) bb oo):
  ∃(c:Nat) (wh:rX) (b blk:qQ),W[c]? =some wh/\L[c]? =some b/\sD (vO g W) c b bb oo/\qU H wh.id=some blk/\sD g wh.id blk bb oo:=by
 obtain⟨c,b,F,G⟩:=h;rw[zI] at F;have K:c<W.length:=hm.len▸(aOw.1 F).1;have j:W[c]? =some W[c]:=aOn K;have E:=hm.ok c _ b j F;refine⟨c,W[c],b,?_⟩;generalize W[c]=wh at j E;cases wh with
 |box i u x toks off=>
  cases b with
  |cells t y ts=>
   obtain⟨R,⟨y0,U,Z⟩,Y⟩:=E;obtain⟨p,hp,e1,e2,e3⟩:=G;have D:wB g W[c]? =some p:=hp;rw[j] at D;obtain⟨p0,I,rfl⟩:=aOq.1 D;obtain⟨p1,cs,V,Q,_⟩:=hH.blk i _ R;obtain⟨c1,c2,c3,M,X,O⟩:=DX Q U;have l1:=sU Q;have l2:=sU O;rw[M] at l1;simp only[aOg] at l1;exact⟨_,j,F,⟨_,hp,e1,e2,e3⟩,R,p0,I,e1,by simp at e2;omega,by simp at e3;omega⟩
  |_=>exact E.elim
 |tok k=>
  cases b with
  |grow e cc m=>
   obtain⟨v,hv,hb⟩:=G;have z:BW g W[c]? m=some v:=hv;rw[j] at z;exact⟨_,j,F,⟨v,hv,hb⟩,E,v,z,hb⟩
  |map s t l=>
   obtain⟨p,hp,hb⟩:=G;have D:wB g W[c]? =some p:=hp;rw[j] at D;exact⟨_,j,F,⟨p,hp,hb⟩,E.1,p,D,hb⟩
  |row e t l m=>
   obtain⟨v,hv,hb⟩:=G;have z:BW g W[c]? m=some v:=hv;rw[j] at z;exact⟨_,j,F,⟨v,hv,hb⟩,E.1,v,z,hb⟩
  |_=>exact E.elim
section
variable {g g':Gh}{w w':pZ}{H:sA}{W:List rX}{L:List qQ}{r:r9}{v:qA}{base:Nat}{upd:List (Nat×qQ)}
variable (hH:sM g w H) (hm:W7 H W L) (hr:MJ (vO g W) w L r g' w' v) (hb:BR base r.H.length W 0 W r.H=some upd) (hf: ∀i,i∈qW upd->base<=i->g.J i=none/\∀n,g.cur i n=none)
include hH hm hr hb hf
theorem qg {b o:Nat}(h:wV (vO g W) (tD 0 L) b o):sX g H (qW upd) b o:=by
 obtain⟨c,wh,b0,blk,D,F,E,z,j⟩:=Gv hH hm h;exact⟨wh.id,blk,(G5 hH hm hr hb hf D).1,z,j⟩
theorem a8s:Fr (sX g H (qW upd)) w w' g.S (uB g g' base W (qW upd)).S:=hr.fr.mono λ_ _ h=>qg hH hm hr hb hf h
theorem bu {id:Nat}{b:qQ}(hi:id∈qW upd) (z:qU (rL upd H) id=some b):JO base r.H.length W W r.H 0 id b:=by
 obtain⟨_,k2,k3,_⟩:=RR hb;obtain⟨b',j⟩:=k3 id hi;have:qU (rL upd H) id=some b':=by
  have: ∀{u:List (Nat×qQ)},qU u id=some b'->qU (rL u H) id=some b':=by
   intro u
   induction u with
   |nil=>intro h;cases h
   |cons q u ih=>
    intro h;simp only[rL,qU] at h|-;split
    .rename_i e;rw[aOd e] at h;exact h
    rename_i e;rw[aOi e] at h;exact ih h
  exact this j
 rw[this] at z;obtain rfl:=aOj z;exact k2 id b' j
theorem qh {c i o:Nat}{u:Ty}{x:u.den}{toks:pT}{b0 b:qQ}(Y:W[c]? =some (.box i u x toks o)) (hR:r.H[c]? =some b0) (G:y9 base r.H.length i o W u x toks b0=some (i,b)):
  AH (uB g g' base W (qW upd)) w' i b/\(∀bb oo,sD (uB g g' base W (qW upd)) i b bb oo->sD g i (.cells u x toks) bb oo/\qU H i=some (.cells u x toks))/\
   ∀bb oo,sD (uB g g' base W (qW upd)) i b bb oo->sD g' c b0 bb oo\/(bb<w.heap.size/\¬wV (vO g W) (tD 0 L) bb oo):=by
 obtain⟨hU,hS,bL,hL,K⟩:=G5 hH hm hr hb hf Y;have X:=(W9 hH hm hr hb hf Y).1;have hh:=Gr hH hm hr hb hf;cases bL with
 |grow=>exact K.elim
 |row=>exact K.elim
 |map=>exact K.elim
 |iter=>exact K.elim
 |dead=>exact K.elim
 |cells tL yL tsL=>
  obtain⟨h1,h2,h4⟩:=K;obtain⟨p,cs,hp,ht,hd,hc,hJ,hF⟩:=hH.blk i _ h1;cases b0 with
  |grow=>simp [y9] at G
  |row=>simp [y9] at G
  |map=>simp [y9] at G
  |iter=>simp [y9] at G
  |dead=>
   simp only[y9,aOf,aOJ,true_and] at G;subst G;exact⟨trivial,λ_ _ h=>h.elim,λ_ _ h=>h.elim⟩
  |cells t y ts=>
   have hD:=hr.ty c _ _ _ _ _ _ hL hR;subst hD;obtain⟨y2,z,hn,M,D⟩:=qe G
   simp only[aOJ,true_and] at D;subst D;have hA:=hr.heap.blk c _ (by rw[zI];exact hR);obtain⟨p',cs',hg,U,hw,R,hy,hu⟩:=hA;have hQ:=hr.J c _ _ _ hL;have he:g'.J c=some ⟨p.1,p.2+o,p.3⟩:=by
    rw[hQ];show wB g W[c]? =_;rw[Y];simp [wB,hp]
   rw[he] at hg;obtain rfl:=aOj hg;have hC:Rd (uB g g' base W (qW upd)) w' u x cs:=xM hh ht;have hB:Rd (uB g g' base W (qW upd)) w' t y2 cs':=Gs hH hm hr hb hf U hn;obtain⟨c1,c2,c3,hN,hK,hj,hz⟩:=ap hB hC M;subst hN;subst hK;have l0:=sU ht;have l1:=sU U;simp only[aOg] at l0;have I: ∀q,q<u.cells->¬(c1.length<=q/\q<c1.length+t.cells)->¬wV (vO g W) (tD 0 L) p.1 (p.2+q):=by
    intro q D V hx;obtain⟨c',wh',b',blk',k1,k2,k3,k4,k5⟩:=Gv hH hm hx;by_cases hl:c'=c
    .subst hl;rw[Y] at k1;obtain rfl:=aOj k1;rw[hL] at k2;obtain rfl:=aOj k2;obtain⟨pp,F,e1,e2,e3⟩:=k3;have O:wB g W[c']? =some pp:=F;rw[Y] at O;simp only[wB,hp,Option.map_some,aOf] at O;subst O;simp only at e2 e3;exact V ⟨pN,pN⟩
    have hM:wh'.id≠i:=λe=>hl (bo hm.nodup k1 Y e);exact hH.dis wh'.id i blk' _ p.1 (p.2+q) hM k4 h1 k5 ⟨p,hp,rfl,pN,pN⟩
   have Q: ∀q,q<u.cells->p.1<w.heap.size:=λq D=>VW (hH.blk i _ h1) (b:=p.1) (o:=p.2+q) ⟨p,hp,rfl,pN,pN⟩;have j: ∀q,q<u.cells->¬(c1.length<=q/\q<c1.length+t.cells)->w'.cell? ⟨p.1,p.2+q,none⟩=w.cell? ⟨p.1,p.2+q,none⟩/\w'.frozen? ⟨p.1,p.2+q,none⟩=w.frozen? ⟨p.1,p.2+q,none⟩:=λq D V=>hr.fr.cell _ _ (Q q D) (I q D V);refine⟨⟨p,c1++cs'++c3,by rw[X];exact hp,hz,λq vv hv=>?_,⟨λq D=>?_,λh0 s Z=>?_⟩,λq D Z=>?_,?_⟩,λbb oo ho=>⟨?_,h1⟩,λbb oo ho=>?_⟩
   .by_cases a1:q<c1.length
    .rw[(j q pN pN).1];refine hd q vv ?_;rw[aOk,aOy a1] at hv|-;exact hv
    by_cases a2:q<c1.length+t.cells
    .rw[aOk,aOp pN,aOy pN] at hv;have:=hw (q-c1.length) vv hv;rwa [show p.2+c1.length+(q-c1.length)=p.2+q from by omega] at this
    rw[aOk,aOp pN,aOp pN] at hv;have D:q<u.cells:=by
     have:=(aOw.1 hv).1;omega
    rw[(j q D pN).1];refine hd q vv ?_;rw[aOk,aOp pN,aOp pN,hj];rw[l1] at hv;exact hv
   .by_cases a1:c1.length<=q/\q<c1.length+t.cells
    .have:=R.1 (q-c1.length) pN;rwa [show p.2+c1.length+(q-c1.length)=p.2+q from by omega] at this
    rw[(j q D a1).1,(j q D a1).2];exact hc.1 q D
   .by_cases hG:0<t.cells
    .exact R.2 hG s Z
    exact(hr.fr.shape p.1 s (hc.2 h0 s Z)).resolve_right λh=>I 0 h0 pN (h (p.2+0))
   .by_cases a1:c1.length<=q/\q<c1.length+t.cells
    .exact hy (q-c1.length) pN (by rw[show p.2+c1.length+(q-c1.length)=p.2+q from by omega];exact Z)
    rcases hr.fr.new _ _ Z with k|k|k
    .exact hJ q D k
    .have:=Q q D;omega
    exact I q D a1 k
   .intro q kk E;rcases wX.1 E with E|E
    .obtain⟨q',c',k1,k2,rfl⟩:=bt E;rw[AI] at k2;obtain⟨u',l,vv,g1,g2,g3⟩:=hu q' c' k1;have hI:=Fd g1;refine⟨u',l,vv,Fc M (Gt hn g1) hI,?_,?_⟩
     .rw[aOk,aOp pN,aOW,aOy pN];exact g2
     rw[(MM hH hm hr hb hf k2).2];exact g3
    obtain⟨k1,k2⟩:=qf E;obtain⟨u',l,vv,g1,g2,g3⟩:=hF q kk k1;refine⟨u',l,vv,Ep hH M g1 k2,?_,hh.cur _ _ _ g3⟩;rcases aPs q c1.length with a1|a1
    .rw[aOk,aOy a1] at g2|-;exact g2
    rw[aOk,aOp pN,aOp pN] at g2|-;rw[l1];rw[hj] at g2;exact g2
   .obtain⟨pp,F,e1,e2,e3⟩:=ho;rw[X,hp] at F;obtain rfl:=aOj F;exact⟨p,hp,e1,e2,e3⟩
   obtain⟨pp,F,e1,e2,e3⟩:=ho;rw[X,hp] at F;obtain rfl:=aOj F;subst e1;by_cases a1:c1.length<=oo-p.2/\oo-p.2<c1.length+t.cells
   .exact .inl ⟨_,he,rfl,by simp only;omega,by simp only;omega⟩
   right;refine⟨Q (oo-p.2) pN,?_⟩;have:=I (oo-p.2) pN a1;rwa [show p.2+(oo-p.2)=oo from by omega] at this
theorem qi {c:Nat}{b0 b:qQ}(hn:W[c]? =none) (hR:r.H[c]? =some b0) (j:F4 base r.H.length c W b0=some (base+c,b)):
  AH (uB g g' base W (qW upd)) w' (base+c) b/\∀bb oo,sD (uB g g' base W (qW upd)) (base+c) b bb oo->sD g' c b0 bb oo:=by
 have hc:=(aOw.1 hR).1;obtain⟨V,z⟩:=RS hH hm hr hb hf hc hn;have D:=hr.heap.blk c _ (by rw[zI];exact hR);cases b0 with
 |dead=>
  simp only[F4,aOf,aOJ,true_and] at j;subst j;exact⟨trivial,λ_ _ h=>h.elim⟩
 |grow e m k=>
  simp only[F4,aOf,aOJ,true_and] at j;subst j;obtain⟨u,xs,hv,Q,O,M⟩:=D;exact⟨⟨u,xs,by rw[z];exact hv,Q,λm I=>by rw[z];exact O m I,M⟩,λbb oo ⟨v',E,K⟩=>⟨v',by rw[z] at E;exact E,K⟩⟩
 |row e t l n=>
  simp only[F4] at j;split at j
  .rename_i hp;simp only[aOf,aOJ,true_and] at j;subst j;obtain⟨h0,u,xs,hv,Q,X,O,M⟩:=D;exact⟨⟨h0,u,xs,by rw[z];exact hv,Q,CU (λ_ _ h=>vJ (g:=g') (g':=uB g g' base W (qW upd)) rfl hp h) X,λm I=>by rw[z];exact O m I,M⟩,λbb oo ⟨v',E,K⟩=>⟨v',by rw[z] at E;exact E,K⟩⟩
  .cases j
 |iter s n=>simp [F4] at j
 |map k v l=>
  simp only[F4] at j;split at j
  .rename_i hp;rw[aOo] at hp;simp only[aOf,aOJ,true_and] at j;subst j;obtain⟨p,es,cl,G,Y,hh,hM,hS⟩:=D;exact⟨⟨p,es,cl,by rw[V];exact G,Y,hh,ME (g:=g') (g':=uB g g' base W (qW upd)) rfl hp.1 hp.2 hM,hS⟩,λbb oo ⟨pp,F,e⟩=>⟨pp,by rw[V] at F;exact F,e⟩⟩
  .cases j
 |cells t y ts=>
  have tQ: ∀y2,bY base r.H.length W t y y2->AH (uB g g' base W (qW upd)) w' (base+c) (.cells t y2 (F3 base r.H.length W 0 ts))/\∀bb oo,sD (uB g g' base W (qW upd)) (base+c) (.cells t y2 (F3 base r.H.length W 0 ts)) bb oo->sD g' c (.cells t y ts) bb oo:=by
   intro y2 R;obtain⟨p,cs,G,Z,Q,O,M,X⟩:=D;refine⟨⟨p,cs,by rw[V];exact G,Gs hH hm hr hb hf Z R,Q,O,M,λq kk U=>?_⟩,λbb oo ⟨pp,F,e⟩=>⟨pp,by rw[V] at F;exact F,e⟩⟩;obtain⟨q',c',k1,k2,rfl⟩:=bt U;rw[AI] at k2;obtain⟨u',l,vv,g1,g2,g3⟩:=X q' c' k1;exact⟨u',l,vv,by rw[aOO];exact Gt R g1,by rw[aOO];exact g2,by rw[(MM hH hm hr hb hf k2).2];exact g3⟩
  simp only[F4] at j;split at j
  .rename_i hp;simp only[aOf,aOJ,true_and] at j;subst j;exact tQ y (.inl ⟨hp,rfl⟩)
  obtain⟨y2,hy,hq⟩:=Gn j;simp only[aOJ,true_and] at hq;subst hq;exact tQ y2 (.inr hy)
theorem qj {c k:Nat}{b0 b:qQ}(X:W[c]? =some (.tok k)) (Z:r.H[c]? =some b0) (j:AE k b0=some (k,b)):
  AH (uB g g' base W (qW upd)) w' k b/\∀bb oo,sD (uB g g' base W (qW upd)) k b bb oo->sD g' c b0 bb oo:=by
 obtain⟨U,z⟩:=Gq hH hm hr hb hf X;have E:=hr.heap.blk c _ (by rw[zI];exact Z);cases b0 with
 |dead=>
  simp only[AE,aOf,aOJ,true_and] at j;subst j;exact⟨trivial,λ_ _ h=>h.elim⟩
 |grow e m n=>
  simp only[AE,aOf,aOJ,true_and] at j;subst j;obtain⟨u,xs,hv,O,M,K⟩:=E;exact⟨⟨u,xs,by rw[z];exact hv,O,λm F=>by rw[z];exact M m F,K⟩,λbb oo ⟨v',D,G⟩=>⟨v',by rw[z] at D;exact D,G⟩⟩
 |row e t l n=>
  simp only[AE] at j;split at j
  .rename_i hp;simp only[aOf,aOJ,true_and] at j;subst j;obtain⟨h0,u,xs,hv,O,h4,M,K⟩:=E;exact⟨⟨h0,u,xs,by rw[z];exact hv,O,CU (λ_ _ h=>vJ (g:=g') (g':=uB g g' base W (qW upd)) rfl hp h) h4,λm F=>by rw[z];exact M m F,K⟩,λbb oo ⟨v',D,G⟩=>⟨v',by rw[z] at D;exact D,G⟩⟩
  .cases j
 |iter s n=>simp [AE] at j
 |map s v l=>
  simp only[AE] at j;split at j
  .rename_i hp;rw[aOo] at hp;simp only[aOf,aOJ,true_and] at j;subst j;obtain⟨p,es,cl,Q,R,V,hM,Y⟩:=E;exact⟨⟨p,es,cl,by rw[U];exact Q,R,V,ME (g:=g') (g':=uB g g' base W (qW upd)) rfl hp.1 hp.2 hM,Y⟩,λbb oo ⟨pp,I,e⟩=>⟨pp,by rw[U] at I;exact I,e⟩⟩
  .cases j
 |cells t y ts=>simp [AE] at j
theorem a8t {side:List Prop}{s:qP}{rds:pY}{vv:qA}(hs:rZ (uB g g' base W (qW upd)) w' s vv):sE g w H ⟨side,s,upd,rds⟩ (uB g g' base W (qW upd)) w' vv:=by
 have le:=Gr hH hm hr hb hf;have fr:=a8s hH hm hr hb hf;have gho: ∀i,i∉qW upd->(uB g g' base W (qW upd)).J i=g.J i/\(uB g g' base W (qW upd)).cur i=g.cur i:=λi hi=>
  Gp hH hm hr hb hf (λh=>hi h.2) (br λc hc=>hi ((G5 hH hm hr hb hf hc).1))
 have perm: ∀i blk b o,i∈qW upd->qU (rL upd H) i=some blk->sD (uB g g' base W (qW upd)) i blk b o->w.heap.size<=b\/sX g H (qW upd) b o:=by
  intro i blk b o hi K I;rcases bu hH hm hr hb hf hi K with⟨c,i',u,x,toks,off,b0,E,G,F,D⟩ |⟨c,k,b0,E,G,F,D⟩ |⟨c,b0,E,G,F,D⟩
  .subst G;obtain⟨_,k2,_⟩:=qh hH hm hr hb hf E F D;exact .inr ⟨i,_,hi,(k2 b o I).2,(k2 b o I).1⟩
  .subst G;obtain⟨_,k2⟩:=qj hH hm hr hb hf E F D;exact(hr.perm c b0 b o F (k2 b o I)).imp id λh=>qg hH hm hr hb hf h
  rw[aOO] at G D;subst G;obtain⟨_,k2⟩:=qi hH hm hr hb hf F E D;exact(hr.perm c b0 b o E (k2 b o I)).imp id λh=>qg hH hm hr hb hf h
 refine⟨le,hs,hH.upd le fr perm gho (λi blk hi K=>?_) (λi j bi bj b o hi hj O Y X U R=>?_) (λb o h=>hr.heap.sl b o h),fr,perm,gho,λi u' y us h=>?_⟩
 .rcases bu hH hm hr hb hf hi K with⟨c,i',u,x,toks,off,b0,E,G,F,D⟩ |⟨c,k,b0,E,G,F,D⟩ |⟨c,b0,E,G,F,D⟩
  .subst G;exact(qh hH hm hr hb hf E F D).1
  .subst G;exact(qj hH hm hr hb hf E F D).1
  rw[aOO] at G D;subst G;exact(qi hH hm hr hb hf F E D).1
 .have cls: ∀{i:Nat}{blk:qQ},i∈qW upd->qU (rL upd H) i=some blk->sD (uB g g' base W (qW upd)) i blk b o->
    (∃c u x toks off b0,W[c]? =some (.box i u x toks off)/\r.H[c]? =some b0/\sD g i (.cells u x toks) b o/\qU H i=some (.cells u x toks)/\(sD g' c b0 b o\/(b<w.heap.size/\¬wV (vO g W) (tD 0 L) b o)))\/
    (∃c b0,B5 base r.H.length c W[c]? =some i/\r.H[c]? =some b0/\sD g' c b0 b o):=by
   intro i blk hi K I;rcases bu hH hm hr hb hf hi K with⟨c,i',u,x,toks,off,b0,E,G,F,D⟩ |⟨c,k,b0,E,G,F,D⟩ |⟨c,b0,E,G,F,D⟩
   .subst G;obtain⟨_,k2,k3⟩:=qh hH hm hr hb hf E F D;exact .inl ⟨c,u,x,toks,off,b0,E,F,(k2 b o I).1,(k2 b o I).2,k3 b o I⟩
   .subst G;obtain⟨_,k2⟩:=qj hH hm hr hb hf E F D;exact .inr ⟨c,b0,by rw[E];rfl,F,k2 b o I⟩
   rw[aOO] at G D;subst G;obtain⟨_,k2⟩:=qi hH hm hr hb hf F E D;exact .inr ⟨c,b0,by rw[F];simp only[B5];rw[aOd (aOw.1 E).1],E,k2 b o I⟩
  have cross: ∀{c c':Nat}{b0 b1:qQ},c≠c'->r.H[c]? =some b0->r.H[c']? =some b1->sD g' c b0 b o->sD g' c' b1 b o->False:=λV E G o1 o2=>
   hr.heap.dis _ _ _ _ b o V (by rw[zI];exact E) (by rw[zI];exact G) o1 o2
  rcases cls hi Y U with⟨c,u,x,toks,off,b0,E,G,F,D,Q⟩ |⟨c,b0,E,F,D⟩<;>rcases cls hj X R with⟨c',u',x',toks',off',b0',k1,k2,k3,k4,k5⟩ |⟨c',b0',k1,k3,k4⟩
  .exact hH.dis i j _ _ b o O D k4 F k3
  .rcases Q with Q|⟨Q,h6⟩
   .exact cross (λe=>by subst e;rw[E] at k1;cases k1) G k3 Q k4
   rcases hr.perm c' b0' b o k3 k4 with h|h
   .omega
   exact h6 h
  .rcases k5 with k5|⟨k5,k6⟩
   .exact cross (λe=>by subst e;rw[k1] at E;cases E) F k2 D k5
   rcases hr.perm c b0 b o F D with h|h
   .omega
   exact k6 h
  exact cross (λe=>by subst e;rw[E] at k1;exact O (aOj k1)) F k3 D k4
 by_cases hi:i∈qW upd
 .rcases bu hH hm hr hb hf hi h with⟨c,i',u,x,toks,off,b0,E,G,F,D⟩ |⟨c,k,b0,E,G,F,D⟩ |⟨c,b0,E,G,F,D⟩
  .subst G;obtain⟨_,_,bL,hL,M⟩:=G5 hH hm hr hb hf E;cases b0 with
   |cells t y0 ts=>
    obtain⟨y2,z,_,hd,Z⟩:=qe D;simp only[aOJ,qQ.cells.injEq,true_and] at Z;obtain⟨rfl,_⟩:=Z;cases bL with
    |cells=>exact .inl ⟨x,toks,M.1⟩
    |_=>exact M.elim
   |grow=>simp [y9] at D
   |row=>simp [y9] at D
   |map=>simp [y9] at D
   |iter=>simp [y9] at D
   |dead=>simp [y9] at D
  .cases b0 with
   |cells t y0 ts=>simp [AE] at D
   |iter=>simp [AE] at D
   |map=>simp only[AE] at D;split at D<;>simp at D
   |row=>simp only[AE] at D;split at D<;>simp at D
   |_=>simp [AE] at D
  rw[aOO] at G;exact .inr (hf i hi pN)
 exact .inl ⟨y,us,(CV hi).symm.trans h⟩
end
section
variable {P:Program}{g:Gh}{w:pZ}
variable {o:Oper}{a:Act}{H:sA}{T:sJ}(hT:w6 P T) (hH:sM g w H)
include hT hH
theorem a8u {op:BinOp}{xt yt:TypeId}{x y:Operand}(ho:o.op= .binOp op xt x y yt) {sx sy:qP}(O:rZ g w sx (a.eval x)) (M:rZ g w sy (a.eval y)) {e:rA}
  (hr:B2 (ke (s4 T xt) op sx sy)=some e):rU P o a g w H e:=by
 obtain⟨q,j,rfl⟩:=JM hr;have go: ∀{u v:qA},a.eval x=u->a.eval y=v->(∃z,(do eqGuard op xt x y u v;Go.binOp op xt u v:Sem qA).run P w= .ok z w/\zG g w q.2 z)->rU P o a g w H ⟨q.1,(q.2,none),[],[]⟩:=by
  rintro u v rfl rfl ⟨z,hz,F⟩;refine rU.pure hH (v:=z) ?_ F;unfold execOp;rw[ho];simp only[aOr,aOD] at hz|-;rw[hz];rfl
 replace O:=O.1;replace M:=M.1;generalize Q:s4 T xt=oti at j;unfold ke at j;split at j
 .rename_i u el by' ar ls_ t l k k';have F:=(t7 hT Q).2;simp only[xO] at F;obtain⟨ax,cx,ex,hj,R⟩:=FA O;have E:ax=none->l=[]:=λh=>by
   rcases R with D|⟨b,o,D,_⟩
   .exact D
   rw[h] at D;cases D
  have ey:a.eval y= .slice none 0 0:=M;refine go ex ey ?_;unfold YN at j;split at j
  .cases j;have D:(do eqGuard .eql xt x y (.slice ax (List.length l) cx) (.slice none 0 0);Go.binOp .eql xt (.slice ax (List.length l) cx) (.slice none 0 0):Sem qA).run P w= .ok (.bool ax.isNone) w:=by
    simp only[aOr];rw[show (eqGuard .eql xt x y (.slice ax (List.length l) cx) (.slice none 0 0)).run P w= .ok () w from by simp [eqGuard]];exact Lib.run_eql_slice_nil (P:=P) w xt _ ax (List.length l) cx 0 0 F.1
   exact⟨_,D,_,rfl,λh=>E aQe,λ_=>trivial⟩
  .cases j;have D:(do eqGuard .neq xt x y (.slice ax (List.length l) cx) (.slice none 0 0);Go.binOp .neq xt (.slice ax (List.length l) cx) (.slice none 0 0):Sem qA).run P w= .ok (.bool (!ax.isNone)) w:=by
    simp only[aOr];rw[show (eqGuard .neq xt x y (.slice ax (List.length l) cx) (.slice none 0 0)).run P w= .ok () w from by simp [eqGuard]];exact run_neq_slice_nil_any (P:=P) w xt _ ax (List.length l) cx 0 0 F.1
   exact⟨_,D,_,rfl,λ_=>trivial,λh=>E aQe⟩
  cases j
 .rename_i u el by' ar ls_ k t l k';have F:=(t7 hT Q).2;simp only[xO] at F;obtain⟨ay,cy,ey,hj,R⟩:=FA M;have E:ay=none->l=[]:=λh=>by
   rcases R with D|⟨b,o,D,_⟩
   .exact D
   rw[h] at D;cases D
  have ex:a.eval x= .slice none 0 0:=O;refine go ex ey ?_;unfold YN at j;split at j
  .cases j;have D:(do eqGuard .eql xt x y (.slice none 0 0) (.slice ay (List.length l) cy);Go.binOp .eql xt (.slice none 0 0) (.slice ay (List.length l) cy):Sem qA).run P w= .ok (.bool ay.isNone) w:=by
    simp only[aOr];rw[show (eqGuard .eql xt x y (.slice none 0 0) (.slice ay (List.length l) cy)).run P w= .ok () w from by simp [eqGuard]];exact run_eql_nil_slice (P:=P) w xt _ ay (List.length l) cy 0 0 F.1
   exact⟨_,D,_,rfl,λh=>E aQe,λ_=>trivial⟩
  .cases j;have D:(do eqGuard .neq xt x y (.slice none 0 0) (.slice ay (List.length l) cy);Go.binOp .neq xt (.slice none 0 0) (.slice ay (List.length l) cy):Sem qA).run P w= .ok (.bool (!ay.isNone)) w:=by
    simp only[aOr];rw[show (eqGuard .neq xt x y (.slice none 0 0) (.slice ay (List.length l) cy)).run P w= .ok () w from by simp [eqGuard]];exact run_neq_nil_slice (P:=P) w xt _ ay (List.length l) cy 0 0 F.1
   exact⟨_,D,_,rfl,λ_=>trivial,λh=>E aQe⟩
  cases j
 .rename_i u el b ar ls_ t x' k t' y' k';unfold Bs at j;split at j
  .rename_i he;subst he;split at j
   .rename_i hc;obtain⟨rfl,hc⟩:=hc;simp only[uJ] at j;obtain⟨r,X,V⟩: ∃r,zQ t' x' y'=some r/\((op= .eql/\q=([],.val .bool r))\/(op= .neq/\q=([],.val .bool (!r)))):=by
     generalize hs:zQ t' x' y'=od at j;unfold Bq at j;split at j
     .rename_i r;cases j;exact⟨r,rfl,.inl ⟨rfl,rfl⟩⟩
     .rename_i r;cases j;exact⟨r,rfl,.inr ⟨rfl,rfl⟩⟩
     cases j
    have I:=t7 hT Q;rcases hc with rfl|⟨G,rfl⟩
    .have F:=I.2;simp only[xO] at F;obtain hn:=vT O;obtain hl:=vT M;refine go hn hl ?_;have hg:r=(x'==y'):=(aOj X).symm;subst hg;have K:=run_equalIn_bool' (P:=P) w 9999 xt x' y' F;rcases V with⟨rfl,rfl⟩ |⟨rfl,rfl⟩
     .refine⟨.bool (x'==y'),?_,wA _ _ _⟩;simp only[aOr];rw[show (eqGuard .eql xt x y (.bool x') (.bool y')).run P w= .ok () w from by simp [eqGuard]];simp only[aOl,Go.binOp,Op.equal,Op.maxDepth,aOr,K,aOD]
     refine⟨.bool (!(x'==y')),?_,wA _ _ _⟩;simp only[aOr];rw[show (eqGuard .neq xt x y (.bool x') (.bool y')).run P w= .ok () w from by simp [eqGuard]];simp only[aOl,Go.binOp,Op.equal,Op.maxDepth,aOr,K,aOD]
    have h2:=I.2;have heq:P.eqGuardType P.depth xt=false/\∃h,h<9000/\xD P h (.ty xt) t':=by
     unfold xO at h2;cases t'<;>simp only[Ty.isRow,aOT] at G
     all_goals first|exact h2.2 rfl|exact h2.elim
    obtain⟨Y,hh,ht,hE⟩:=heq;obtain⟨cx,ex,rx⟩:=DY G O;obtain⟨cy,ey,ry⟩:=DY G M;obtain⟨b',Z,U⟩:=hE.run (g:=g) (w:=w) 9999 pN x' y' _ _ O M;rw[X] at Z;obtain rfl:=aOj Z;rw[ex,ey] at U;refine go ex ey ?_;rcases V with⟨rfl,rfl⟩ |⟨rfl,rfl⟩
    .refine⟨.bool r,?_,wA _ _ _⟩;simp only[aOr];rw[run_eqGuard_agg w _ _ _ _ _ _ Y];simp only[aOl];rw[run_eql_struct,U];rfl
    refine⟨.bool (!r),?_,wA _ _ _⟩;simp only[aOr];rw[run_eqGuard_agg w _ _ _ _ _ _ Y];simp only[aOl];rw[run_neq_struct,U];rfl
   cases j
  cases j
 cases j
end
end Go.Proofs.YtedimeeleabhnaaGreatDoor.Vc
namespace Go.Proofs.YtedimeeleabhnaaGreatDoor.Vc
open Go.RowKit
theorem a8v (s:pJ):Lib.strCells ⟨s.toArray⟩=s.map λb=>Value.int .u8 b.toNat:=by
 simp [Lib.strCells]
theorem a8w {P:Program}(w:pZ) (t u ty e:TypeId) (i:TypeInfo) (ht:P.underlying t=some (.slice e)) (hu:P.underlying u=some .string) (hi:P.info? e=some i) (hz:i.zero=some (.int .u8 0))
  (G:i.size=1) (V:i.bytes=1) (v:qA) (n:Nat) (xs:pV) (F:w.ownsRow 0 e 1 v n xs) (s:ByteArray) (hm:0<s.size)
  (X:n+s.size<=maxLen) (hc:n+s.size<=140737488355328):
  ∃q cap w',(Builtin.append_ #[t,u] ty #[v,.string s]).run P w= .ok (.slice (some ⟨q,0,none⟩) (n+s.size) cap) w'/\w'.ownsRow 0 e 1 (.slice (some ⟨q,0,none⟩) (n+s.size) cap) (n+s.size) (xs++Lib.strCells s)/\
   (q=w.heap.size\/v.ownBlock=some q)/\w.grownBy w' v.ownBlock/\n+s.size<=cap/\
   ∀b o,b<w.heap.size->(v.ownBlock=some b->o<n*1)->w'.cell? ⟨b,o,none⟩=w.cell? ⟨b,o,none⟩:=by
 have Z:n+s.size<=9223372036854775807:=by simp only[maxLen] at X;omega
 have I:xs.length=n:=by simpa using F.1
 have E:(xs++Lib.strCells s).length=(n+s.size)*1:=by rw[aOg,I,Lib.strCells_length,aQd]
 have grown: ∀(old:Nat),old<n+s.size->∀(row:pX),
   (w.drew.alloc (.cells (xs.toArray++(Lib.strCells s).toArray++Builtin.zeroCells (Value.int .u8 0).cells (grownCap w (n+s.size) old e- (n+s.size))) e)).ownsRow 0 e 1
    (.slice (some ⟨w.heap.size,0,none⟩) (n+s.size) (grownCap w (n+s.size) old e)) (n+s.size) (xs++Lib.strCells s)/\
   w.grownBy (w.drew.alloc (.cells (xs.toArray++(Lib.strCells s).toArray++Builtin.zeroCells (Value.int .u8 0).cells (grownCap w (n+s.size) old e- (n+s.size))) e)) row/\n+s.size<=grownCap w (n+s.size) old e/\
   ∀b o,b<w.heap.size->(w.drew.alloc (.cells (xs.toArray++(Lib.strCells s).toArray++Builtin.zeroCells (Value.int .u8 0).cells (grownCap w (n+s.size) old e- (n+s.size))) e)).cell? ⟨b,o,none⟩=w.cell? ⟨b,o,none⟩:=by
  intro old ho row;have U:=grownCap_ge w (n+s.size) old e;have M:grownCap w (n+s.size) old e<=maxLen:=grownCap_le_maxLen w (n+s.size) old e X;refine⟨⟨E,.inr ⟨w.heap.size,_,_,rfl,aPL _,aQc w.drew _,U,M,?_,?_⟩⟩,⟨rfl,rfl,rfl,by simp,λk hk _=>aOK w.drew _ k hk⟩,U,λb o hb=>aOH (w:=w) (a:=⟨b,o,none⟩) (aOK w.drew _ b hb)⟩
  .have hd:(Value.int IntKind.u8 0).cells.size=1:=rfl;simp only[aP7,aPg,size_zeroCells,hd,I,Lib.strCells_length];omega
  simp only[Array.toList_append,aOk];rw[<-aOk,<-E];exact aPX
 rcases F.2 with⟨rfl,rfl⟩ |⟨g,cap,cur,rfl,hl,Y,hs,M,hj,O⟩
 .have hx:xs=[]:=aOM I;subst hx;have hr:=run_append_nil_string (P:=P) w t u ty e i (.int .u8 0) ht hu hi hz s pN pN (by rw[V];omega);have z:=grown 0 pN (Value.ownBlock (.slice none 0 0));simp only[aOO,List.nil_append,Array.empty_append] at z|-;have e1:(s.data.map λb=>Value.int .u8 b.toNat)=(Lib.strCells s).toArray:=by
   apply Array.ext';simp [Lib.strCells]
  rw[e1] at hr;exact⟨_,_,_,hr,z.1,.inl rfl,z.2.1,z.2.2.1,λb o hb _=>z.2.2.2 b o hb⟩
 by_cases D:n+s.size<=cap
 .have hq:cur.size=cap:=by simpa using hj
  have hr:=Lib.run_append_room_string (P:=P) w t u ty e i ht hu hi G g n cap cur Y s D pN;refine⟨_,_,_,hr,⟨E,.inr ⟨g,cap,_,rfl,hl,setRow_heap w g cur _ e _ Y,D,M,?_,?_⟩⟩,.inr rfl,⟨rfl,rfl,rfl,by simp,λk _ hk=>aP8 w g k _ (λe=>hk (by simp [Value.ownBlock,e]))⟩,D,λb o hb hh=>?_⟩
  .simp only[aPg,aOg,aO2,aON,aPi,Lib.strCells_length];omega
  .have he:cur.toList.take n=xs:=by simpa using O
   rw[he,<-E];exact aPX
  by_cases K:b=g
  .subst K;have ho:=hh rfl;rw[cell_setRow_same w b o cur _ e _ Y,cell_of_row w b o cur e (0,0) Y];have R:o<(cur.toList.take n).length:=by rw[aO2,aPi];omega
   have hn:o<cur.size:=by rw[aO2,aPi] at R;omega
   simp only[List.getElem?_toArray,aOk];rw[aOy R,List.getElem?_take,aOd pN];simp
  exact aOH (a:=⟨b,o,none⟩) (aP8 w g b _ K)
 have Q: ∀j u,xs[j]? =some u->w.cell? ((⟨g,0,none⟩:Addr).add j)=some u:=F.cells (g:=g) rfl;have hr:=Lib.run_append_grow_string (P:=P) w t u ty e i (.int .u8 0) ht hu hi hz ⟨g,0,none⟩ n cap xs (by rw[G];simpa using I) Q s pN pN (by rw[V];exact growslice_fits pN pN);have z:=grown cap pN (Value.ownBlock (.slice (some ⟨g,0,none⟩) n cap));exact⟨_,_,_,hr,z.1,.inl rfl,z.2.1,z.2.2.1,λb o hb _=>z.2.2.2 b o hb⟩
theorem a8x {P:Program}(w:pZ) (t u ty e:TypeId) (i:TypeInfo) (E:P.underlying t=some (.slice e)) (D:P.underlying u=some .string) (hi:P.info? e=some i) (j:i.size=1) (ad:Option Addr) (n c:Nat) (z:n<=c):
  (Builtin.append_ #[t,u] ty #[.slice ad n c,.string ⟨#[]⟩]).run P w= .ok (.slice ad n c) w:=by
 have hf:=Lib.run_firstCells_string (P:=P) w 1 ⟨#[]⟩;have hm:(⟨#[]⟩:ByteArray).size=0:=rfl;rw[hm] at hf;cases ad<;>simp [Builtin.append_,aOC E,aOC D,sizeOf,typeInfo,hi,j,Builtin.lenOf,hm,hf,z,Lib.strCells,storeCells]
theorem Gw (g:Gh) (w:pZ): ∀s:pJ,uV (Rd g w (.int .u8)) 1 (tK s) (s.map λb=>Value.int .u8 b.toNat)
 |[]=>rfl
 |b::s=>⟨[.int .u8 b.toNat],_,rfl,rfl,rfl,Gw g w s⟩
section
variable {P:Program}{o:Oper}{a:Act}{g:Gh}{w:pZ}{H:sA}{T:sJ}(hT:w6 P T) (hH:sM g w H)
include hT hH
theorem a8y {t t':TypeId}{x:Operand}(E:o.op= .convert t t' x) {sx:qP}(D:rZ g w sx (a.eval x)) {e:rA}
  (hr:B2 (kh T (s4 T t) (s4 T t') sx)=some e):rU P o a g w H e:=by
 obtain⟨q,j,rfl⟩:=JM hr;replace D:=D.1;generalize M:s4 T t=o1 at j;generalize K:s4 T t'=o2 at j;unfold kh at j;split at j
 .rename_i e b1 a1 l1 e2 b2 a2 l2 l k;generalize I:s4 T e=o3 at j;unfold Bt at j;split at j
  .cases j;have d1:=(t7 hT M).2;have d2:=(t7 hT K).2;have d3:=(t7 hT I).2;simp only[xO] at d1 d2 d3;obtain⟨ad,cap,hv,O,F⟩:=FA D;refine rU.pure hH (v:= .string ⟨(tU l).toArray⟩) ?_ (BV _ _ _);simp only[execOp,E,hv,aOr];have run:(convert t t' (.slice ad (List.length l) cap)).run P w= .ok (.string ⟨(tU l).toArray⟩) w:=by
    rcases F with rfl|⟨b,off,rfl,G⟩
    .rw[run_convert_bytes_string w t t' e ad _ cap d1.1 d3 d2];cases ad with
     |none=>simp [Conv.bytesToString,tU];rfl
     |some ad=>simp [Conv.bytesToString,loadCells,loadCellsFrom,tU];rfl
    have:=run_convert_bytes_arg (P:=P) w t e d1.1 d3 b off (List.length l) cap l rfl (λi hi=>by
     obtain⟨cs,_,c2,_,c4⟩:=VZ G (aOn hi);have c5:cs=[.int .u8 (l[i]:Int)]:=c4;subst c5;have:=c2 0 _ rfl;have z:Ty.cells (.int .u8)=1:=rfl;rw[z,aQd,aPm] at this;rw[this,aOF,aOn hi];rfl) t' d2
    exact this
   rw[run];rfl
  cases j
 cases j
theorem a8z {args:Array Operand}{tys:Array TypeId}(ho:o.op= .call ⟨.builtin .append,args,tys⟩) {ρ:Operand->qP}(hρ: ∀x∈args.toList,rZ g w (ρ x) (a.eval x)) {e:rA}
  (hr:ZS T H (w4 ρ args.toList) tys.toList=some e) (hs: ∀p∈e.side,p):rU P o a g w H e:=by
 unfold ZS at hr;split at hr
 .rename_i t u hn;have K:tys= #[t,u]:=by apply aPn.1;rw[hn]
  split at hr
  .rename_i e1;subst e1;exact a7L hT hH ho hρ K hr hs
  clear hn;subst K;generalize hst:s4 T t=ot at hr;generalize hG:s4 T u=ou at hr;generalize hI:w4 ρ args.toList=ss at hr;unfold mm at hr;split at hr
  .rename_i el ar ls_ e2 b2 a2 ls2 l k s k2;generalize hk:qU H k=ob at hr;unfold ZR at hr;split at hr
   .rename_i e' c n;split at hr
    .rename_i hN;obtain⟨rfl,rfl⟩:=hN;cases hr;rw[aOg];have G:List.length (tK s)=List.length s:=by simp [tK]
     rw[G];have z:=hs _ (by simp:(List.length l=n)∈_);have hS:=hs _ (by simp:(List.length l+List.length s<=140737488355328)∈_);obtain⟨v,vr,hv,V,hJ⟩:=aw hT hH hρ hI;obtain⟨R,h3,_⟩:=(t7 hT hst).2;have hu:=(t7 hT hG).2;simp only[xO] at hu;obtain⟨ei,hy,hz⟩:=aOq.1 h3;simp only[aOJ] at hz;obtain⟨cs,hx⟩:=HE (a:=a) hT hH ho;obtain⟨v0,xs,hl,D,hc,Z⟩:=hH.blk k _ hk;have O:g.cur k (List.length l)=some v:=V.2;rw[z,hl] at O;obtain rfl:=aOj O;obtain⟨adl,capl,U,hC,hL⟩:=FA V.1;have hh:=xX hJ.1;have I:(⟨List.toArray s⟩:ByteArray).size=List.length s:=by simp [ByteArray.size]
     by_cases hm:List.length s=0
     .obtain rfl:s=[]:=aOM hm;have E: ∀i,qU (rL [(k,qQ.grow e' 1 (List.length l+List.length ([]:pJ)))] H) i=qU H i:=by
       intro i;simp only[rL,qU];by_cases hi:k=i
       .subst hi;rw[aOd rfl,hk,z];rfl
       rw[aOi hi]
      have hd:sE g w H ⟨[List.length l=n,List.length l+List.length ([]:pJ)<=140737488355328],(.val (.list (.int .u8)) (l++tK []),some k),[(k,.grow e' 1 (List.length l+List.length ([]:pJ)))],[k]⟩ g w v0:=by
       refine⟨.refl _ _,?_,⟨λi b h=>hH.blk i b ((E i).symm.trans h),λi j bi bj b o' hM h1 R=>hH.dis i j bi bj b o' hM ((E i).symm.trans h1) ((E j).symm.trans R),hH.sl,hH.tab.1,λi blk b o' h X=>hH.tab.2 i blk b o' ((E i).symm.trans h) X⟩,.refl _ _ _,λi blk b o' hi hg X=> .inr ⟨i,blk,hi,(E i).symm.trans hg,X⟩,λ_ _=>⟨rfl,rfl⟩,λi u' y us h=> .inl ⟨y,us,(E i).symm.trans h⟩⟩;rw[show l++tK []=l from by simp [tK]];exact V
      refine rU.value (v:=v0) (w':=w) ?_ hd;rw[hx,hv,hh,U];have:=a8x (P:=P) w t u o.type e' ei R hu hy (by rw[hz.1];rfl) adl (List.length l) capl hC;simp only[builtin,aOr];rw[this];simp only[aOl,aOD]
     have hD:uV (Rd g w (.int .u8)) 1 l xs:=by
      by_cases h0:List.length l=0
      .obtain rfl:l=[]:=aOM h0;have:xs=[]:=aOM (by rw[D.1,<-z];simp);exact this
      rcases hL with rfl|⟨b0,off0,rfl,hR⟩
      .exact absurd rfl h0
      obtain⟨ls,hA,hB,_⟩:=W0 hR;rcases D.2 with⟨e1,e2⟩ |⟨q,cap,cur,e1,e2⟩
      .exact absurd (z.trans e2) h0
      rw[U] at e1;simp only[aPy,aOf,Addr.mk.injEq] at e1;obtain⟨⟨rfl,rfl,_⟩,_,rfl⟩:=e1;have hF:v0= .slice (some ⟨b0,0,none⟩) n capl:=by rw[U,z]
      have hK:=om (hF▸D);have:ls=xs:=by
       have Y:=MF hA;have ht:=D.1;have hQ:Ty.cells (.int .u8)=1:=rfl;rw[hQ] at Y;apply List.ext_getElem?;intro j;by_cases hj:j<ls.length
       .have h1:=hB j ls[j] (aOn hj);have hw:j<xs.length:=by rw[ht,<-z,<-Y];exact hj
        have R:=hK j xs[j] (aOn hw);rw[h1] at R;rw[aOn hj,aOn hw,aOj R]
       rw[aPt pN,aPt (by rw[ht,<-z,<-Y];omega)]
      rw[<-this];exact hA
     obtain⟨q,cap,w',M,F,hq,hg,Q,he⟩:=a8w (P:=P) w t u o.type e' ei R hu hy hz.2.2 hz.1 hz.2.1 v0 n xs D ⟨List.toArray s⟩ (by rw[I];omega) (by rw[I];unfold maxLen;omega) (by rw[I];omega);rw[I] at M F Q;rw[a8v] at F;refine rU.value (v:= .slice (some ⟨q,0,none⟩) (n+List.length s) cap) (w':=w') ?_ (by
      have:=sE.append (side:=[List.length l=n,List.length l+List.length s<=140737488355328]) (rds:=[k]) (u:= .int .u8) (r:=tK s) hH hk (show (1:Nat)=Ty.cells (.int .u8) from rfl) z hl D hc Z hD (Gw g w s) (by rw[G];omega) (by rw[G];exact F) hq hg (by rw[G];exact Q) he;rw[G] at this;rw[z];rw[z] at this;exact this)
     rw[hx,hv,hh];simp only[builtin,aOr,M,aOl,aOD]
    cases hr
   cases hr
  cases hr
 cases hr
end
theorem a8A {g g':Gh}{w:pZ}{f:qP->qP}(hf: ∀s u,rZ g w s u->rZ g' w (f s) u): ∀{l:List qP}{v:qA}{s:qP},W6 g w l v->QY (l.map f)=some s->rZ g' w s v:=by
  have un: ∀{l:List qP}{vs:pV}{q},wW g w l vs->H5 (l.map f)=some q->RG g' w q vs:=by
    intro l
    induction l with
    | nil=>
      intro vs q h j;simp only[List.map_nil,H5,aOf] at j;subst j;exact h
    | cons s l ih=>
      rintro vs q ⟨v,vs',rfl,G,F⟩ j;have z:=hf s v G;simp only[aO7] at j;generalize f s=fs at j z;obtain⟨d,k⟩:=fs;cases d with
      | val t x=>
        simp only[H5] at j;obtain⟨q',E,rfl⟩:=aOq.1 j;refine⟨v,vs',rfl,z.1,?_,ih F E⟩;cases k with
        |none=>trivial
        |some k=>exact z.2
      | own k' n=>
        simp only[H5] at j;obtain⟨q',E,rfl⟩:=aOq.1 j;exact⟨v,vs',rfl,.inr ⟨rfl,v,z.1.1,rfl,z.1.2⟩,trivial,ih F E⟩
      |_=>simp [H5] at j
  intro l v s h D
  match l,h,D with
  | [],⟨vs,e,h⟩,D=>
    simp only[List.map_nil,QY,aOf] at D;subst D;rw[show vs=[] from h] at e;exact⟨⟨[],e,rfl⟩,trivial⟩
  | [x],h,D=>
    simp only[aO7,List.map_nil,QY,aOf] at D;subst D;exact hf x v h
  | x::y::l,⟨vs,e,h⟩,D=>
    simp only[aO7,QY,aOf] at D;subst D;cases j:H5 (f x::f y::l.map f) with
    |none=>exact⟨trivial,trivial⟩
    |some q=>exact⟨⟨vs,e,un (l:=x::y::l) h aQf⟩,trivial⟩
theorem Gx {base n:Nat}{W:List rX}: ∀l:List qP,VB base n W l=l.map (YW base n W)
  |[]=>rfl
  |s::l=>by simp [VB,Gx l]
theorem Gy {P:Program}{f:FuncId}{sg:r8}(O:z7 P f sg.C) {g:Gh}{w:pZ}{H:sA}(hH:sM g w H) {args:List qP}{vals:pV}(I:wW g w args vals) {base:Nat}{e:rA}
    (hr:H6 H base args (some sg)=some e) (U: ∀p∈e.side,p) (M:z6 g base e):Calls P f vals.toArray w (λen w'=> ∃v g',en= .returned v/\sE g w H e g' w' v):=by
  simp only[H6] at hr;cases F:y8 H sg.ps args (some ⟨[],[],[],0⟩) with
  |none=>rw[F] at hr;cases R:sg.gs<;>(rw[R] at hr;simp [VC,BQ] at hr)
  |some q0=>
   rw[F] at hr;cases hp:BQ H sg.gs (some q0) with
   |none=>rw[hp] at hr;simp [VC] at hr
   |some q=>
    rw[hp] at hr;simp only[VC,Gm,List.append_nil] at hr;have E:=Gf hH (BX.nil g w H) I F;rw[List.nil_append] at E;have K:=Gi hH E hp;cases G:J9 q.ws.reverse q.H.reverse with
    |none=>rw[G] at hr;simp [YZ] at hr
    |some L=>
    rw[G] at hr;simp only[YZ] at hr;have hm:=K.m.ren G;cases Q:sg.C q.args.reverse L with
    |none=>rw[Q] at hr;simp [YY] at hr
    | some r=>
      rw[Q] at hr;simp only[YY,Gk] at hr;cases D:BR base r.H.length q.ws.reverse 0 q.ws.reverse r.H with
      |none=>rw[D] at hr;simp [VA] at hr
      | some upd=>
        rw[D] at hr;cases z:QY (VB base r.H.length q.ws.reverse r.ret) with
        |none=>rw[z] at hr;simp [VA] at hr
        | some s=>
          rw[z] at hr;simp only[VA,aOf] at hr;subst hr;refine(O.2 (vO g q.ws.reverse) w q.args.reverse _ L r (a8d hH hm) K.args Q U).mono ?_;rintro en w' ⟨v,g',rfl,j⟩;refine⟨v,_,rfl,a8t hH hm j D M ?_⟩;rw[Gx] at z;exact a8A (λs u h=>a8r hH hm j D M h) j.ret z
theorem WA {g g':Gh}{w w':pZ}: ∀{t:Ty}{x:t.den}{cs:pV},JA t=true->Rd g w t x cs->Rd g' w' t x cs
  | .bool,_,_,_,r=>r
  | .int _,_,_,_,r=>r
  | .str,_,_,_,r=>r
  | .unit,_,_,_,r=>r
  | .fn,_,_,_,r=>r
  | .pair a b,_,_,h,⟨c1,c2,e,r1,r2⟩=>by
    simp only[JA,aOo] at h;exact⟨c1,c2,e,WA h.1 r1,WA h.2 r2⟩
  | .list _,_,_,h,_=>by cases h
  | .ref,_,_,h,_=>by cases h
  | .clo,_,_,h,_=>by cases h
  | .mp,_,_,h,_=>by cases h
  | .rl _ _,_,_,h,_=>by cases h
  | .mref,_,_,h,_=>by cases h
  | .part,_,_,h,_=>by cases h
theorem Gz {g g':Gh}{w:pZ}{k n:Nat}{t:Ty}{l:List t.den}(le:Le g w g' w) (hk: ∀u,g.cur k n=some u->((u= .slice none 0 0/\n=0)\/∃b cap,u= .slice (some ⟨b,0,none⟩) n cap/\n<=cap)->sS g' w (.list t) l u):
    ∀{args:List qP}{vals:pV},wW g w args vals->(∀p∈LX k n args,p)->wW g' w (VE k t l args) vals
  |[],_,h,_=>h
  | s::ss,_,⟨v,vs,rfl,D,E⟩,hp=>by
    refine⟨v,vs,rfl,?_,Gz le hk E (λp z=>hp p ?_)⟩
    · obtain⟨d,x⟩:=s
      cases d with
      | own j m=>
        simp only[Cd];split
        · rename_i e
          subst e;have hm:m=n:=hp (j=j->m=n) (by simp only[LX];exact aOz) rfl;subst hm;exact⟨hk _ D.1.1 D.1.2,trivial⟩
        .exact DW le D
      |_=>exact DW le D
    obtain⟨d,x⟩:=s
    cases d with
    |own j m=>simp only[LX];exact aOu _ z
    |_=>exact z
theorem a8B {P:Program}{f:FuncId}{sg:r8}(hA:z7 P f sg.C) {g:Gh}{w:pZ}{H:sA}(hH:sM g w H) {args:List qP}{vals:pV}(hq:wW g w args vals) {base:Nat}{e:rA}{k:Nat}
    (hr:VF H base args sg k (qU H k)=some e) (hs: ∀p∈e.side,p) (hL:z6 g base e):Calls P f vals.toArray w (λen w'=> ∃v g',en= .returned v/\sE g w H e g' w' v):=by
  cases hk:qU H k with
  |none=>rw[hk] at hr;cases hr
  | some b=>
    rw[hk] at hr;cases b with
    | row e0 t l m=>
      simp only[VF] at hr;cases hi:H6 ((k,.dead)::H) base (VE k t l args) (some sg) with
      |none=>rw[hi] at hr;cases hr
      | some e1=>
        rw[hi] at hr;unfold ku at hr;split at hr
        · rename_i side t' x kk U rds heq
          simp only[aOf] at heq;subst heq;split at hr
          · rename_i G
            simp only[aOo,aO1] at G;obtain⟨⟨G,Z⟩,hx⟩:=G;have hz:k∉qW U:=λh=>by rw[HG.2 h] at hx;cases hx
            cases hr;obtain⟨hl,v,xs,hv,V,hF,hQ,hN⟩:=hH.blk k _ hk
            let g':Gh:={g with S:=λb o=>g.S b o\/(v.ownBlock=some b/\o<m*t.cells)}
            have le:Le g w g' w:=⟨λ_ _ h=> .inl h,λ_ _ _=>rfl,λ_ _ h=>h,λ_ _ _ h=>h⟩;have hh: ∀b,v.ownBlock=some b->∀o,sD g k (.row e0 t l m) b o:=λb hb o=>⟨v,hv,hb⟩
            have hn: ∀u,g.cur k m=some u->((u= .slice none 0 0/\m=0)\/∃b cap,u= .slice (some ⟨b,0,none⟩) m cap/\m<=cap)->sS g' w (.list t) l u:=by
              intro u hu Q;rw[hv] at hu;obtain rfl:=aOj hu;rcases Q with⟨rfl,h0⟩ |⟨b,cap,rfl,hB⟩
              · have:l=[]:=aOM (by rw[hl,h0])
                subst this;exact .inr ⟨rfl,none,0,rfl,aOA _,.inl rfl⟩
              refine .inr ⟨rfl,some ⟨b,0,none⟩,cap,by rw[hl],by rw[hl];exact hB,.inr ⟨b,0,rfl,RL (CU (λ_ _ h=>xM le h) hF) (λj u hu=>?_) (λj hj=>?_)⟩⟩
              · have:=V.cells (g:=b) rfl j u hu
                rwa [aPp] at this
              right
              exact⟨rfl,by rw[hl] at hj;omega⟩
            have D: ∀i b,qU ((k,qQ.dead)::H) i=some b->(i=k/\b= .dead)\/(i≠k/\qU H i=some b):=by
              intro i b hb;simp only[qU] at hb;split at hb
              .rename_i e1;exact .inl ⟨e1.symm,(aOj hb).symm⟩
              rename_i e1;exact .inr ⟨Ne.symm e1,hb⟩
            have hM:sM g' w ((k,qQ.dead)::H):=by
              refine⟨λi b hb=>?_,λi j bi bj b o hd O h2 o1 o2=>?_,λb o E=>?_,hH.tab.1,λi b bb oo hb ho=>?_⟩
              · rcases D i b hb with⟨rfl,rfl⟩ |⟨I,O⟩
                .trivial
                exact RH (hH.blk i b O) le rfl rfl (λ_ _ _=>⟨rfl,rfl⟩) (λ_ _=>rfl) (λbb o ho E=>by
                   rcases E with E|E
                   .exact E
                   exact absurd (hh bb E.1 o) (λh5=>hH.dis i k b _ bb o I O hk ho h5)) (λ_ _ _ _ h=>h)
              · rcases D i bi O with⟨_,rfl⟩ |⟨_,O⟩
                .exact o1.elim
                rcases D j bj h2 with⟨_,rfl⟩ |⟨_,h2⟩
                .exact o2.elim
                exact hH.dis i j bi bj b o hd O h2 ((zY (g':=g') (g:=g) rfl rfl).1 o1) ((zY (g':=g') (g:=g) rfl rfl).1 o2)
              · rcases E with E|E
                .exact hH.sl b o E
                exact VV V E.1
              rcases D i b hb with⟨_,rfl⟩ |⟨_,O⟩
              .exact ho.elim
              exact hH.tab.2 i b bb oo O ((zY (g':=g') (g:=g) rfl rfl).1 ho)
            have ht: ∀p,p∈LX k m args\/p∈side->p:=λp hp=>hs p (W5.2 hp)
            have M: ∀i,i≠k->qU ((k,qQ.dead)::H) i=qU H i:=λi hi=>by
              simp only[qU];rw[aOi (Ne.symm hi)]
            have hy: ∀{i},i∈qW U->i≠k:=λh e=>hz (e▸h)
            have F: ∀{i blk},i∈qW U->qU (rL U H) i=some blk->qU (rL U ((k,qQ.dead)::H)) i=some blk:=by
              intro i blk hi h
              have: ∀{U:List (Nat×qQ)},i∈qW U->qU (rL U ((k,qQ.dead)::H)) i=qU (rL U H) i:=by
                intro U
                induction U with
                |nil=>intro h;cases h
                | cons q U ih=>
                  intro h;obtain⟨j,b⟩:=q;simp only[rL,qU];split
                  .rfl
                  rename_i I
                  simp only[qW,aOv] at h;exact ih (h.resolve_left (λe=>I e.symm))
              rw[this hi];exact h
            have R: ∀{i blk},i∈qW U->qU (rL U H) i=some blk->∃t y,blk= .cells t y []/\JA t=true:=by
              intro i blk hi h
              have: ∀{U:List (Nat×qQ)},QZ U=true->i∈qW U->qU (rL U H) i=some blk->∃t y,blk= .cells t y []/\JA t=true:=by
                intro U
                induction U with
                |nil=>intro _ h;cases h
                | cons q U ih=>
                  intro Z hi h;obtain⟨j,b⟩:=q;cases b with
                  | cells t y ts=>
                    cases ts with
                    |cons _ _=>simp [QZ] at Z
                    | nil=>
                      simp only[QZ,aOo] at Z;simp only[rL,qU] at h;split at h
                      · obtain rfl:=aOj h
                        exact⟨t,y,rfl,Z.1⟩
                      · rename_i I
                        simp only[qW,aOv] at hi;exact ih Z.2 (hi.resolve_left (λe=>I e.symm)) h
                  |_=>simp [QZ] at Z
              exact this Z hi h
            have z: ∀b o,sX g' ((k,qQ.dead)::H) (qW U) b o->sX g H (qW U) b o:=λb o ⟨i,blk,hi,O,h2⟩=>⟨i,blk,hi,(M i (hy hi)).symm.trans O,(zY (g':=g') (g:=g) rfl rfl).1 h2⟩;refine(Gy hA hM (Gz le hn hq (λp hp=>ht p (.inl hp))) hi (λp hp=>ht p (.inr hp)) (λi hI hb=>hL i hI hb)).mono ?_;rintro en w' ⟨v1,g1,rfl,hE⟩
            let g2:Gh:={g1 with S:=g.S}
            have hw:Le g w g2 w':=⟨λ_ _ h=>h,λb o h=>hE.le.cell b o (.inl h),λi p h=>hE.le.J i p h,λi n u h=>hE.le.cur i n u h⟩
            have Y:Fr (sX g H (qW U)) w w' g.S g2.S:=
              ⟨hE.fr.os,hE.fr.tape,hE.fr.output,hE.fr.size,λb hb hc=>hE.fr.blk b hb (λo h=>hc o (z b o h)),λb o hb hc=>hE.fr.cell b o hb (λh=>hc (z b o h)),λ_ _ h=> .inl h,λb s h=>(hE.fr.shape b s h).imp id λh o=>z b o (h o)⟩
            have X: ∀i,i∉qW U->g2.J i=g.J i/\g2.cur i=g.cur i:=λi hi=>hE.gho i hi
            have K: ∀i blk b o,i∈qW U->qU (rL U H) i=some blk->sD g2 i blk b o->w.heap.size<=b\/sX g H (qW U) b o:=λi blk b o hi hg ho=>
              (hE.perm i blk b o hi (F hi hg) ((zY (g':=g2) (g:=g1) rfl rfl).1 ho)).imp id (z b o)
            refine⟨v1,g2,rfl,hw,⟨?_,trivial⟩,hH.upd hw Y K X (λi blk hi hg=>?_) (λi j bi bj b o hi hj hd hK hJ hD hC=>?_) (λb o h=>aOS (hH.sl b o h) hE.fr.size),Y,K,X,λi u y us h=>?_⟩
            .exact hE.slot.1.imp (λ⟨a,cs,e,q⟩=>⟨a,cs,e,WA G q⟩) (λ⟨a,q⟩=>⟨a,WA G q⟩)
            · obtain⟨t2,y2,rfl,hG⟩:=R hi hg
              obtain⟨p,cs,q1,q2,q3,q4,q5,_⟩:=hE.heap.blk i _ (F hi hg);exact⟨p,cs,q1,WA hG q2,q3,q4,λj hj E=>q5 j hj (hE.le.S _ _ (.inl E)),λ_ _ hm=>by cases hm⟩
            .exact hE.heap.dis i j bi bj b o hd (F hi hK) (F hj hJ) ((zY (g':=g2) (g:=g1) rfl rfl).1 hD) ((zY (g':=g2) (g:=g1) rfl rfl).1 hC)
            by_cases he:i∈qW U
            · rcases hE.ty i u y us (F he h) with⟨x',ts',q⟩ |q
              .exact .inl ⟨x',ts',(M i (hy he)).symm.trans q⟩
              exact .inr q
            exact .inl ⟨y,us,(CV he).symm.trans h⟩
          cases hr
        .cases hr
    |_=>cases hr
theorem a8C {P:Program}{f:FuncId}{F:(t:Ty)->List t.den->Option (List t.den)}(Z:pv P f F) {g:Gh}{w:pZ}{H:sA}(hH:sM g w H) {args:List qP}{vals:pV}(G:wW g w args vals) {e:rA}
    (hr:Z0 H F args=some e) (U: ∀p∈e.side,p):Calls P f vals.toArray w (λen w'=> ∃v g',en= .returned v/\sE g w H e g' w' v):=by
  unfold Z0 at hr;split at hr
  · rename_i k n x
    obtain⟨v,vs,rfl,ha,hv⟩:=G;rw[show vs=[] from hv];cases hk:qU H k with
    |none=>rw[hk] at hr;cases hr
    | some b=>
      rw[hk] at hr;cases b with
      | row e0 t l m=>
        simp only[kv] at hr;cases hf:F t l with
        |none=>rw[hf] at hr;cases hr
        | some l'=>
          rw[hf] at hr;cases hr;have K:n=m:=U _ aOz;subst K;obtain⟨Y,v0,xs,D,I,Q,E,j⟩:=hH.blk k _ hk;have X:=ha.1.1;rw[D] at X;obtain rfl:=aOj X;refine(Z g w e0 t l l' v0 n xs hH.tab.1 I Q Y (U _ pP) hf).mono ?_;rintro en w' ⟨rfl,O,xs',k1,k2,k3⟩;have z: ∀b,v0.ownBlock=some b->∀o,sX g H [k] b o:=λb hb o=>⟨k,_,by simp,hk,v0,D,hb⟩;refine⟨_,_,rfl,sE.row (v:=v0) (xs:=xs') hH O k1 k2 E (λu R=>by rw[D] at R;exact(aOj R).symm) (.inr ⟨v0.ownBlock,k3,z⟩) (λb o V=>?_) j (λb hb=> .inr (z b hb)) ⟨⟨[],rfl,rfl⟩,trivial⟩⟩;have M:v0.ownBlock≠some b:=λe=>j b e o V;exact aOH (a:=⟨b,o,none⟩) (k3.block b (hH.sl b o V) (λe=>M e.symm))
      |_=>cases hr
  cases hr
section
variable {P:Program}{o:Oper}{a:Act}{g:Gh}{w:pZ}{H:sA}{T:sJ}{Γ:tV}(hT:w6 P T) (hΓ:DZ P Γ) (hH:sM g w H)
include hT hΓ hH
theorem Ha {f:FuncId}{args:List qP}{vals:pV}(j:wW g w args vals) {base:Nat}{e:rA}(hr:M4 H base args (VK Γ f)=some e) (I: ∀p∈e.side,p) (E:z6 g base e):
    (∀args w,(callFunc f args).run P w= .ok (.enter f args) w)/\Calls P f vals.toArray w (λen w'=> ∃v g',en= .returned v/\sE g w H e g' w' v):=by
  cases D:VK Γ f with
  |none=>rw[D] at hr;cases hr
  | some sg=>
    rw[D] at hr
    obtain⟨M,D⟩:f<1000000000/\Γ f=some sg:=by
      unfold VK at D;split at D
      .rename_i h;exact⟨h,D⟩
      cases D
    obtain⟨z,G⟩:=hΓ f sg M D;refine⟨z.1,?_⟩;simp only[M4] at hr;cases K:sg.row with
    | some F=>
      rw[K] at hr;exact a8C (G F K) hH j hr I
    | none=>
      rw[K] at hr;simp only[ZP] at hr;cases O:VD sg.ps args with
      | some k=>
        rw[O] at hr;exact a8B z hH j hr I E
      | none=>
        rw[O] at hr;exact Gy z hH j hr I E
theorem a8D {fop:Operand}{args:Array Operand}{tys:Array TypeId}(V:o.op= .call ⟨.value fop,args,tys⟩) {ρ:Operand->qP}(hf:rZ g w (ρ fop) (a.eval fop)) (hρ: ∀x∈args.toList,rZ g w (ρ x) (a.eval x)) {base:Nat}{e:rA}
    (hr:R4 Γ H base (H8 T ρ args.toList tys.toList) (ρ fop)=some e) (U: ∀p∈e.side,p) (E:z6 g base e) (F:args.size=tys.size):rU P o a g w H e:=by
  have j:=Fp (a:=a) (ρ:=ρ) hT hΓ hH (xs:=args.toList) (ts:=tys.toList) aQn hρ;unfold R4 at hr;split at hr
  · rename_i f caps k heq
    rw[heq] at hf
    obtain⟨vs,R,z⟩: ∃vs,yN g caps vs/\a.eval fop= .func (.func f) #[] vs.toArray:=by
      rcases hf.1 with⟨O,_⟩ |⟨_,vs,M,X⟩
      .cases O
      simp only[aO5,and_true] at X
      exact⟨vs,M,X⟩
    obtain⟨D,G⟩:=Ha hT hΓ hH (a74 hT hΓ hH j (Fq hT hΓ hH R)) hr U E;intro K Q I;refine Fs V z D (G.mono ?_);rintro en w' ⟨v,g',rfl,hE⟩;exact⟨v,rfl,I _ w' v hE.w⟩
  · rename_i f k heq
    rw[heq] at hf
    have z:a.eval fop= .func (.func f) #[] ([]:pV).toArray:=by
      rcases hf.1 with⟨O,_⟩ |⟨_,M⟩
      .cases O
      simpa[Rd,Dm] using M
    obtain⟨D,G⟩:=Ha hT hΓ hH j hr U E;intro K Q I;refine Fs V z D ?_;rw[List.append_nil];refine G.mono ?_;rintro en w' ⟨v,g',rfl,hE⟩;exact⟨v,rfl,I _ w' v hE.w⟩
  cases hr
theorem Hb: ∀{xs:List Operand}{ts:List TypeId},M5 xs ts=true->xs.length=ts.length
  |[],[],_=>rfl
  |_::xs,_::ts,h=>by simp only[M5] at h;simp [Hb h]
  |[],_::_,h=>by cases h
  |_::_,[],h=>by cases h
theorem qk {op:Op}(j:o.op=op) {ρ:Operand->qP}(hρ: ∀x∈sQ op,rZ g w (ρ x) (a.eval x)) {base:Nat}{e:rA}(hr:uQ T Γ o.type ρ base H op=some e) (D: ∀p∈e.side,p) (hf:z6 g base e):rU P o a g w H e:=by
  unfold uQ at hr;split at hr
  · rename_i x
    exact Er hT hH (.inl j) (hρ x aQp) hr hf
  · rename_i x
    exact Er hT hH (.inr j) (hρ x aQp) hr hf
  .exact a7E hT hH j hr hf
  · rename_i t x
    exact a7F hT hH j (hρ x aQp) (λ_=>pw hT hΓ hH (hρ x aQp)) hr hf
  · rename_i t ps
    exact a7k hT hH j (ρ:=ρ) (λq F=>hρ q.2 (by
      simp only[sQ];generalize ps.toList=l at F
      induction l with
      |nil=>cases F
      |cons p l ih=>rcases aOv.1 F with rfl|h<;>simp_all [sQ.parts])) hr
  · rename_i t n ps
    exact a7K hT hH j (ρ:=ρ) (λq F=>hρ q.2 (by
      simp only[sQ];generalize ps.toList=l at F
      induction l with
      |nil=>cases F
      |cons p l ih=>rcases aOv.1 F with rfl|h<;>simp_all [sQ.parts])) hr hf
  · rename_i t x
    exact a7w hT hH j (hρ x aQp) hr D
  · rename_i t x y
    exact a7J hT hH j (hρ x aQp) (pw hT hΓ hH (hρ y aQp)) hr D hf
  · rename_i x
    exact a7d hT hH j (hρ x aQp) hr
  · rename_i op t x y t'
    cases I:YM op (s4 T t) (ρ x) (ρ y) with
    | some r=>
      rw[I] at hr;exact a64 hH j (hρ x aQp) (hρ y aQp) (by rw[I];exact hr)
    |none=>
    rw[I] at hr;cases hb:YL op (ρ x) (ρ y) with
    | some r=>
      rw[hb] at hr;exact a63 hH j (hρ x aQp) (hρ y aQp) (by rw[hb];exact hr) D
    | none=>
      rw[hb] at hr;exact a8u hT hH j (hρ x aQp) (hρ y aQp) hr
  · rename_i op t x
    exact a65 hH j (hρ x aQp) hr D
  · rename_i t t' x
    cases hb:YO (s4 T t) (s4 T t') (ρ x) with
    | some r=>
      rw[hb] at hr;exact a66 hT hH j (hρ x aQp) (by rw[hb];exact hr)
    | none=>
      rw[hb] at hr;exact a8y hT hH j (hρ x aQp) hr
  · rename_i f first caps
    have K:first= #[]:=by
      cases M:first.toList with
      |nil=>apply aPn.1;simpa using M
      |cons x l=>rw[M] at hr;cases hr
    subst K;exact a7o hT hH j (ρ:=ρ) (λx z=>hρ x aQq) hr
  · rename_i t x lo hi
    refine a7M hT hH j (ρ:=ρ) (hρ x aQp) (λy E=>hρ y ?_) (λy E=>hρ y ?_) hr D hf
    · cases lo with
      |none=>simp at E
      |some l=>simp at E;subst E;simp [sQ,sQ.opt,rL]
    cases hi with
    |none=>simp at E
    |some l=>simp at E;subst E;cases lo<;>simp [sQ,sQ.opt,rL]
  · rename_i t x f
    exact a7b hT hH j (hρ x aQp) hr
  · rename_i t x f
    exact a7a hT hH j (hρ x aQp) hr
  · rename_i t x ix
    exact a7g hT hH j (hρ x aQp) (hρ ix aQp) hr D
  · rename_i t x ix
    exact a7e hT hH j (hρ x aQp) (hρ ix aQp) hr D
  · rename_i x i
    exact a7c hT hH j (hρ x aQp) hr D
  · rename_i t r
    exact a7U hT hH j hr hf
  · rename_i t x
    exact a7Z hT hH j (hρ x aQp) hr hf
  · rename_i x b
    exact a71 hT hH j (hρ x aQp) hr
  · rename_i t x i ok
    exact a7X hT hH j (hρ x aQp) (hρ i aQp) hr
  · rename_i t m k x
    exact Fm hT hH (.inl j) (hρ m aQp) (hρ k aQp) (Fl (hρ x aQp)) hr
  · rename_i t m k x
    exact Fm hT hH (.inr j) (hρ m aQp) (hρ k aQp) (Fl (hρ x aQp)) hr
  · rename_i c
    obtain⟨cal,args,tys⟩:=c;simp only at hr;unfold M6 at hr;split at hr
    .exact a7n hT hH j (ρ:=ρ) (λx z=>hρ x aQq) hr
    .exact a8z hT hH j (ρ:=ρ) (λx z=>hρ x aQq) hr D
    .exact Ee (mx:=true) hT hH j (ρ:=ρ) (λx z=>hρ x aQq) hr
    .exact Ee (mx:=false) hT hH j (ρ:=ρ) (λx z=>hρ x aQq) hr
    · rename_i f
      cases G:M5 args.toList tys.toList with
      |false=>rw[G] at hr;cases hr
      | true=>
        rw[G] at hr;simp only[mn] at hr;exact a8D hT hΓ hH j (hρ f aQp) (λx z=>hρ x (by simp [sQ];right;simpa using z)) hr D hf (by simpa using Hb hT hΓ hH G)
    cases hr
  cases hr
end
def E1 (g:Gh) (w:pZ) (env:List (Nat×qP)) (tmps:Array qA):Prop:= ∀t,rZ g w (lk env t) (tmps.getD t undef)
def zZ (B:Nat) (w:pZ) (ds:List Deferred):Prop:=ds.Nodup/\∀d∈ds,∃D,d={target:= .collected D,args:= #[]}/\B<=D/\NG<=D/\w.heap[D]? =some (.deferred (some []))
theorem a8E (B:Nat) (w:pZ):zZ B w []:=⟨List.nodup_nil,λd j=>by cases j⟩
theorem zZ.same {B:Nat}{w w':pZ}{ds:List Deferred}(h:zZ B w ds) (hb: ∀D:Nat,w.heap[D]? =some (Obj.deferred (some []))->w'.heap[D]? =some (Obj.deferred (some []))):zZ B w' ds:=
 ⟨h.1,λd j=>by obtain⟨D,F,E,h0,z⟩:=h.2 d j;exact⟨D,F,E,h0,hb D z⟩⟩
def JP:Obj->Bool
 | .deferred _=>true
 | .loop _=>true
 | .mapIter _ _ _ _=>true
 |_=>false
theorem ql {w:pZ}{b:Nat}{ob:Obj}(j:w.heap[b]? =some ob) (hm:JP ob=true) (o:Nat):w.cell? ⟨b,o,none⟩=none:=by
 unfold World.cell?;simp only[j];cases ob<;>first|rfl|cases hm
theorem bw {g:Gh}{w:pZ}{i:Nat}{blk:qQ}(h:AH g w i blk) {b o:Nat}(F:sD g i blk b o) {ob:Obj}(D:w.heap[b]? =some ob) (hm:JP ob=true):False:=by
 have E: ∀{e:TypeId}{c n:Nat}{v:qA}{xs:pV},w.ownsRow 0 e c v n xs->v.ownBlock=some b->False:=by
  intro e c n v xs hr hb;rcases hr.2 with⟨rfl,_⟩ |⟨g',cap,cur,rfl,_,K,_⟩
  .cases hb
  simp only[Value.ownBlock,aOf] at hb;subst hb;rw[D] at K;cases K;cases hm
 cases blk with
 |cells t x toks=>
  obtain⟨p,cs,hp,_,_,M,_⟩:=h;obtain⟨q,z,rfl,I,G⟩:=F;rw[hp] at z;obtain rfl:=aOj z;have:=(M.1 (o-p.2) pN).1;rw[ql D hm] at this;cases this
 |grow e c n=>
  obtain⟨v,xs,hv,hr,_⟩:=h;obtain⟨v',j,hb⟩:=F;rw[hv] at j;obtain rfl:=aOj j;exact E hr hb
 |row e t l n=>
  obtain⟨_,v,xs,hv,hr,_⟩:=h;obtain⟨v',j,hb⟩:=F;rw[hv] at j;obtain rfl:=aOj j;exact E hr hb
 |map k v l=>
  obtain⟨p,es,cl,hp,h0,G,_⟩:=h;obtain⟨q,z,I⟩:=F;rw[hp] at z;obtain rfl:=aOj z;rw[show b=p.1 from I] at D;rw[G] at D;cases D;cases hm
 |iter s n=>
  obtain⟨p,hp,h0,G,_⟩:=h;obtain⟨q,z,I⟩:=F;rw[hp] at z;obtain rfl:=aOj z;rw[show b=p.1 from I] at D;rw[G] at D;cases D;cases hm
 |dead=>exact F.elim
theorem zZ.eff {B:Nat}{g g':Gh}{w w':pZ}{H:sA}{e:rA}{v:qA}{ds:List Deferred}(h:zZ B w ds) (hH:sM g w H) (k:zX g w H e g' w' v):zZ B w' ds:=
 h.same λD j=>by
  rw[k.fr.blk D (aOB.1 j).1 (λo ⟨i,blk,_,E,z⟩=>bw (hH.blk i blk E) z j rfl)];exact j
structure uC (B:Nat) (g:Gh) (w:pZ) (s:St) (a:Act):Prop where
 env:E1 g w s.env a.tmps
 heap:sM g w s.H
 size:a.tmps.size=s.N
 nb: ∀i,s.nb<=i->g.J i=none/\∀n,g.cur i n=none
 def_:zZ B w a.defers
 np:s.np<=s.nb
theorem a8F (g:Gh) (w:pZ) (v:qA):zG g w (jw v) v:=by
 unfold jw;split
 .exact wA _ _ _
 .exact wU _ _ _ _
 .rename_i s;have:=BV g w s.data.toList;rw[aPv] at this;exact this
 .exact rfl
 .exact .inr ⟨rfl,rfl⟩
 .exact .inr ⟨rfl,rfl⟩
 .exact .inr ⟨rfl,rfl⟩
 exact trivial
theorem z8 {g:Gh}{w:pZ}{env:List (Nat×qP)}{a:Act}(h:E1 g w env a.tmps) (x:Operand):rZ g w (tB env x) (a.eval x):=by
 cases x with
 |tmp t=>exact h t
 |const v=>exact⟨a8F g w v,trivial⟩
 |func f=>exact⟨.inr ⟨rfl,[],rfl,rfl⟩,trivial⟩
 |global i=>exact⟨trivial,trivial⟩
theorem RT {g:Gh}{w:pZ}{G:Bool}(K:G=true): ∀{ss:List qP}{s:qP}{v:qA},s∈ss->(∀p∈zF G ss,p)->rZ g w s v->rZ g w (yA s) v
 |x::ss,s,v,hm,F,E=>by
  have D: ∀{s:qP},(∀p∈zF G [s],p)->rZ g w s v->rZ g w (yA s) v:=by
   intro s F E;obtain⟨d,k⟩:=s;cases d with
   |cond p d=>
    refine⟨E.1.1 (F (G=true->p=true) (by simp [zF]) K),?_⟩;simp only[yA]
   |_=>exact E
  have z: ∀p,p∈zF G [x]->p∈zF G (x::ss):=by
   intro p hp;unfold zF at hp|-;split at hp
   .cases hp
   .rename_i heq;simp only[aO5] at heq;obtain⟨rfl,rfl⟩:=heq;rcases aOv.1 hp with h|h
    .exact h▸aOz
    cases h
   rename_i h0 heq;simp only[aO5] at heq;obtain⟨_,rfl⟩:=heq;cases hp
  have j: ∀p,p∈zF G ss->p∈zF G (x::ss):=by
   intro p hp;generalize I:zF G ss=L at hp;unfold zF;split
   .rename_i h;cases h
   .rename_i heq;simp only[aO5] at heq;obtain⟨_,rfl⟩:=heq;rw[I];exact aOu _ hp
   rename_i heq;simp only[aO5] at heq;obtain⟨_,rfl⟩:=heq;rw[I];exact hp
  rcases aOv.1 hm with rfl|hm
  .exact D (λp hp=>F p (z p hp)) E
  exact RT K hm (λp hp=>F p (j p hp)) E
theorem bx {env:List (Nat×qP)}: ∀{xs:List Operand}{x:Operand},x∈xs->tB env x∈CR env xs
 |y::xs,x,h=>by
  simp only[CR];rcases aOv.1 h with rfl|h
  .exact aOz
  exact aOu _ (bx h)
theorem WB: ∀(ops:List Oper) (j:Nat),AF ops j=(ops[j]?).bind (·.dst)
 |[],j=>by simp [AF]
 |o::_,0=>rfl
 |_::r,j+1=>by simpa[AF] using WB r j
section
variable {P:Program}{g:Gh}{w:pZ}{T:sJ}{Γ:tV}(hT:w6 P T) (hΓ:DZ P Γ)
include hT hΓ
theorem a8G {ops:List Oper}{o:Oper}{a:Act}{env:List (Nat×qP)}(D:E1 g w env a.tmps) {j:Nat}{b:Bool}(M:o.guard=some (j,b)) {G:Bool}(h:H9 env b (AF ops j)=some G):Region.wanted o (yielded ops.toArray a.tmps)=G:=by
 rw[WB] at h;unfold Region.wanted;rw[M];simp only;cases I:(ops[j]?).bind (·.dst) with
 |none=>rw[I] at h;cases h
 |some t=>
  rw[I] at h;simp only[H9] at h;have F:yielded ops.toArray a.tmps j=match a.tmps[t]? with|some (.bool b)=>some b|_=>none:=by
   unfold yielded;have:(ops.toArray[j]?).bind (·.dst)=some t:=by simpa using I
   rw[this];rfl
  have hv:=D t;generalize O:lk env t=s at h hv;unfold Cy at h;have hb: ∀c,a.tmps.getD t undef= .bool c->a.tmps[t]? =some (.bool c):=by
   intro c z;rw[aOG] at z;cases E:a.tmps[t]? with
   |none=>rw[E] at z;simp [undef] at z
   |some v=>rw[E] at z;simp at z;rw[z]
  split at h
  .rename_i c k;simp only[aOf] at h;have:=hb _ (vT hv.1);rw[F,this,<-h];cases c<;>cases b<;>rfl
  .rename_i p c k;simp only[aOf] at h;subst h;cases p with
   |true=>
    have:=hb _ (vT (hv.1.1 rfl));rw[F,this];cases c<;>cases b<;>rfl
   |false=>
    have K:=hv.1.2 rfl;have: ∀c,a.tmps[t]? ≠some (.bool c):=by
     intro c z;rw[aOG,z] at K;simp [undef] at K
    rw[F];cases E:a.tmps[t]? with
    |none=>cases b<;>rfl
    |some v=>cases v<;>first|(exact absurd E (this _)) |(cases b<;>rfl)
  cases h
theorem a8H {ops:List Oper}{o:Oper}{a:Act}{env:List (Nat×qP)}(E:E1 g w env a.tmps) {j:Nat}{b:Bool}(M:o.guard=some (j,b)) (h:M7 env b (AF ops j)=false):Region.wanted o (yielded ops.toArray a.tmps)=false:=by
 rw[WB] at h;unfold Region.wanted;rw[M];simp only;cases I:(ops[j]?).bind (·.dst) with
 |none=>rw[I] at h;cases h
 |some t=>
  rw[I] at h;simp only[M7] at h;have G:yielded ops.toArray a.tmps j=match a.tmps[t]? with|some (.bool b)=>some b|_=>none:=by
   unfold yielded;have:(ops.toArray[j]?).bind (·.dst)=some t:=by simpa using I
   rw[this];rfl
  have hv:=E t;generalize O:lk env t=s at h hv;have hb: ∀c,a.tmps.getD t undef= .bool c->a.tmps[t]? =some (.bool c):=by
   intro c z;rw[aOG] at z;cases F:a.tmps[t]? with
   |none=>rw[F] at z;simp [undef] at z
   |some v=>rw[F] at z;simp at z;rw[z]
  have D:a.tmps.getD t undef=undef->(yielded ops.toArray a.tmps j==some b)=false:=by
   intro K;have: ∀c,a.tmps[t]? ≠some (.bool c):=by
    intro c z;rw[aOG,z] at K;simp [undef] at K
   rw[G];cases F:a.tmps[t]? with
   |none=>cases b<;>rfl
   |some v=>cases v<;>first|(exact absurd F (this _)) |(cases b<;>rfl)
  unfold Cz at h;split at h
  .rename_i c k;have:=hb _ (vT hv.1);rw[G,this];cases c<;>cases b<;>first|rfl|cases h
  .rename_i p c k;cases p with
   |true=>
    have:=hb _ (vT (hv.1.1 rfl));rw[G,this];cases c<;>cases b<;>first|rfl|cases h
   |false=>exact D (hv.1.2 rfl)
  .rename_i p k;subst h;exact D (hv.1.2 rfl)
  cases h
theorem WC {G:Bool}{p:Prop}: ∀{l:List Prop},p∈l->(G=true->p)∈VM G l
 |q::l,h=>by
  simp only[VM];rcases aOv.1 h with rfl|h
  .exact aOz
  exact aOu _ (WC h)
theorem qm {o:Oper}{a:Act}{H:sA}(hH:sM g w H) {c x y:Operand}(G:o.op= .pick c x y) {sc sx sy:qP}(O:rZ g w sc (a.eval c)) (F:rZ g w sx (a.eval x)) (E:rZ g w sy (a.eval y)) {e:rA}(hr:VL sc sx sy=some e) (D: ∀p∈e.side,p):rU P o a g w H e:=by
 intro K Q R;unfold VL at hr;split at hr
 .rename_i z k;have I:=vT O.1;have run:(execOp a.eval o).run P w= .ok (.value (if z then a.eval x else a.eval y)) w:=by
   unfold execOp;rw[G];simp [I,asBool]
  have tQ: ∀{v:Bool}{side:List Prop},(if z then a.eval x else a.eval y)= .bool v->e=⟨side,(.val .bool v,none),[],[]⟩->o.wp P a w K Q:=by
   intro v side hv M;subst M;refine rU.value (v:= .bool v) (g':=g) (w':=w) (H:=H) (by rw[run,hv]) (.pure hH (s:=(.val .bool v,none)) ⟨(wA g w v:zG g w (.val .bool v) (.bool v)),trivial⟩) K Q R
  unfold Da at hr;split at hr
  .rename_i m1 _ m2 _;simp only[aOf] at hr;refine tQ (v:=cond z m1 m2) ?_ hr.symm;cases z
   .exact vT E.1
   exact vT F.1
  .rename_i p m1 _ m2 _;simp only[aOf] at hr;refine tQ (v:=cond z m1 m2) ?_ hr.symm;cases z
   .exact vT E.1
   exact vT (F.1.1 (D (true=true->p=true) aQr rfl))
  .rename_i m1 _ p m2 _;simp only[aOf] at hr;refine tQ (v:=cond z m1 m2) ?_ hr.symm;cases z
   .exact vT (E.1.1 (D (false=false->p=true) aQr rfl))
   exact vT F.1
  .rename_i q m1 _ p m2 _;simp only[aOf] at hr;refine tQ (v:=cond z m1 m2) ?_ hr.symm;cases z
   .exact vT (E.1.1 (D (false=false->p=true) aQr rfl))
   exact vT (F.1.1 (D (true=true->q=true) aQr rfl))
  .rename_i m1 _ p _;simp only[aOf] at hr;have j:z=true:=D _ aQr;refine tQ (v:=m1) ?_ hr.symm;rw[j];exact vT F.1
  .rename_i q m1 _ p _;simp only[aOf] at hr;have j:z=true:=D (z=true) aQr;refine tQ (v:=m1) ?_ hr.symm;rw[j];exact vT (F.1.1 (D (q=true) aQr))
  .rename_i p _ m2 _;simp only[aOf] at hr;have j:z=false:=D _ aQr;refine tQ (v:=m2) ?_ hr.symm;rw[j];exact vT E.1
  .rename_i p _ q m2 _;simp only[aOf] at hr;have j:z=false:=D (z=false) aQr;refine tQ (v:=m2) ?_ hr.symm;rw[j];exact vT (E.1.1 (D (q=true) aQr))
  cases hr
 cases hr
omit hT hΓ in
theorem RV {np:Nat}{x:Option rA}{e:rA}(h:mz np x=some e):x=some e/\(J6 e.rds=true->JG np e.upd=true):=by
 cases x with
 |none=>cases h
 |some q=>
  simp only[mz] at h;cases j:J6 q.rds with
  |false=>
   rw[j] at h;cases h;exact⟨rfl,λh=>by rw[j] at h;cases h⟩
  |true=>
   rw[j] at h;simp only[Dd] at h;split at h
   .rename_i z;cases h;exact⟨rfl,λ_=>z⟩
   cases h
omit hT hΓ in
theorem Hc {np:Nat}{H:sA}: ∀{U:List (Nat×qQ)},JG np U=true->∀{i:Nat}{u:Ty}{y:u.den}{us:pT},i<np->qU (rL U H) i=some (.cells u y us)->qU H i=some (.cells u y us)
 |[],_,i,u,y,us,_,h=>h
 |(j,b)::U,h,i,u,y,us,hi,z=>by
  simp only[rL,qU] at z;split at z
  .rename_i e;subst e;simp only[aOf] at z;subst z;simp only[JG] at h;split at h
   .omega
   cases h
  refine Hc ?_ hi z;unfold JG at h;split at h
  .rename_i heq;cases heq
  .rename_i heq;cases heq;split at h
   .exact h
   cases h
  rename_i heq;cases heq;exact h
theorem qn {ops:List Oper}{o:Oper}{a:Act}{s:St}{e:rA}(z:E1 g w s.env a.tmps) (hH:sM g w s.H) (hr:zU T Γ ops o s=some e) (I: ∀p∈e.side,p) (hf:z6 g s.nb e) {K:Act->pZ->Prop}{Q:Exit->Act->pZ->Prop}
  (R: ∀g' w' v,zX g w s.H e g' w' v->K (a.put o.dst v) w'):
  if Region.wanted o (yielded ops.toArray a.tmps) then o.wp P a w K Q else K (a.put o.dst undef) w:=by
 replace hr:=(RV hr).1;unfold RB at hr;cases O:o.guard with
 |none=>
  rw[O] at hr;simp only at hr;have Z:Region.wanted o (yielded ops.toArray a.tmps)=true:=by unfold Region.wanted;rw[O]
  rw[aOd Z];cases E:o.op with
  |pick c x y=>
   rw[E] at hr;simp only[R9] at hr;exact qm hT hΓ hH E (z8 z c) (z8 z x) (z8 z y) hr I K Q R
  |_=>
   rw[E] at hr;simp only[R9] at hr;rw[<-E] at hr;generalize F:uQ T Γ o.type (λx=>yA (tB s.env x)) s.nb s.H o.op=op at hr;cases op with
   |none=>cases hr
   |some e0=>
    simp only[R7,aOf] at hr;subst hr;refine qk hT hΓ hH rfl (ρ:=λx=>yA (tB s.env x)) (λx U=>?_) F (λp hp=>I p (wX.2 (.inr hp))) hf K Q (λg' w' v h=>R g' w' v ⟨h.le,h.slot,h.heap,h.fr,h.perm,h.gho,h.ty⟩);exact RT rfl (bx U) (λp hp=>I p (wX.2 (.inl hp))) (z8 z x)
 |some jb=>
  obtain⟨j,b⟩:=jb;rw[O] at hr;simp only at hr;cases V:Γ (ZZ j b) with
  |some sg=>
   rw[V] at hr;simp only[VN] at hr;cases Y:Db o.op with
   |true=>rw[Y] at hr;cases hr
   |false=>
   rw[Y] at hr;simp only[Dc,aOf] at hr;subst hr;have hd:M7 s.env b (AF ops j)=false:=I _ aOz;rw[a8H hT hΓ z O hd,aOi pO];exact R g w undef (zX.pure hH ⟨⟨λM=>(by cases M),λ_=>rfl⟩,trivial⟩)
  |none=>
  rw[V] at hr;simp only[VN] at hr;generalize hG:H9 s.env b (AF ops j)=oG at hr;cases oG with
  |none=>cases hr
  |some G=>
   have Z:=a8G hT hΓ z O hG;rw[Z];by_cases X: ∃c x y,o.op= .pick c x y
   .obtain⟨c,x,y,E⟩:=X;rw[E] at hr;simp only[R8] at hr;generalize F:VL (yA (tB s.env c)) (tB s.env x) (tB s.env y)=op at hr;cases op with
    |none=>cases hr
    |some e0=>
     unfold JF at hr;split at hr
     .rename_i side d k rds heq;simp only[aOf] at hr heq;subst hr;subst heq;by_cases D:G=true
      .rw[aOd D];refine qm hT hΓ hH E (RT D (ss:=[tB s.env c]) pP (λp hp=>I p (wX.2 (.inl hp))) (z8 z c)) (z8 z x) (z8 z y) F (λp hp=>I (G=true->p) (wX.2 (.inr (WC hT hΓ hp))) D) K Q (λg' w' v h=>R g' w' v ⟨h.le,⟨⟨λ_=>h.slot.1,λM=>by rw[D] at M;cases M⟩,trivial⟩,h.heap,h.fr,h.perm,h.gho,h.ty⟩)
      rw[aOi D];exact R g w undef (zX.pure hH ⟨⟨λM=>absurd M D,λ_=>rfl⟩,trivial⟩)
     .rename_i side sl u us rds heq;simp only[aOf] at hr heq;subst hr;subst heq;have D:G=true:=I _ aOz;rw[aOd D];exact qm hT hΓ hH E (RT D (ss:=[tB s.env c]) pP (λp hp=>I p (aOu _ (wX.2 (.inl hp)))) (z8 z c)) (z8 z x) (z8 z y) F (λp hp=>I (G=true->p) (aOu _ (wX.2 (.inr (WC hT hΓ hp)))) D) K Q (λg' w' v h=>R g' w' v ⟨h.le,h.slot,h.heap,h.fr,h.perm,h.gho,h.ty⟩)
     cases hr
   have e1:R8 T Γ o s (some G) o.op=JF G (zF G (CR s.env (sQ o.op))) (uQ T Γ o.type (λx=>yA (tB s.env x)) s.nb s.H o.op):=by
    cases ho:o.op<;>first|rfl|(exact absurd ⟨_,_,_,ho⟩ X)
   rw[e1] at hr;generalize F:uQ T Γ o.type (λx=>yA (tB s.env x)) s.nb s.H o.op=op at hr;cases op with
   |none=>cases hr
   |some e0=>
    unfold JF at hr;split at hr
    .rename_i side d k rds heq;simp only[aOf] at hr heq;subst hr;subst heq;by_cases D:G=true
     .rw[aOd D];refine qk hT hΓ hH rfl (ρ:=λx=>yA (tB s.env x)) (λx U=>?_) F (λp hp=>I (G=true->p) (wX.2 (.inr (WC hT hΓ hp))) D) (λi hi=>by cases hi) K Q (λg' w' v h=>R g' w' v ⟨h.le,⟨⟨λ_=>h.slot.1,λM=>by rw[D] at M;cases M⟩,trivial⟩,h.heap,h.fr,h.perm,h.gho,h.ty⟩);exact RT D (bx U) (λp hp=>I p (wX.2 (.inl hp))) (z8 z x)
     rw[aOi D];exact R g w undef (zX.pure hH ⟨⟨λM=>absurd M D,λ_=>rfl⟩,trivial⟩)
    .rename_i side sl u us rds heq;simp only[aOf] at hr heq;subst hr;subst heq;have D:G=true:=I _ aOz;rw[aOd D];refine qk hT hΓ hH rfl (ρ:=λx=>yA (tB s.env x)) (λx U=>?_) F (λp hp=>I (G=true->p) (aOu _ (wX.2 (.inr (WC hT hΓ hp)))) D) hf K Q (λg' w' v h=>R g' w' v ⟨h.le,h.slot,h.heap,h.fr,h.perm,h.gho,h.ty⟩);exact RT D (bx U) (λp hp=>I p (aOu _ (wX.2 (.inl hp)))) (z8 z x)
    cases hr
end
structure tE (A:Nat->Nat->Prop) (L:List qQ) (g0:Gh) (w0:pZ) (g:Gh) (w:pZ) (H:sA):Prop where
 shut: ∀b o,g0.S b o->g.S b o/\w.cell? ⟨b,o,none⟩=w0.cell? ⟨b,o,none⟩
 fr:Fr A w0 w g0.S g.S
 perm: ∀i blk b o,qU H i=some blk->sD g i blk b o->w0.heap.size<=b\/A b o
 J: ∀i p,i<L.length->g0.J i=some p->g.J i=some p
 live: ∀i,i<L.length->(∃p,g.J i=some p)\/(∃n v,g.cur i n=some v)
 ty: ∀i u y us,i<L.length->qU H i=some (.cells u y us)->∃x ts,L[i]? =some (.cells u x ts)
 cur: ∀i n v,i<L.length->g0.cur i n=some v->g.cur i n=some v
def tE.eff {A:Nat->Nat->Prop}{L:List qQ}{g0 g g':Gh}{w0 w w':pZ}{H:sA}{e:rA}{v:qA}(h:tE A L g0 w0 g w H) (k:zX g w H e g' w' v) (M:J6 e.rds=true->JG L.length e.upd=true):tE A L g0 w0 g' w' (rL e.upd H):=by
 have z: ∀b o,sX g H (qW e.upd) b o->w0.heap.size<=b\/A b o:=λb o ⟨i,blk,_,F,O⟩=>h.perm i blk b o F O;refine⟨λb o K=>?_,h.fr.trans k.fr z,λi blk b o E I=>?_,λi p hi hp=>k.le.J _ _ (h.J i p hi hp),λi hi=>?_,λi u y us hi E=>?_,λi n u hi D=>k.le.cur _ _ _ (h.cur i n u hi D)⟩
 .obtain⟨j,F⟩:=h.shut b o K;exact⟨k.le.S b o j,(k.le.cell b o j).trans F⟩
 .by_cases hi:i∈qW e.upd
  .rcases k.perm i blk b o hi E I with j|j
   .exact .inl (aOU h.fr.size j)
   exact z b o j
  exact h.perm i blk b o ((CV hi).symm.trans E) ((zY (k.gho i hi).1 (k.gho i hi).2).1 I)
 .rcases h.live i hi with⟨p,hp⟩ |⟨n,u,D⟩
  .exact .inl ⟨p,k.le.J _ _ hp⟩
  exact .inr ⟨n,u,k.le.cur _ _ _ D⟩
 cases G:J6 e.rds with
 |true=>exact h.ty i u y us hi (Hc (M G) hi E)
 |false=>
  rcases k.ty G i u y us E with⟨x,ts,j⟩ |⟨j,F⟩
  .exact h.ty i u x ts hi j
  rcases h.live i hi with⟨p,hp⟩ |⟨n,u,D⟩
  .rw[j] at hp;cases hp
  rw[F] at D;cases D
def A0:pT->Nat->pX
 |[],_=>none
 |(n,o)::r,k=>if n=k then some o else A0 r k
def uN (g:Gh) (np:Nat) (m:pT):Gh:=
 ⟨g.S,λi=>if i<np then g.J i else(A0 m i).bind g.J,λi n=>if i<np then g.cur i n else(A0 m i).bind λo=>g.cur o n⟩
def bz {n o:Nat}: ∀{m:pT},RD n o m=false->∀n' o',(n',o')∈m->n'≠n/\o'≠o
 |[],_,_,_,h=>by cases h
 |(a,b)::m,h,n',o',hm=>by
  simp only[RD,aPW,aO6] at h;rcases aOv.1 hm with j|j
  .cases j;exact h.1
  exact bz h.2 n' o' j
def qo {np:Nat}: ∀{m:pT},vN np m=true->∀{n o:Nat},(n,o)∈m->A0 m n=some o/\(n<np->o=n)
 |[],_,_,_,h=>by cases h
 |(a,b)::m,hk,n,o,h=>by
  simp only[vN,aOo,aO1,aPE,aOt] at hk;obtain⟨⟨z,F⟩,E⟩:=hk;simp only[A0];rcases aOv.1 h with j|j
  .cases j;rw[aOd rfl];exact⟨rfl,λD=>by rcases z with z|z<;>omega⟩
  have D:=bz F n o j;rw[aOi (Ne.symm D.1)];exact qo E j
def E5: ∀{m:pT}{k j:Nat},xL m k=some j->(j,k)∈m
 |[],_,_,h=>by cases h
 |(a,b)::m,k,j,h=>by
  simp only[xL] at h;split at h
  .rename_i e;subst e;simp only[aOf] at h;subst h;exact aOz
  exact aOu _ (E5 h)
def BA {g:Gh}{np:Nat}{m:pT}(hk:vN np m=true) {n o:Nat}(h:(n,o)∈m):(uN g np m).J n=g.J o/\(uN g np m).cur n=g.cur o:=by
 obtain⟨D,z⟩:=qo hk h;refine⟨?_,?_⟩
 .show (if n<np then g.J n else(A0 m n).bind g.J)=_;by_cases j:n<np
  .rw[aOd j,z j]
  rw[aOi j,D];rfl
 funext q;show (if n<np then g.cur n q else(A0 m n).bind λo=>g.cur o q)=_;by_cases j:n<np
 .rw[aOd j,z j]
 rw[aOi j,D];rfl
def qp {g:Gh}{np:Nat}{m:pT}(hk:vN np m=true): ∀(l l':pT) (vs:pV),yN g l vs->CT m l=some l'->yN (uN g np m) l' vs
 |[],l',vs,h,hr=>by simp only[CT,aOf] at hr;subst hr;exact h
 |(i,o)::l,l',vs,⟨p,vs',F,E,D⟩,hr=>by
  simp only[CT] at hr;cases hi:xL m i with
  |none=>rw[hi] at hr;cases z:CT m l<;>rw[z] at hr<;>cases hr
  |some j=>
   rw[hi] at hr;cases z:CT m l with
   |none=>rw[z] at hr;cases hr
   |some l2=>
    rw[z] at hr;simp only[CT.renCons,aOf] at hr;subst hr;exact⟨p,vs',by rw[(BA hk (E5 hi)).1];exact F,E,qp hk l l2 vs' D z⟩
def a8I {m:pT}{u t:Ty}{x y:t.den}{o:Nat}{l:List u.den}(h:zW m t x=some y) (j:rT (.list u) t x o=some l):rT (.list u) t y o=some l:=
 qb (zW m) (λ_ _ _=>rfl) (λ_ _=>rfl) h j
def WD {g:Gh}{w:pZ}{np:Nat}{m:pT}(hk:vN np m=true): ∀{t:Ty}{x y:t.den}{cs:pV},Rd g w t x cs->zW m t x=some y->Rd (uN g np m) w t y cs
 | .bool,_,_,_,r,h=>by cases h;exact r
 | .int _,_,_,_,r,h=>by cases h;exact r
 | .str,_,_,_,r,h=>by cases h;exact r
 | .unit,_,_,_,r,h=>by cases h;exact r
 | .list t,x,y,_,r,h=>by
  simp only[zW] at h;split at h
  .rename_i hp;cases h;exact vJ (g:=g) (g':=uN g np m) rfl (t:= .list t) (by simpa[Ty.pure] using hp) r
  .cases h
 | .ref,none,y,_,r,h=>by cases h;exact r
 | .ref,some (i,o),y,_,⟨p,D,z⟩,h=>by
  simp only[zW,ag] at h;cases hi:xL m i with
  |none=>rw[hi] at h;cases h
  |some j=>
   rw[hi] at h;cases h;exact⟨p,by rw[(BA hk (E5 hi)).1];exact D,z⟩
 | .clo,none,y,_,r,h=>by cases h;exact r
 | .clo,some (f,l),y,_,⟨vs,D,z⟩,h=>by
  simp only[zW,Dh] at h;cases hi:CT m l with
  |none=>rw[hi] at h;cases h
  |some l'=>
   rw[hi] at h;cases h;exact⟨vs,qp hk l l' vs D hi,z⟩
 | .fn,_,_,_,r,h=>by cases h;exact r
 | .rl _ _,none,y,_,r,h=>by cases h;exact r
 | .rl _ _,some (k,n),y,_,⟨v,D,z⟩,h=>by
  simp only[zW,Dj] at h;cases hi:xL m k with
  |none=>rw[hi] at h;cases h
  |some j=>
   rw[hi] at h;cases h;exact⟨v,by rw[(BA hk (E5 hi)).2];exact D,z⟩
 | .part,_,_,_,r,h=>by cases h;exact vJ (g:=g) (g':=uN g np m) rfl (t:= .part) rfl r
 | .mref,none,y,_,r,h=>by cases h;exact r
 | .mref,some (i,o),y,_,⟨p,D,z⟩,h=>by
  simp only[zW,ag] at h;cases hi:xL m i with
  |none=>rw[hi] at h;cases h
  |some j=>
   rw[hi] at h;cases h;exact⟨p,by rw[(BA hk (E5 hi)).1];exact D,z⟩
 | .mp,none,y,_,r,h=>by cases h;exact r
 | .mp,some i,y,_,⟨p,D,z⟩,h=>by
  simp only[zW,Di] at h;cases hi:xL m i with
  |none=>rw[hi] at h;cases h
  |some j=>
   rw[hi] at h;cases h;exact⟨p,by rw[(BA hk (E5 hi)).1];exact D,z⟩
 | .pair a b,x,y,_,⟨c1,c2,e,r1,r2⟩,h=>by
  simp only[zW] at h;obtain⟨D,z⟩:=qa h;refine⟨c1,c2,e,?_,?_⟩
  .split at D
   .rename_i hp;exact(aOj D)▸vJ (g:=g) (g':=uN g np m) rfl hp r1
   exact WD hk r1 D
  split at z
  .rename_i hp;exact(aOj z)▸vJ (g:=g) (g':=uN g np m) rfl hp r2
  exact WD hk r2 z
def ca {g:Gh}{w:pZ}{np:Nat}{m:pT}(hk:vN np m=true) {s:qP}{v:qA}(h:rZ g w s v):rZ (uN g np m) w (AG m s) v:=by
 have caps: ∀(l l':pT) (vs:pV),yN g l vs->CT m l=some l'->yN (uN g np m) l' vs:=qp hk;unfold AG;split
 .rename_i k n k';cases hi:xL m k with
  |none=>exact⟨trivial,trivial⟩
  |some j=>
   obtain⟨D,z⟩:=h.1;exact⟨⟨by rw[(BA hk (E5 hi)).2];exact D,z⟩,trivial⟩
 .obtain D:=h.1;refine⟨?_,trivial⟩;rcases D with⟨D,_⟩ |⟨_,z⟩
  .cases D
  exact .inr ⟨rfl,z⟩
 .rename_i p k;obtain⟨i,o⟩:=p;simp only[Df];cases hi:xL m i with
  |none=>exact⟨trivial,trivial⟩
  |some j=>
   simp only[Option.map_some,AG.refSlot];obtain⟨q,I,hv⟩:=zH h.1;exact⟨.inr ⟨rfl,q,by rw[(BA hk (E5 hi)).1];exact I,by rw[hv]⟩,trivial⟩
 .rename_i f l k;cases K:CT m l with
  |none=>exact⟨trivial,trivial⟩
  |some l'=>
   simp only[AG.cloSlot];rcases h.1 with⟨D,_⟩ |⟨_,vs,z,E⟩
   .cases D
   exact⟨.inr ⟨rfl,vs,caps l l' vs z K,E⟩,trivial⟩
 .rename_i i k;cases hi:xL m i with
  |none=>exact⟨trivial,trivial⟩
  |some j=>
   simp only[AG.mpSlot];rcases h.1 with⟨D,_⟩ |⟨_,p,z,E⟩
   .cases D
   exact⟨.inr ⟨rfl,p,by rw[(BA hk (E5 hi)).1];exact z,E⟩,trivial⟩
 .rename_i t x k _ _ _ _;split
  .rename_i hp;have hv:sS (uN g np m) w t x v:=h.1.imp (λ⟨a,cs,e,q⟩=>⟨a,cs,e,vJ (g:=g) (g':=uN g np m) rfl hp q⟩) (λ⟨a,q⟩=>⟨a,vJ (g:=g) (g':=uN g np m) rfl hp q⟩);refine⟨hv,?_⟩;replace h:=Fo h;generalize F:FY t k=k' at h|-;cases k' with
   |none=>trivial
   |some k=>
    simp only[Dg];cases M:xL m k with
    |none=>trivial
    |some j=>
     have z:=h.2;cases t with
     |list u=>
      show (uN g np m).cur j _=_;rw[(BA hk (E5 M)).2];exact z
     |pair a b=>cases F
     |_=>exact z.elim
  cases G:zW m t x with
  |none=>exact⟨trivial,trivial⟩
  |some y=>
   simp only[AG.valSlot];exact⟨h.1.imp (λ⟨a,cs,e,q⟩=>⟨a,cs,e,WD hk q G⟩) (λ⟨a,q⟩=>⟨a,WD hk q G⟩),trivial⟩
 .rename_i t x k;split
  .rename_i hp;obtain⟨b,o,cs,D,z,E,O⟩:=h.1;exact⟨⟨b,o,cs,D,z,E,vJ (g:=g) (g':=uN g np m) rfl hp O⟩,trivial⟩
  exact⟨trivial,trivial⟩
 .exact⟨h.1,trivial⟩
 .exact⟨h.1,trivial⟩
 exact⟨trivial,trivial⟩
def Hd {q j:Nat}{x:Nat×Nat}: ∀{r:pT},x∈ah q j r->x=(q,j)\/x∈r
 |[],h=> .inl (aOs.1 h)
 |(a,b)::r,h=>by
  simp only[ah] at h;split at h
  .exact aOv.1 h
  rcases aOv.1 h with h|h
  .exact .inr (by rw[h];exact aOz)
  exact(Hd h).imp id (aOu _)
def cb {m:pT}: ∀{ts:pT}{q j:Nat},(q,j)∈MA m ts->∃k,(q,k)∈ts/\xL m k=some j
 |[],_,_,h=>by cases h
 |(a,b)::ts,q,j,h=>by
  simp only[MA] at h;cases hb:xL m b with
  |none=>
   rw[hb] at h;obtain⟨k,z,D⟩:=cb h;exact⟨k,aOu _ z,D⟩
  |some j'=>
   rw[hb] at h;simp only[MA.renTok1] at h;rcases Hd h with z|z
   .cases z;exact⟨b,aOz,hb⟩
   obtain⟨k,z,D⟩:=cb z;exact⟨k,aOu _ z,D⟩
def JQ {g:Gh}{w:pZ}{np:Nat}{m:pT}(hk:vN np m=true) {n o:Nat}(hm:(n,o)∈m) {b:Option qQ}(h: ∀c,b=some c->AH g w o c):
  AH (uN g np m) w n (JK m b)/\∀bb oo,sD (uN g np m) n (JK m b) bb oo->∃c,b=some c/\sD g o c bb oo:=by
 obtain⟨K,z⟩:=BA (g:=g) hk hm;unfold JK;split
 .rename_i t x toks;split
  .rename_i hp;obtain⟨p,cs,F,E,I,D,M,Q⟩:=h _ rfl;refine⟨⟨p,cs,by rw[K];exact F,vJ (g:=g) (g':=uN g np m) rfl hp E,I,D,M,λq j G=>?_⟩,λbb oo ⟨pp,e1,e2⟩=>⟨_,rfl,pp,by rw[K] at e1;exact e1,e2⟩⟩;obtain⟨k,k1,k2⟩:=cb G;obtain⟨u,l,v,g1,g2,g3⟩:=Q q k k1;exact⟨u,l,v,g1,g2,by rw[(BA hk (E5 k2)).2];exact g3⟩
  cases R:zW m t x with
  |none=>exact⟨trivial,λ_ _ h=>h.elim⟩
  |some y=>
   obtain⟨p,cs,F,E,I,D,M,Q⟩:=h _ rfl;simp only[na];refine⟨⟨p,cs,by rw[K];exact F,WD hk E R,I,D,M,λq j G=>?_⟩,λbb oo ⟨pp,e1,e2⟩=>⟨_,rfl,pp,by rw[K] at e1;exact e1,e2⟩⟩;obtain⟨k,k1,k2⟩:=cb G;obtain⟨u,l,v,g1,g2,g3⟩:=Q q k k1;exact⟨u,l,v,a8I R g1,g2,by rw[(BA hk (E5 k2)).2];exact g3⟩
 .rename_i e c k;obtain⟨v,xs,F,E,I,D⟩:=h _ rfl;exact⟨⟨v,xs,by rw[z];exact F,E,λq O=>by rw[z];exact I q O,D⟩,λbb oo ⟨v',e1,e2⟩=>⟨_,rfl,v',by rw[z] at e1;exact e1,e2⟩⟩
 .rename_i e t l n;split
  .rename_i hp;obtain⟨h0,v,xs,F,E,M,I,D⟩:=h _ rfl;exact⟨⟨h0,v,xs,by rw[z];exact F,E,CU (λ_ _ h=>vJ (g:=g) (g':=uN g np m) rfl hp h) M,λq O=>by rw[z];exact I q O,D⟩,λbb oo ⟨v',e1,e2⟩=>⟨_,rfl,v',by rw[z] at e1;exact e1,e2⟩⟩
  exact⟨trivial,λ_ _ h=>h.elim⟩
 .rename_i k v l;split
  .rename_i hp;rw[aOo] at hp;obtain⟨p,es,cl,F,h0,E,I,D⟩:=h _ rfl;exact⟨⟨p,es,cl,by rw[K];exact F,h0,E,ME (g:=g) (g':=uN g np m) rfl hp.1 hp.2 I,D⟩,λbb oo ⟨pp,e1,e2⟩=>⟨_,rfl,pp,by rw[K] at e1;exact e1,e2⟩⟩
  exact⟨trivial,λ_ _ h=>h.elim⟩
 .obtain⟨p,F,h0,E,D⟩:=h _ rfl;exact⟨⟨p,by rw[K];exact F,h0,E,D⟩,λbb oo ⟨pp,e1,e2⟩=>⟨_,rfl,pp,by rw[K] at e1;exact e1,e2⟩⟩
 exact⟨trivial,λ_ _ h=>h.elim⟩
def HH {m:pT}{H:sA}: ∀{l:pT}{n:Nat}{b:qQ},qU (ai m H l) n=some b->∃o,(n,o)∈l/\b=JK m (qU H o)
 |[],_,_,h=>by cases h
 |(a,c)::l,n,b,h=>by
  simp only[ai,qU] at h;split at h
  .rename_i e;subst e;exact⟨c,aOz,(aOj h).symm⟩
  obtain⟨o,z,j⟩:=HH h;exact⟨o,aOu _ z,j⟩
def He {m:pT}{env:List (Nat×qP)}: ∀(l:pY) (t:Nat),lk (VQ m env l) t=(.any,none)\/lk (VQ m env l) t=AG m (lk env t)
 |[],_=> .inl rfl
 |a::l,t=>by
  simp only[VQ,lk];split
  .rename_i e;subst e;exact .inr rfl
  exact He l t
def Hf: ∀{m:pT}{n o:Nat},(n,o)∈m->n<aj m
 |(a,b)::m,n,o,h=>by
  simp only[aj];rcases aOv.1 h with j|j
  .cases j;omega
  have:=Hf j;omega
def qq: ∀{m:pT}{n o:Nat},A0 m n=some o->(n,o)∈m
 |[],_,_,h=>by cases h
 |(a,b)::m,n,o,h=>by
  simp only[A0] at h;split at h
  .rename_i e;subst e;simp only[aOf] at h;subst h;exact aOz
  exact aOu _ (qq h)
def cd {B:Nat}{A:Nat->Nat->Prop}{L:List qQ}{g0 g:Gh}{w0 w:pZ}{s:St}{a:Act}(h:uC B g w s a) (G:tE A L g0 w0 g w s.H) (O:s.np=L.length) (k:uA) (hk:vN s.np k.ids=true):
  uC B (uN g s.np k.ids) w (s.keep k) a/\tE A L g0 w0 (uN g s.np k.ids) w (s.keep k).H/\(s.keep k).np=L.length/\(s.keep k).N=s.N:=by
 unfold St.keep;rw[hk];refine⟨⟨λt=>?_,⟨λi b hb=>?_,λi j bi bj b o Q E D o1 o2=>?_,h.heap.sl,h.heap.tab.1,λi b bb oo hb K=>by
   obtain⟨o,E,rfl⟩:=HH hb;obtain⟨c1,e1,o1'⟩:=(JQ hk E λc F=>h.heap.blk o c F).2 bb oo K;exact h.heap.tab.2 o c1 bb oo e1 o1'⟩,h.size,λi hi=>?_,h.def_,Nat.le_max_left _ _⟩,⟨G.shut,G.fr,λi blk b o hb K=>?_,λi p hi hp=>?_,λi hi=>?_,λi u y us hi hb=>?_,λi n u hi U=>(by
   show (if i<s.np then g.cur i n else _)=_;rw[aOd pN];exact G.cur i n u hi U)⟩,O,rfl⟩
 .rcases He (m:=k.ids) (env:=s.env) k.slots t with e|e
  .exact⟨by rw[show lk (RE s k true).env t=_ from e];trivial,by rw[show lk (RE s k true).env t=_ from e];trivial⟩
  have:=ca hk (h.env t);rw[show lk (RE s k true).env t=_ from e];exact this
 .obtain⟨o,E,rfl⟩:=HH hb;exact(JQ hk E λc F=>h.heap.blk o c F).1
 .obtain⟨p,k1,rfl⟩:=HH E;obtain⟨q,k2,rfl⟩:=HH D;obtain⟨c1,e1,o1'⟩:=(JQ hk k1 λc F=>h.heap.blk p c F).2 b o o1;obtain⟨c2,e2,o2'⟩:=(JQ hk k2 λc F=>h.heap.blk q c F).2 b o o2;refine h.heap.dis p q c1 c2 b o (λe=>?_) e1 e2 o1' o2';subst e;have inj: ∀{m:pT},vN s.np m=true->∀{i j o:Nat},(i,o)∈m->(j,o)∈m->i=j:=by
   intro m
   induction m with
   |nil=>intro _ _ _ _ h;cases h
   |cons z m ih=>
    obtain⟨z1,z2⟩:=z;intro hk i j o E D;simp only[vN,aOo,aO1] at hk;rcases aOv.1 E with E|E<;>rcases aOv.1 D with D|D
    .cases E;cases D;rfl
    .cases E;exact absurd rfl (bz hk.1.2 _ _ D).2
    .cases D;exact absurd rfl (bz hk.1.2 _ _ E).2
    exact ih hk.2 E D
  exact Q (inj hk k1 k2)
 .have M: ¬i<s.np:=by have:=aOU (Nat.le_max_left _ _) hi;omega
  have I:A0 k.ids i=none:=by
   cases K:A0 k.ids i with
   |none=>rfl
   |some o=>
    have:=Hf (qq K);have:=aOU (Nat.le_max_right _ _) hi;omega
  refine⟨?_,λn=>?_⟩
  .show (if i<s.np then g.J i else(A0 k.ids i).bind g.J)=none;rw[aOi M,I];rfl
  show (if i<s.np then g.cur i n else(A0 k.ids i).bind λo=>g.cur o n)=none;rw[aOi M,I];rfl
 .obtain⟨p,E,rfl⟩:=HH hb;obtain⟨c,e1,e2⟩:=(JQ hk E λc F=>h.heap.blk p c F).2 b o K;exact G.perm p c b o e1 e2
 .show (if i<s.np then g.J i else _)=_;rw[aOd pN];exact G.J i p hi hp
 .rcases G.live i hi with⟨p,hp⟩ |⟨n,v,hv⟩
  .left;refine⟨p,?_⟩;show (if i<s.np then g.J i else _)=_;rw[aOd pN];exact hp
  right;refine⟨n,v,?_⟩;show (if i<s.np then g.cur i n else _)=_;rw[aOd pN];exact hv
 obtain⟨o,E,D⟩:=HH hb;have K:=(qo hk E).2 pN;subst K;unfold JK at D;split at D
 .rename_i t x toks heq;split at D
  .simp only[qQ.cells.injEq] at D;obtain⟨rfl,_⟩:=D;exact G.ty o u x toks hi heq
  cases R:zW k.ids t x with
  |none=>rw[R] at D;cases D
  |some y=>
   rw[R] at D;simp only[na,qQ.cells.injEq] at D;obtain⟨rfl,_⟩:=D;exact G.ty o u x toks hi heq
 .cases D
 .split at D<;>cases D
 .split at D<;>cases D
 .cases D
 cases D
def MN {B:Nat}{A:Nat->Nat->Prop}{L:List qQ}{g0 g:Gh}{w0 w:pZ}{s:St}{a:Act}(h:uC B g w s a) (z:tE A L g0 w0 g w s.H) (D:s.np=L.length) (k:uA):
  ∃g',uC B g' w (s.keep k) a/\tE A L g0 w0 g' w (s.keep k).H/\(s.keep k).np=L.length/\(s.keep k).N=s.N:=by
 unfold St.keep;cases hk:vN s.np k.ids with
 |false=>
  refine⟨g,⟨λt=>⟨trivial,trivial⟩,⟨(λi b h=>by cases h),(λi j bi bj b o _ h=>by cases h),h.heap.sl,h.heap.tab.1,(λi b bb oo h=>by cases h)⟩,h.size,h.nb,h.def_,h.np⟩,⟨z.shut,z.fr,(λi blk b o h=>by cases h),z.J,z.live,(λi u y us _ h=>by cases h),z.cur⟩,D,rfl⟩
 |true=>
  have:=cd h z D k hk;unfold St.keep at this;rw[hk] at this;exact⟨_,this⟩
theorem qr {g g':Gh}{w w':pZ}{env:List (Nat×qP)}{a:Act}{o:Oper}{sl:qP}{v:qA}(h:E1 g w env a.tmps) (le:Le g w g' w') (E:rZ g' w' sl v) {N:Nat}(G:a.tmps.size=N) (z:zV N o.dst=true):E1 g' w' (tH o.dst sl env) (a.put o.dst v).tmps:=by
  intro t;cases F:o.dst with
  |none=>exact DW le (h t)
  | some d=>
    rw[F] at z;simp only[zV,aOt] at z;simp only[tH,lk,Act.put];by_cases j:d=t
    · subst j
      rw[aOd rfl];have D:d<a.tmps.size:=by rw[G];exact z
      have:(a.tmps.setIfInBounds d v).getD d undef=v:=by
        rw[aOG,Array.getElem?_setIfInBounds_self_of_lt D];rfl
      rw[this];exact E
    rw[aOi j]
    have:(a.tmps.setIfInBounds d v).getD t undef=a.tmps.getD t undef:=by
      rw[aOG,aO9 j,<-aOG]
    rw[this];exact DW le (h t)
theorem WE {n:Nat}: ∀{u:List (Nat×qQ)},JH n u=true->∀{i:Nat},i∈qW u->i<n
  | (k,b)::u,h,i,hi=>by
    simp only[JH,aOo,aOt] at h;simp only[qW,aOv] at hi;rcases hi with rfl|hi
    .exact h.1
    exact WE h.2 hi
theorem qt (a:Act) (d:Option Tmp) (v:qA):(a.put d v).tmps.size=a.tmps.size:=by
  cases d<;>simp [Act.put]
theorem qu (a:Act) (d:Option Tmp) (v:qA):(a.put d v).defers=a.defers:=by
  cases d<;>simp [Act.put]
theorem uC.step {B:Nat}{g g':Gh}{w w':pZ}{s:St}{a:Act}{o:Oper}{e:rA}{v:qA}(h:uC B g w s a) (k:zX g w s.H e g' w' v) (z:zV s.N o.dst=true) (hi:JH (s.nb+32) e.upd=true):
    uC B g' w' ⟨tH o.dst e.slot s.env,rL e.upd s.H,s.nb+32,s.N,s.np⟩ (a.put o.dst v):=by
  refine⟨qr h.env k.le k.slot h.size z,k.heap,(qt _ _ _).trans h.size,λi j=>?_,by rw[qu];exact h.def_.eff h.heap k,aOU h.np (Nat.le_add_right _ _)⟩;have:i∉qW e.upd:=λhm=>by have:=WE hi hm;simp only at j;omega
  have hk:=k.gho i this;have hb:=h.nb i (by simp only at j;omega);exact⟨hk.1.trans hb.1,λn=>by rw[hk.2];exact hb.2 n⟩
theorem Hg {T:sJ}{Γ:tV}{ops:List Oper}: ∀(l:List Oper),tR T Γ ops l none=none
  |[]=>rfl
  |_::_=>rfl
theorem ce {T:sJ}{Γ:tV}{ops:List Oper}{o:Oper}{l:List Oper}{x y:uR}(h:tR T Γ ops (o::l) (some x)=some y):
    ∃ e,zU T Γ ops o x.s=some e/\zV x.s.N o.dst=true/\JH (x.s.nb+32) e.upd=true/\
      tR T Γ ops l (some ⟨⟨tH o.dst e.slot x.s.env,rL e.upd x.s.H,x.s.nb+32,x.s.N,x.s.np⟩,rL x.side (rL (M8 x.s.H e.upd e.rds e.upd) e.side),e::x.es⟩)=some y:=by
  simp only[tR] at h;cases z:zU T Γ ops o x.s with
  |none=>rw[z] at h;simp only[aa] at h;rw[Hg] at h;cases h
  | some e=>
    rw[z] at h;simp only[aa] at h;by_cases j:(zV x.s.N o.dst&&JH (x.s.nb+32) e.upd)=true
    · rw[aOd j] at h
      simp only[aOo] at j;exact⟨e,rfl,j.1,j.2,h⟩
    rw[aOi j,Hg] at h;cases h
theorem BY {T:sJ}{Γ:tV}{ops:List Oper}: ∀{l:List Oper}{x y:uR},tR T Γ ops l (some x)=some y->(∀p∈x.side,p∈y.side)/\y.s.N=x.s.N/\y.s.np=x.s.np
  | [],x,y,h=>by
    simp only[tR,aOf] at h;subst h;exact⟨λ_ h=>h,rfl,rfl⟩
  | o::l,x,y,h=>by
    obtain⟨e,_,_,_,E⟩:=ce h;obtain⟨D,z,j⟩:=BY E;exact⟨λp hp=>D p (wX.2 (.inl hp)),z,j⟩
def zA (ro:pX):Fence:={Fence.wide with round:=ro}
theorem a8J {ro:pX}{n:Nat}{P:Program}{f:FuncId}{args:Array qA}{w:pZ}{R:Ending->pZ->Prop}(h:Calls P f args w R):CallsIn (zA ro) n P f args w R:=callsIn_wide.2 h
section
variable {B:Nat}{P:Program}{T:sJ}{Γ:tV}(hT:w6 P T) (hΓ:DZ P Γ) {A:Nat->Nat->Prop}{L:List qQ}{g0:Gh}{w0:pZ}{Q:Exit->Act->pZ->Prop}
include hT hΓ
theorem Hh {g:Gh}{w:pZ}{s:St}{a:Act}(h:uC B g w s a) (e:rA):z6 g s.nb e:=λi _ hb=>h.nb i hb
omit hT hΓ in
theorem qv {ops:List Oper}{o:Oper}{s:St}{e:rA}(h:zU T Γ ops o s=some e): ∀c,o.op≠.defer c:=by
  intro c z;replace h:=(RV h).1;unfold RB at h;cases j:o.guard with
  |none=>rw[j,z] at h;simp [R9,uQ,R7] at h
  | some jb=>
    rw[j,z] at h;simp only at h;cases hk:Γ (ZZ jb.1 jb.2) with
    |some _=>rw[hk] at h;cases h
    | none=>
      rw[hk] at h;simp only[VN] at h;cases D:H9 s.env jb.2 (AF ops jb.1)<;>rw[D] at h<;>simp [R8,uQ,JF] at h
omit hT hΓ in
theorem cf {ro:pX}{o:Oper}{a:Act}{w:pZ}{K:Act->pZ->Prop}(j: ∀c,o.op≠.defer c) (h:o.wp P a w K Q):o.wpIn (zA ro) 0 P a w K Q:=by
  refine⟨λ_ _=>trivial,?_⟩;rw[Oper.semAt_eq _ _ _ j];unfold Oper.wp at h;generalize (execOp a.eval o).run P w=r at h|-;unfold Oper.upon at h;unfold Oper.uponIn;split at h
  .exact h
  .exact h
  .exact h
  .exact⟨λh0=>(by cases h0),a8J h⟩
  .exact⟨λh0=>(by cases h0),λc cs _=>let ⟨v,w',r,s⟩:=h c cs;⟨v,w',r,stepsIn_wide.2 s⟩⟩
  .exact h
  exact h.elim
theorem qw {ro:pX}{ops:Array Oper}: ∀{l:List Oper}{x y:uR}{a:Act}{w:pZ}{g:Gh},tR T Γ ops.toList l (some x)=some y->(∀p∈y.side,p)->uC B g w x.s a->tE A L g0 w0 g w x.s.H->L.length=x.s.np->
    (∀g' a' w',uC B g' w' y.s a'->tE A L g0 w0 g' w' y.s.H->Q .normal a' w')->wpListIn (zA ro) 0 P ops Q l a w
  | [],x,y,a,w,g,h,D,hr,F,E,G=>by
    simp only[tR,aOf] at h;subst h;exact G g a w hr F
  | o::l,x,y,a,w,g,h,D,hr,F,E,G=>by
    obtain⟨e,I,R,O,M⟩:=ce h;have j: ∀p∈e.side,p:=λp hp=>D p ((BY M).1 p (wX.2 (.inr (wX.2 (.inr hp)))));have key:=qn hT hΓ (ops:=ops.toList) (o:=o) (a:=a) (K:=wpListIn (zA ro) 0 P ops Q l) (Q:=Q) hr.env hr.heap I j (Hh hT hΓ hr e) (λg' w' v k=>qw M D (hr.step k R O) (F.eff k (E▸(RV I).2)) E G);simp only[aPv] at key;unfold wpListIn;split at key
    .rename_i z;rw[aOd z];exact cf (qv I) key
    rename_i z;rw[aOi z];exact⟨λ_ _=>trivial,key⟩
theorem a8K {ro:pX}{id:Nat}{ops:Array Oper}{s:St}{y:uR}{a:Act}{w:pZ}{g:Gh}(h:tR T Γ ops.toList ops.toList (some ⟨s,[],[]⟩)=some y) (j: ∀p∈y.side,p) (hr:uC B g w s a) (D:tE A L g0 w0 g w s.H) (z:L.length=s.np)
    (E: ∀g' a' w',uC B g' w' y.s a'->tE A L g0 w0 g' w' y.s.H->Q .normal a' w'):(Code.region id ops false).wpIn (zA ro) 0 P Q a w:=
  wpIn_region_list (qw hT hΓ h j hr D z E)
end
theorem a8L {H H':List (Nat×qQ)}{t:Ty}{i off:Nat}{e:rA}(h:JC H t i off (qU H i)=some e) (D: ∀id∈e.rds,qU H' id=qU H id):i∈e.rds/\JC H' t i off (qU H' i)=some e:=by
  have key: ∃k n v x ts,qU H i=some (.cells v x ts)/\BS v x=some (k,n)/\Z7 t i off k n v x (qU H k)=some e/\e.rds=[1000000000,i,k]:=by
    unfold JC at h;split at h
    case h_2=>cases h
    rename_i v x ts hb;cases hf:BS v x with
    |none=>rw[hf] at h;cases h
    | some q=>
      obtain⟨k,n⟩:=q;rw[hf] at h;refine⟨k,n,v,x,ts,hb,hf,h,?_⟩;simp only[Z8] at h;unfold Z7 at h;split at h
      case h_2=>cases h
      generalize zT _ _ _ _=z at h;cases z with
      |none=>cases h
      | some z=>
        obtain⟨v',x'⟩:=z;simp only[lv] at h;unfold lu at h;split at h
        .simp only[aOf] at h;rw[<-h]
        cases h
  obtain⟨k,n,v,x,ts,G,F,E,j⟩:=key;refine⟨by rw[j];simp,?_⟩;rw[D i (by rw[j];simp),G];simp only[JC,F,Z8];rw[D k (by rw[j];simp)];exact E
theorem qx {ρ ρ':Operand->qP}: ∀{xs:List Operand},(∀x∈xs,ρ' x=ρ x)->w4 ρ' xs=w4 ρ xs
  |[],_=>rfl
  |x::xs,h=>by simp only[w4,h x pP,qx (λy j=>h y (aOu _ j))]
theorem qy {ρ ρ':Operand->qP}: ∀{xs:List (Nat×Operand)},(∀x∈xs,ρ' x.2=ρ x.2)->uU ρ' xs=uU ρ xs
  |[],_=>rfl
  |(i,x)::xs,h=>by simp only[uU,h (i,x) pP,qy (λy j=>h y (aOu _ j))]
theorem Hi {T:sJ}{ρ ρ':Operand->qP}: ∀{xs:List Operand}{ts:List TypeId},(∀x∈xs,ρ' x=ρ x)->H8 T ρ' xs ts=H8 T ρ xs ts
  |[],_,_=>by simp [H8]
  |_::_,[],_=>by simp [H8]
  |x::xs,t::ts,h=>by simp only[H8,h x pP,Hi (λy j=>h y (aOu _ j))]
theorem a8M {T:sJ}{Γ:tV}{ty:TypeId}{ρ ρ':Operand->qP}{base:Nat}{H:List (Nat×qQ)}(op:Op) (h: ∀x∈op.operands,ρ' x=ρ x):uQ T Γ ty ρ' base H op=uQ T Γ ty ρ base H op:=by
  cases op
  case slice t x lo hi mx=>
    cases mx with
    |some m=>rfl
    | none=>
      have F:=h x (by simp [Op.operands])
      have E:wS ρ' lo=wS ρ lo:=by
        cases lo with
        |none=>rfl
        |some l=>simp only[wS,h l (by simp [Op.operands])]
      have D:wS ρ' hi=wS ρ hi:=by
        cases hi with
        |none=>rfl
        |some l=>simp only[wS,h l (by simp [Op.operands])]
      simp only[uQ,F,E,D]
  case call c=>
    obtain⟨callee,args,tys⟩:=c
    have ha: ∀x∈args.toList,ρ' x=ρ x:=λx j=>h x (by
      have:x∈args:=by simpa using j
      simp only[Op.operands,Call.operands];split<;>simp [this])
    cases callee with
    |builtin b=>cases b<;>simp only[uQ,M6,qx ha]
    | value f=>
      have hf:=h f (by simp [Op.operands,Call.operands]);simp only[uQ,M6,hf];cases M5 args.toList tys.toList with
      |false=>rfl
      |true=>simp only[mn,Hi ha]
    |_=>rfl
  case build t ps=>simp only[uQ,qy (λx j=>h x.2 aQs)]
  case buildSlice t n ps=>simp only[uQ,qy (λx j=>h x.2 aQs)]
  case makeFunc f first caps=>
    cases f with
    | func f=>
      have z: ∀x∈caps.toList,ρ' x=ρ x:=λx j=>h x (by
        have:x∈caps:=by simpa using j
        simp [Op.operands,this])
      simp only[uQ,qx z]
    |_=>rfl
  all_goals first
    |rfl
    |(simp only[Op.operands,aPZ,aOv,aPr,or_false,forall_eq,forall_eq_or_imp] at h;simp only[uQ,h])
    |(simp [Op.operands] at h;simp only[uQ,h])
theorem qz: ∀{l acc:List rX}{i:Nat},i∈sF (zR l acc)↔i∈sF l\/i∈sF acc
  |[],_,_=>by simp [zR,sF]
  | w::l,acc,i=>by
    simp only[zR,qz,sF,aOv];constructor
    · rintro(h|h|h)
      .exact .inl (.inr h)
      .exact .inl (.inl h)
      exact .inr h
    rintro((h|h) |h)
    .exact .inr (.inl h)
    .exact .inl h
    exact .inr (.inr h)
section
variable {H H':List (Nat×qQ)}
theorem a8N {k:pX}{a b:tC}(h:zS H k (some a)=some b):(∀i,i∈sF a.ws->i∈sF b.ws)/\((∀i,i∈sF b.ws->qU H' i=qU H i)->zS H' k (some a)=some b):=by
  cases k with
  | none=>
    have h:none=some b:=h;cases h
  | some k=>
    simp only[zS] at h|-
    have:(∃e c m,qU H k=some (.grow e c m)):=by
      cases j:qU H k with
      |none=>rw[j] at h;cases h
      | some bl=>cases bl with
        |grow e c m=>exact⟨_,_,_,rfl⟩
        |_=>rw[j] at h;cases h
    obtain⟨e,c,m,j⟩:=this;rw[j] at h;simp only[CH] at h;split at h
    .cases h
    rename_i hm
    simp only[aOf] at h;subst h;refine⟨λi hi=>by simp only[sF,aOv];exact .inr hi,λz=>?_⟩;rw[z k aQt,j];simp only[CH];rw[aOi hm]
theorem a8O (H:List (Nat×qQ)) (k:pX):zS H k none=none:=by
  cases k with
  |none=>rfl
  | some k=>
    simp only[zS];cases qU H k with
    |none=>rfl
    |some bl=>cases bl<;>rfl
theorem Hj (H:List (Nat×qQ)) (toks:pT) (o:Nat): ∀(qs:pY),yY H toks o qs none=none
  |[]=>rfl
  |q::qs=>by simp only[yY,a8O,Hj H toks o qs]
theorem Hk {H H':List (Nat×qQ)}{toks:pT}{o:Nat}: ∀{qs:pY}{a b:tC},yY H toks o qs (some a)=some b->(∀i,i∈sF a.ws->i∈sF b.ws)/\((∀i,i∈sF b.ws->qU H' i=qU H i)->yY H' toks o qs (some a)=some b)
  |[],a,b,h=>by simp only[yY,aOf] at h;subst h;exact⟨λ_ h=>h,λ_=>rfl⟩
  | q::qs,a,b,h=>by
    simp only[yY] at h|-;cases hm:zS H (xK toks (o+q)) (some a) with
    |none=>rw[hm,Hj] at h;cases h
    | some m=>
      rw[hm] at h;obtain⟨F,E⟩:=a8N (H':=H') hm;obtain⟨z,D⟩:=Hk (H':=H') h;exact⟨λi hi=>z i (F i hi),λj=>by rw[E (λi hi=>j i (z i hi))];exact D j⟩
theorem a8P (H H':List (Nat×qQ)) (a:tC) (s:qP):y7 H' a .v s=y7 H a .v s:=by
  obtain⟨d,k⟩:=s;cases d with
  | val t x=>
    cases t with
    | clo=>
      cases x with
      |none=>rfl
      |some q=>obtain⟨f,l⟩:=q;cases l<;>rfl
    |_=>rfl
  |_=>rfl
theorem Hl {H H':List (Nat×qQ)}{t:Ty}{os:pY}{i o:Nat}{a b:tC}(h:w9 H t os i o a (qU H i)=some b):(∀i,i∈sF a.ws->i∈sF b.ws)/\((∀i,i∈sF b.ws->qU H' i=qU H i)->w9 H' t os i o a (qU H' i)=some b):=by
  cases D:qU H i with
  |none=>rw[D] at h;simp [w9] at h
  | some bl=>
    rw[D] at h;cases bl with
    | cells u x toks=>
      simp only[w9] at h;cases z:rT t u x o with
      |none=>rw[z] at h;simp [FZ] at h
      | some y=>
        rw[z] at h;simp only[FZ] at h;split at h
        · rename_i I
          obtain⟨F,K⟩:=Hk (H':=H') h;refine⟨λj G=>F j (by simp only[sF,aOv];exact .inr G),λE=>?_⟩;rw[E i (F i aQt),D];simp only[w9,z,FZ];rw[aOd I];exact K E
        .cases h
    |_=>simp [w9] at h
theorem a8Q (H:List (Nat×qQ)) (f:FuncId) (args:List qP) (ks:List (Ty×pY)) (cs ids:pT):y6 H f args ks cs ids none=none:=by cases ks<;>cases cs<;>rfl
theorem Hm {H H':List (Nat×qQ)}{f:FuncId}{args:List qP}: ∀{ks:List (Ty×pY)}{cs ids:pT}{a b:tC},y6 H f args ks cs ids (some a)=some b->(∀i,i∈sF a.ws->i∈sF b.ws)/\((∀i,i∈sF b.ws->qU H' i=qU H i)->y6 H' f args ks cs ids (some a)=some b)
  | [],[],ids,a,b,h=>by
    simp only[y6,aOf] at h|-;subst h;exact⟨λ_ h=>h,λ_=>rfl⟩
  |[],_::_,_,_,_,h=>by simp [y6] at h
  |_::_,[],_,_,_,h=>by simp [y6] at h
  | (t,os)::ks,(i,o)::cs,ids,a,b,h=>by
    simp only[y6] at h|-;cases hb:w9 H t os i o a (qU H i) with
    |none=>rw[hb,a8Q] at h;cases h
    | some m=>
      rw[hb] at h;obtain⟨F,E⟩:=Hl (H':=H') hb;obtain⟨z,D⟩:=Hm (H':=H') h;exact⟨λi hi=>z i (F i hi),λj=>by rw[E (λi hi=>j i (z i hi))];exact D j⟩
theorem Hn {p:PK}{s:qP}{a b:tC}(h:y7 H a p s=some b):(∀i,i∈sF a.ws->i∈sF b.ws)/\((∀i,i∈sF b.ws->qU H' i=qU H i)->y7 H' a p s=some b):=by
  by_cases E:p= .v
  · subst E
    refine⟨?_,λ_=>by rw[a8P H H'];exact h⟩;unfold y7 at h;split at h
    .simp only[YS,aOf] at h;subst h;exact λ_ h=>h
    · simp only[YR] at h
      split at h
      .simp only[aOf] at h;subst h;exact λ_ h=>h
      cases h
    .simp only[YT,aOf] at h;subst h;exact λ_ h=>h
    .rename_i D;cases D
    .rename_i D;cases D
    .rename_i D;cases D
    .rename_i D;cases D
    .rename_i D;cases D
    .rename_i D;cases D
    cases h
  unfold y7 at h;split at h
  .exact absurd rfl E
  .exact absurd rfl E
  .exact absurd rfl E
  · rename_i t x k
    simp only[y7];cases z:qU H k with
    |none=>rw[z] at h;simp [CI] at h
    | some bl=>
      rw[z] at h;cases bl with
      | grow e c m=>
        simp only[CI] at h;split at h
        · rename_i G
          simp only[aOf] at h;subst h;refine⟨λi hi=>by simp only[sF,aOv];exact .inr hi,λF=>?_⟩;rw[F k aQt,z];simp only[CI];rw[aOd G]
        .cases h
      |_=>simp [CI] at h
  · rename_i t os i o k
    simp only[y7];exact Hl h
  · rename_i i k
    simp only[y7];cases z:qU H i with
    |none=>rw[z] at h;simp [CK] at h
    | some bl=>
      rw[z] at h;cases bl with
      | map s t l=>
        simp only[CK] at h;split at h
        · rename_i G
          simp only[aOf] at h;subst h;refine⟨λj I=>by simp only[sF,aOv];exact .inr I,λF=>?_⟩;rw[F i aQt,z];simp only[CK];rw[aOd G]
        .cases h
      |_=>simp [CK] at h
  · rename_i i k
    simp only[y7];cases z:qU H i with
    |none=>rw[z] at h;simp [CL] at h
    | some bl=>
      rw[z] at h;cases bl with
      | map s t l=>
        simp only[CL] at h;split at h
        · rename_i G
          simp only[aOf] at h;subst h;refine⟨λj I=>by simp only[sF,aOv];exact .inr I,λF=>?_⟩;rw[F i aQt,z];simp only[CL];rw[aOd G]
        .cases h
      |_=>simp [CL] at h
  · rename_i k n k'
    simp only[y7];cases z:qU H k with
    |none=>rw[z] at h;simp [CM] at h
    | some bl=>
      rw[z] at h;cases bl with
      | row e t l m=>
        simp only[CM] at h;split at h
        · rename_i G
          simp only[aOf] at h;subst h;refine⟨λj I=>by simp only[sF,aOv];exact .inr I,λF=>?_⟩;rw[F k aQt,z];simp only[CM];rw[aOd G]
        .cases h
      |_=>simp [CM] at h
  · simp only[y7]
    exact Hm h
  cases h
theorem Ho (H:List (Nat×qQ)) (gs:List (Nat×Nat×PK)):BQ H gs none=none:=by cases gs<;>rfl
theorem Hp {H H':List (Nat×qQ)}: ∀{gs:List (Nat×Nat×PK)}{a b:tC},BQ H gs (some a)=some b->(∀i,i∈sF a.ws->i∈sF b.ws)/\((∀i,i∈sF b.ws->qU H' i=qU H i)->BQ H' gs (some a)=some b)
  |[],a,b,h=>by simp only[BQ,aOf] at h;subst h;exact⟨λ_ h=>h,λ_=>rfl⟩
  | (c,q,pk)::gs,a,b,h=>by
    simp only[BQ] at h|-;cases hm:y7 H a pk (LT q pk (J8 a.H (a.n-1-c))) with
    |none=>rw[hm] at h;simp only[QV,Ho] at h;cases h
    | some m=>
      rw[hm] at h;simp only[QV] at h;obtain⟨F,E⟩:=Hn (H':=H') hm;obtain⟨z,D⟩:=Hp (H':=H') h;exact⟨λi hi=>z i (F i hi),λj=>by rw[E (λi hi=>j i (z i hi))];simp only[QV];exact D j⟩
theorem a8R (H:List (Nat×qQ)): ∀(ps:List PK) (ss:List qP),y8 H ps ss none=none
  |[],[]=>rfl
  |[],_::_=>rfl
  |_::_,[]=>rfl
  |_::_,_::_=>rfl
theorem Hq {H H':List (Nat×qQ)}: ∀{ps:List PK}{ss:List qP}{a b:tC},y8 H ps ss (some a)=some b->(∀i,i∈sF a.ws->i∈sF b.ws)/\((∀i,i∈sF b.ws->qU H' i=qU H i)->y8 H' ps ss (some a)=some b)
  |[],[],a,b,h=>by simp only[y8,aOf] at h;subst h;exact⟨λ_ h=>h,λ_=>rfl⟩
  |[],_::_,a,b,h=>by simp [y8] at h
  |_::_,[],a,b,h=>by simp [y8] at h
  | p::ps,s::ss,a,b,h=>by
    simp only[y8] at h|-;cases hm:y7 H a p s with
    |none=>rw[hm,a8R] at h;cases h
    | some m=>
      rw[hm] at h;obtain⟨F,E⟩:=Hn (H':=H') hm;obtain⟨z,D⟩:=Hq (H':=H') h;exact⟨λi hi=>z i (F i hi),λj=>by rw[E (λi hi=>j i (z i hi))];exact D j⟩
theorem Hr {H H':List (Nat×qQ)}{base:Nat}{args:List qP}{s:r8}{e:rA}(h:H6 H base args (some s)=some e) (E: ∀i∈e.rds,qU H' i=qU H i):H6 H' base args (some s)=some e:=by
  simp only[H6] at h|-;cases j:y8 H s.ps args (some ⟨[],[],[],0⟩) with
  |none=>rw[j,Ho] at h;cases h
  |some a0=>
   rw[j] at h;cases hp:BQ H s.gs (some a0) with
   |none=>rw[hp] at h;cases h
   |some a=>
    rw[hp] at h
    have z: ∀i,i∈sF (zR a.ws [])->i∈e.rds:=by
      simp only[VC] at h;cases D:J9 (zR a.ws []) (zR a.H []) with
      |none=>rw[D] at h;cases h
      |some L=>
      rw[D] at h;simp only[YZ] at h;cases F:s.C (zR a.args []) L with
      |none=>rw[F] at h;cases h
      | some r=>
        rw[F] at h;simp only[YY] at h;unfold VA at h;split at h
        · simp only[aOf] at h
          rw[<-h];exact λi hi=>wX.2 (.inl hi)
        cases h
    obtain⟨g1,g2⟩:=Hp (H':=H') hp;rw[(Hq (H':=H') j).2 (λi hi=>E i (z i (qz.2 (.inl (g1 i hi))))),g2 (λi hi=>E i (z i (qz.2 (.inl hi))))];exact h
theorem Hs {H H':List (Nat×qQ)}{base:Nat}{args:List qP}{s:Option r8}{e:rA}(h:M4 H base args s=some e) (z: ∀i∈e.rds,qU H' i=qU H i):M4 H' base args s=some e:=by
  cases s with
  |none=>cases h
  | some s=>
    simp only[M4] at h|-;cases hr:s.row with
    | some F=>
      rw[hr] at h;simp only[ZP] at h|-;unfold Z0 at h|-;split at h
      · rename_i k n x
        cases j:qU H k with
        |none=>rw[j] at h;cases h
        | some b=>
          have hk:k∈e.rds:=by
            rw[j] at h;cases b with
            | row e0 t l m=>
              simp only[kv] at h;unfold Cf at h;split at h
              .simp only[aOf] at h;rw[<-h];simp
              .cases h
            |_=>cases h
          rw[z k hk];exact h
      .cases h
    | none=>
      rw[hr] at h;simp only[ZP] at h|-;cases E:VD s.ps args with
      |none=>rw[E] at h;exact Hr h z
      | some k=>
        rw[E] at h;simp only[Ce] at h|-;cases j:qU H k with
        |none=>rw[j] at h;cases h
        | some b=>
          rw[j] at h;cases b with
          | row e0 t l m=>
            simp only[VF] at h;cases hi:H6 ((k,.dead)::H) base (VE k t l args) (some s) with
            |none=>rw[hi] at h;cases h
            | some e1=>
              rw[hi] at h
              have hk:k∈e.rds/\∀i∈e1.rds,i∈e.rds:=by
                unfold ku at h;split at h
                · rename_i heq
                  simp only[aOf] at heq;subst heq;split at h
                  · simp only[aOf] at h
                    rw[<-h];exact⟨by simp,λi hi=>aOu _ hi⟩
                  cases h
                cases h
              rw[z k hk.1,j];simp only[VF]
              rw[Hr hi (λi D=>by
                simp only[qU];split
                .rfl
                exact z i (hk.2 i D))]
              exact h
          |_=>cases h
theorem a8S {Γ:tV}{base:Nat}{args:List qP}{f:qP}{e:rA}(h:R4 Γ H base args f=some e) (j: ∀i∈e.rds,qU H' i=qU H i):R4 Γ H' base args f=some e:=by
  unfold R4 at h|-;split at h
  .exact Hs h j
  .exact Hs h j
  cases h
theorem a8T {T:sJ}{Γ:tV}{ty:TypeId}{ρ:Operand->qP}{base:Nat}{op:Op}{e:rA}(h:uQ T Γ ty ρ base H op=some e) (z: ∀i∈e.rds,qU H' i=qU H i):uQ T Γ ty ρ base H' op=some e:=by
  cases op
  case load t x=>
    simp only[uQ] at h|-;unfold ZA at h|-;split at h
    · rename_i ti k n c i o' _ e1 e2
      unfold VJ at h;split at h
      · rename_i e' t' l m j
        split at h
        · rename_i F
          have:e.rds=[k]:=by
            unfold Cl at h;split at h
            .simp only[aOf] at h;rw[<-h]
            cases h
          rw[z k aQu,j];simp only[VJ];rw[aOd F];exact h
        cases h
      cases h
    · rename_i ti i off t m ix _ e1 e2
      split at h
      · rename_i O
        unfold lw at h;split at h
        · rename_i u x tk j
          have:e.rds=[i]:=by
            unfold Cn at h;split at h
            .simp only[aOf] at h;rw[<-h]
            cases h
          rw[aOd O,z i aQu,j];exact h
        cases h
      cases h
    .exact h
    · rename_i ti i off k e1 e2
      rcases Ek h with I|⟨h0,I⟩
      · have hi:i∈e.rds:=by
          rcases Ej I with h|h
          · unfold VI at h
            split at h
            · unfold Ck at h;split at h
              .simp only[aOf] at h;rw[<-h];simp
              cases h
            cases h
          unfold Z6 at h
          split at h
          · unfold ln at h;split at h
            .simp only[aOf] at h;rw[<-h];simp
            cases h
          cases h
        rw[z i hi,I];rfl
      obtain⟨hi,V⟩:=a8L I z
      rw[z i hi,h0];rw[z i hi] at V;exact V
    cases h
  case store t x y=>
    simp only[uQ] at h|-;unfold ZG at h|-;split at h
    · rename_i ti i off k kk n k' e1 e2 e3
      have hi:i∈e.rds:=by
        unfold ma at h;split at h
        · rcases Fe h with h|h
          · unfold ZB at h;split at h
            .simp only[aOf] at h;rw[<-h];simp
            cases h
          unfold lz at h;split at h
          .simp only[aOf] at h;rw[<-h];simp
          cases h
        cases h
      rw[z i hi];exact h
    · rename_i ti k n c i o' _ t y k' e1 e2 e3
      split at h
      · rename_i M
        rw[aOd M];unfold ZF at h;split at h
        · rename_i e' t' l m j
          split at h
          · rename_i F
            have:e.rds=[k]:=by
              unfold Cp at h;split at h
              .simp only[aOf] at h;rw[<-h]
              cases h
            rw[z k aQu,j];simp only[ZF];rw[aOd F];exact h
          cases h
        cases h
      cases h
    · rename_i ti i off k t y k' e1 e2 e3
      split at h
      · rename_i M
        have hi:e.rds=[i]:=by
          unfold ZE at h;split at h
          · unfold ZD at h
            split at h
            · unfold Co at h;split at h
              .simp only[aOf] at h;rw[<-h]
              cases h
            cases h
          unfold ZC at h
          split at h
          · unfold ZB at h;split at h
            .simp only[aOf] at h;rw[<-h]
            cases h
          cases h
        rw[z i (by rw[hi];simp)];simp only[aOd M];exact h
      cases h
    cases h
  case call c=>
    obtain⟨callee,args,tys⟩:=c;cases callee with
    | builtin b=>
      cases b
      case append=>
        simp only[uQ,M6] at h|-;unfold ZS at h|-;split at h
        · split at h
          · rename_i K
            rw[aOd K];unfold ZN at h|-;split at h
            · split at h
              · rename_i Q
                rw[aOd Q];unfold ZM at h;split at h
                · rename_i j
                  split at h
                  · rename_i R
                    split at h
                    · rename_i F
                      simp only[aOf] at h;subst h;rw[z _ (aOz),j];simp only[ZM];rw[aP4 R,aOd F]
                    cases h
                  cases h
                cases h
              cases h
            · split at h
              · rename_i U
                rw[aP4 U];unfold ZL at h;split at h
                · rename_i j
                  split at h
                  · rename_i F
                    simp only[aOf] at h;subst h;rw[z _ (aOz),j];simp only[ZL];rw[aOd F]
                  cases h
                cases h
              cases h
            cases h
          rename_i K
          rw[aOi K];unfold mm at h|-;split at h
          · unfold ZR at h
            split at h
            · rename_i j
              split at h
              · rename_i F
                simp only[aOf] at h;subst h;rw[z _ (aOz),j];simp only[ZR];rw[aOd F]
              cases h
            cases h
          cases h
        cases h
      case len=>
        simp only[uQ,M6] at h|-;unfold ZQ at h|-;split at h
        · unfold mj at h|-
          split at h
          · unfold ZK at h
            split at h
            · rename_i j
              simp only[aOf] at h;subst h;rw[z _ (aOz),j];simp only[ZK]
            cases h
          all_goals exact h
        cases h
      all_goals exact h
    | value f=>
      simp only[uQ,M6] at h|-;cases G:M5 args.toList tys.toList with
      |false=>rw[G] at h;cases h
      |true=>rw[G] at h;exact a8S h z
    |_=>exact h
  case makeFunc f first caps=>
    cases f with
    |func f=>exact h
    |_=>exact h
  case slice t x lo hi mx=>
    cases mx with
    | none=>
      simp only[uQ] at h|-;unfold ZY at h|-;split at h
      · rename_i u el by' ar ls k n _ e1 e2
        generalize wS ρ lo=x1 at h|-;generalize wS ρ hi=x2 at h|-;generalize hb:qU H k=ob at h;unfold mw at h;split at h
        · rename_i e3
          have:e.rds=[k]:=by simp only[aOf] at h;rw[<-h]
          rw[z k aQu,hb];exact h
        cases h
      .exact h
    |some m=>exact h
  case next x b=>
    simp only[uQ] at h|-;unfold ZX at h|-;split at h
    · rename_i i k e1
      unfold mv at h;split at h
      · rename_i j
        have:e.rds=[i]:=by
          simp only[aOf] at h;rw[<-h]
        rw[z i aQu,j];exact h
      cases h
    cases h
  case lookup xt x ix ok=>
    simp only[uQ] at h|-;unfold ZU at h|-;split at h
    · rename_i el fl ar ls_ i kk e1 e2
      unfold mr at h|-;split at h
      · rename_i kt vt k a _
        split at h
        · rename_i hk
          rw[aOd hk];unfold ZT at h;split at h
          · rename_i j
            split at h
            · rename_i E
              split at h
              · rename_i D
                have:e.rds=[i]:=by
                  cases ok<;>(simp only[aOf] at h;rw[<-h])
                rw[z i aQu,j];simp only[ZT];rw[aP4 E,aOd D];exact h
              cases h
            cases h
          cases h
        cases h
      cases h
    .exact h
    cases h
  case mapUpdate mt m x y=>
    simp only[uQ] at h|-;unfold R6 at h|-;split at h
    · rename_i el fl ar ls_ i kk e1 e2
      unfold ZV at h|-;split at h
      · rename_i kt k a _ u b _
        split at h
        · rename_i hk
          rw[aOd hk];unfold R5 at h;split at h
          · rename_i j
            split at h
            · rename_i E
              split at h
              · rename_i D
                have:e.rds=[i]:=by
                  simp only[aOf] at h;rw[<-h]
                rw[z i aQu,j];simp only[R5];rw[aP4 E,aOd D];exact h
              cases h
            cases h
          cases h
        cases h
      cases h
    cases h
  case insert mt m x y=>
    simp only[uQ] at h|-;unfold R6 at h|-;split at h
    · rename_i el fl ar ls_ i kk e1 e2
      unfold ZV at h|-;split at h
      · rename_i kt k a _ u b _
        split at h
        · rename_i hk
          rw[aOd hk];unfold R5 at h;split at h
          · rename_i j
            split at h
            · rename_i E
              split at h
              · rename_i D
                have:e.rds=[i]:=by
                  simp only[aOf] at h;rw[<-h]
                rw[z i aQu,j];simp only[R5];rw[aP4 E,aOd D];exact h
              cases h
            cases h
          cases h
        cases h
      cases h
    cases h
  all_goals exact h
end
def a8U {T:sJ}{Γ:tV}{ops:Array Oper}{o:Oper}{s s':St}{e:rA}(h:RB T Γ ops.toList o s=some e) (U: ∀t∈o.looksAt ops,lk s'.env t=lk s.env t) (hH: ∀i∈e.rds,qU s'.H i=qU s.H i) (hn:s'.nb=s.nb):RB T Γ ops.toList o s'=some e:=by
 have z: ∀x∈o.op.operands,tB s'.env x=tB s.env x:=λx D=>by
  cases x with
  |tmp t=>exact U t (by simp only[Oper.looksAt,aOR,List.mem_filterMap];exact .inl ⟨.tmp t,by simpa using D,rfl⟩)
  |_=>rfl
 have I:CR s'.env (sQ o.op)=CR s.env (sQ o.op):=by
  have Q: ∀x∈sQ o.op,x∈o.op.operands:=by
   have hp: ∀(l:List (Nat×Operand)) x,x∈sQ.parts l->x∈l.map (·.2):=by
    intro l
    induction l with
    |nil=>intro x h;exact h
    |cons q l ih=>
     intro x h;obtain⟨i,y⟩:=q;simp only[sQ.parts,aOv] at h;rcases h with rfl|h
     .simp
     simp only[aO7,aOv];exact .inr (ih x h)
   have K: ∀(y:Option Operand) x,x∈sQ.opt y->y=some x:=by
    intro y x h;cases y with
    |none=>cases h
    |some y=>simp only[sQ.opt,aOs] at h;rw[h]
   intro x D;cases z:o.op
   case call c=>
    rw[z] at D;obtain⟨callee,args,tys⟩:=c;cases callee<;>simp_all [sQ,Op.operands,Call.operands]
   case slice t y lo hi mx=>
    rw[z] at D;simp only[sQ,aOv,wX] at D;simp only[Op.operands,Array.mem_append];rcases D with rfl|D|D
    .simp
    .have:=K _ _ D;subst this;simp
    have:=K _ _ D;subst this;simp
   case build t ps=>rw[z] at D;simp only[Op.operands,aPZ];exact hp _ _ D
   case buildSlice t n ps=>rw[z] at D;simp only[Op.operands,aPZ];exact hp _ _ D
   all_goals (rw[z] at D;simp_all [sQ,Op.operands])
  have: ∀(l:List Operand),(∀x∈l,x∈o.op.operands)->CR s'.env l=CR s.env l:=by
   intro l
   induction l with
   |nil=>intro _;rfl
   |cons x l ih=>intro h;simp only[CR,z x (h x pP),ih (λy hy=>h y (aOu _ hy))]
  exact this _ Q
 have O: ∀{e0:rA},uQ T Γ o.type (λx=>yA (tB s.env x)) s.nb s.H o.op=some e0->e0.rds=e.rds->uQ T Γ o.type (λx=>yA (tB s'.env x)) s'.nb s'.H o.op=some e0:=by
  intro e0 h1 h2;rw[a8M (ρ:=λx=>yA (tB s.env x)) (ρ':=λx=>yA (tB s'.env x)) o.op (λx D=>by simp only[z x D]),hn];exact a8T h1 (by rw[h2];exact hH)
 unfold RB at h|-;cases R:o.guard with
 |none=>
  rw[R] at h;simp only at h|-;by_cases F: ∃c x y,o.op= .pick c x y
  .obtain⟨c,x,y,hp⟩:=F;rw[hp] at h|-;simp only[R9] at h|-;rw[z c aQv,z x aQv,z y aQv];exact h
  .have e1: ∀s,R9 T Γ o s o.op=R7 (zF true (CR s.env (sQ o.op))) (uQ T Γ o.type (λx=>yA (tB s.env x)) s.nb s.H o.op):=by
    intro s;cases K:o.op<;>first|rfl|(exact absurd ⟨_,_,_,K⟩ F)
   rw[e1] at h|-;rw[I];cases E:uQ T Γ o.type (λx=>yA (tB s.env x)) s.nb s.H o.op with
   |none=>rw[E] at h;cases h
   |some e0=>
    rw[E] at h;simp only[R7,aOf] at h;rw[O E (by rw[<-h])];simp only[R7,h]
 |some jb=>
  obtain⟨j,b⟩:=jb;rw[R] at h;simp only at h|-;have Z:H9 s'.env b (AF ops.toList j)=H9 s.env b (AF ops.toList j):=by
   rw[WB];cases V:(ops.toList[j]?).bind (·.dst) with
   |none=>rfl
   |some t=>
    simp only[H9];rw[U t (by
     simp only[Oper.looksAt,R,aOR];right;have:(ops[j]?).bind (·.dst)=some t:=by simpa using V
     rw[this];simp)]
  have X:M7 s'.env b (AF ops.toList j)=M7 s.env b (AF ops.toList j):=by
   rw[WB];cases V:(ops.toList[j]?).bind (·.dst) with
   |none=>rfl
   |some t=>
    simp only[M7];rw[U t (by
     simp only[Oper.looksAt,R,aOR];right;have:(ops[j]?).bind (·.dst)=some t:=by simpa using V
     rw[this];simp)]
  rw[Z,X];cases M:Γ (ZZ j b) with
  |some sg=>rw[M] at h;exact h
  |none=>
  rw[M] at h;simp only[VN] at h|-;cases hG:H9 s.env b (AF ops.toList j) with
  |none=>rw[hG] at h;cases h
  |some G=>
   rw[hG] at h;by_cases F: ∃c x y,o.op= .pick c x y
   .obtain⟨c,x,y,hp⟩:=F;rw[hp] at h|-;simp only[R8] at h|-;rw[z c aQv,z x aQv,z y aQv];exact h
   have e1: ∀s,R8 T Γ o s (some G) o.op=JF G (zF G (CR s.env (sQ o.op))) (uQ T Γ o.type (λx=>yA (tB s.env x)) s.nb s.H o.op):=by
    intro s;cases K:o.op<;>first|rfl|(exact absurd ⟨_,_,_,K⟩ F)
   rw[e1] at h|-;rw[I];cases E:uQ T Γ o.type (λx=>yA (tB s.env x)) s.nb s.H o.op with
   |none=>rw[E] at h;cases h
   |some e0=>
    rw[E] at h;have Y:e0.rds=e.rds:=by
     unfold JF at h;split at h
     .rename_i heq;simp only[aOf] at h heq;subst heq;rw[<-h]
     .rename_i heq;simp only[aOf] at h heq;subst heq;rw[<-h]
     cases h
    rw[O E Y];exact h
def rc {T:sJ}{Γ:tV}{ops:Array Oper}{o:Oper}{s s':St}{e:rA}(h:zU T Γ ops.toList o s=some e) (z: ∀t∈o.looksAt ops,lk s'.env t=lk s.env t) (hH: ∀i∈e.rds,qU s'.H i=qU s.H i) (D:s'.nb=s.nb) (hp:s'.np=s.np):zU T Γ ops.toList o s'=some e:=by
 obtain⟨j,E⟩:=RV h;unfold zU at h|-;rw[j] at h;rw[a8U j z hH D,hp];exact h
def uY {α:Type}(p:Nat->Bool) (wr:Nat->Option α) (b:α):Nat->α
 |0=>b
 |k+1=>if p k=true then(wr k).getD (uY p wr b k) else uY p wr b k
def MO {α:Type}{p q:Nat->Bool}{wr:Nat->Option α}{b:α}: ∀{n:Nat},(∀j,j<n->wr j≠none->p j=q j)->uY p wr b n=uY q wr b n
 |0,_=>rfl
 |n+1,h=>by
  simp only[uY];have ih:=MO (p:=p) (q:=q) (wr:=wr) (b:=b) (n:=n) (λj D=>h j pN);cases z:wr n with
  |none=>simp [ih]
  |some v=>rw[h n pN (by rw[z];simp),ih]
def rf {α:Type}{wr:Nat->Option α}{b:α}{i:Nat}: ∀{n:Nat},i<=n->uY (λj=>decide (j<i)) wr b n=uY (λ_=>true) wr b i
 |0,h=>by
  have:i=0:=by omega
  subst this;rfl
 |n+1,h=>by
  by_cases hi:i=n+1
  .subst hi;exact MO (λj z _=>by simp [z])
  have: ¬n<i:=by omega
  simp only[uY];rw[aOi (by simp [this])];exact rf pN
def cg {α:Type}{p q:Nat->Bool}{wr:Nat->Option α}{b:α}{i:Nat}(hi:p i=false) (D: ∀j,q j=if j=i then true else p j): ∀{n:Nat},i<n->(∀j,i<j->j<n->p j=true->wr j=none\/wr i=none)->uY q wr b n=(wr i).getD (uY p wr b n)
 |0,h,_=>by omega
 |n+1,h,F=>by
  simp only[uY];by_cases E:n=i
  .subst E;rw[aOd (by rw[D];simp),aOi (by simp [hi])];rw[MO (p:=q) (q:=p) (λj G _=>by rw[D,aOi pN])]
  have ih:=cg (b:=b) hi D (n:=n) pN (λj z I=>F j z pN);rw[D,aOi E,ih];by_cases hp:p n=true
  .rw[aOd hp,aOd hp];rcases F n pN pN hp with z|z
   .rw[z];rfl
   rw[z];rfl
  rw[aOi hp,aOi hp]
def rh {α:Type}{p:Nat->Bool}{wr:Nat->Option α}{b:α}: ∀(k:Nat),uY p wr b (k+1)=uY (λj=>p (j+1)) (λj=>wr (j+1)) (if p 0=true then(wr 0).getD b else b) k
 |0=>rfl
 |k+1=>by
  rw[uY,rh k];rfl
def ri {rds:pY}{i:Nat}: ∀{u:List (Nat×qQ)},i∈qW (JI rds u)↔i∈qW u/\CS i rds=false
 |[]=>by simp [JI,qW]
 |(j,b)::u=>by
  simp only[JI];cases h:CS j rds with
  |true=>
   rw[aOd rfl,ri (u:=u)];simp only[qW,aOv];constructor
   .rintro⟨D,z⟩;exact⟨.inr D,z⟩
   .rintro⟨rfl|D,z⟩
    .rw[h] at z;cases z
    .exact⟨D,z⟩
  |false=>
   rw[aOi pP];simp only[qW,aOv,ri (u:=u)];constructor
   .rintro(rfl|⟨D,z⟩)
    .exact⟨.inl rfl,h⟩
    exact⟨.inr D,z⟩
   rintro⟨rfl|D,z⟩
   .exact .inl rfl
   exact .inr ⟨D,z⟩
def RW {e:rA}{i:Nat}:i∈qW (yB e)↔i∈qW e.upd/\CS i e.rds=false:=ri
def Ht {i:Nat}: ∀{l:pY},CS i l=true->i∈l
 |[],h=>by cases h
 |j::l,h=>by
  simp only[CS] at h;split at h
  .rename_i e;subst e;exact aOz
  exact aOu _ (Ht h)
def Hu {H U:List (Nat×qQ)}{rds:pY}{i:Nat}(h:CS i rds=true): ∀{u:List (Nat×qQ)},i∈qW u->(qU U i=qU H i)∈M8 H U rds u
 |[],hi=>by cases hi
 |(j,b)::u,hi=>by
  simp only[M8];simp only[qW,aOv] at hi;rcases hi with rfl|hi
  .rw[aOd h];exact aOz
  have:=Hu (H:=H) (U:=U) h hi;split
  .exact aOu _ this
  exact this
def a8V {H:List (Nat×qQ)}{e:rA}(z: ∀p∈M8 H e.upd e.rds e.upd,p) {i:Nat}(j:i∈qW e.upd) (E:i∉qW (yB e)):qU e.upd i=qU H i/\i∈e.rds:=by
 have h:CS i e.rds=true:=by
  cases D:CS i e.rds with
  |true=>rfl
  |false=>exact absurd (RW.2 ⟨j,D⟩) E
 exact⟨z _ (Hu h j),Ht h⟩
def BB (os:List Oper) (es:List rA) (t j:Nat):Option qP:=
 match os[j]?,es[j]? with
 |some o,some e=>if o.dst=some t then some e.slot else none
 |_,_=>none
def yE (es:List rA) (id j:Nat):Option (Option qQ):=
 match es[j]? with
 |some e=>if id∈qW (yB e) then some (qU e.upd id) else none
 |none=>none
def RX {id:Nat}{H:sA}: ∀{u:List (Nat×qQ)},qU (rL u H) id=if id∈qW u then qU u id else qU H id
 |[]=>by simp [rL,qW]
 |(k,b)::u=>by
  simp only[rL,qU,qW,aOv];by_cases h:k=id
  .subst h;simp
  rw[aOi h,aOi h,RX (u:=u)];have:(id=k\/id∈qW u)↔id∈qW u:=⟨λj=>j.resolve_left (Ne.symm h),.inr⟩;simp only[this]
def Hv {d:Option Tmp}{s:qP}{env:List (Nat×qP)}{t:Nat}:lk (tH d s env) t=if d=some t then s else lk env t:=by
 cases d with
 |none=>simp [tH]
 |some d=>simp only[tH,lk,aOf]
structure rj (T:sJ) (Γ:tV) (ops:List Oper) (os:List Oper) (es:List rA) (s:St) (y:uR) (k:Nat) (o:Oper) (e:rA) (sk:St):Prop where
 ev:zU T Γ ops o sk=some e
 nb:sk.nb=s.nb+32*k
 dst:zV s.N o.dst=true
 ids:JH (s.nb+32*k+32) e.upd=true
 np:sk.np=s.np
 side: ∀p∈e.side,p∈y.side
 env: ∀t,lk sk.env t=uY (λ_=>true) (BB os es t) (lk s.env t) k
 heap: ∀id,qU sk.H id=uY (λ_=>true) (yE es id) (qU s.H id) k
 same: ∀id,id∈qW e.upd->id∉qW (yB e)->qU e.upd id=qU sk.H id/\id∈e.rds
structure rk (T:sJ) (Γ:tV) (ops:List Oper) (os:List Oper) (es:List rA) (s:St) (y:uR):Prop where
 len:es.length=os.length
 nb:y.s.nb=s.nb+32*os.length
 step: ∀k o e,os[k]? =some o->es[k]? =some e->∃sk,rj T Γ ops os es s y k o e sk
 env: ∀t,lk y.s.env t=uY (λ_=>true) (BB os es t) (lk s.env t) os.length
 heap: ∀id,qU y.s.H id=uY (λ_=>true) (yE es id) (qU s.H id) os.length
def ch {T:sJ}{Γ:tV}{ops:List Oper}: ∀{l:List Oper}{x y:uR},tR T Γ ops l (some x)=some y->(∀p∈y.side,p)->∃es:List rA,y.es=es.reverse++x.es/\rk T Γ ops l es x.s y
 |[],x,y,h,_=>by
  simp only[tR,aOf] at h;subst h;exact⟨[],rfl,rfl,rfl,λk o e h=>by simp at h,λ_=>rfl,λ_=>rfl⟩
 |o::l,x,y,h,E=>by
  obtain⟨e,O,M,R,K⟩:=ce h;obtain⟨es,Q,D⟩:=ch K E;have j: ∀{i:Nat},i∈qW e.upd->i∉qW (yB e)->qU e.upd i=qU x.s.H i/\i∈e.rds:=λO M=>a8V (λp hp=>E p ((BY K).1 p (wX.2 (.inr (wX.2 (.inl hp)))))) O M;have envs: ∀t k,uY (λ_=>true) (BB (o::l) (e::es) t) (lk x.s.env t) (k+1)=uY (λ_=>true) (BB l es t) (lk (tH o.dst e.slot x.s.env) t) k:=λt k=>by
   rw[rh,aOd rfl,Hv];have:(BB (o::l) (e::es) t 0).getD (lk x.s.env t)=if o.dst=some t then e.slot else lk x.s.env t:=by
    simp only[BB,aOL];split<;>rfl
   rw[this];rfl
  have z: ∀id k,uY (λ_=>true) (yE (e::es) id) (qU x.s.H id) (k+1)=uY (λ_=>true) (yE es id) (qU (rL e.upd x.s.H) id) k:=λid k=>by
   rw[rh,aOd rfl,RX];have:(yE (e::es) id 0).getD (qU x.s.H id)=if id∈qW e.upd then qU e.upd id else qU x.s.H id:=by
    simp only[yE,aOL];by_cases I:id∈qW (yB e)
    .rw[aOd I,aOd (RW.1 I).1];rfl
    rw[aOi I];by_cases h8:id∈qW e.upd
    .rw[aOd h8,(j h8 I).1];rfl
    rw[aOi h8];rfl
   rw[this];rfl
  refine⟨e::es,by rw[Q];simp,by simp [D.len],?_,?_,λt=>?_,λid=>?_⟩
  .have:=D.nb;simp only at this;rw[this];simp only[aOe];omega
  .intro k o' e' F G;cases k with
   |zero=>
    simp only[aOL,aOf] at F G;subst F;subst G;exact⟨x.s,O,rfl,M,R,rfl,λp hp=>(BY K).1 p (wX.2 (.inr (wX.2 (.inr hp)))),λ_=>rfl,λ_=>rfl,λid=>j⟩
   |succ k=>
    simp only[aOZ] at F G;obtain⟨sk,q⟩:=D.step k o' e' F G;refine⟨sk,q.ev,by rw[q.nb];simp only;omega,q.dst,?_,q.np,q.side,λt=>by rw[q.env t,envs],λid=>by rw[q.heap id,z],q.same⟩;have:=q.ids;simp only at this;rw[show x.s.nb+32*(k+1)+32=x.s.nb+32+32*k+32 by omega];exact this
  .rw[aOe,envs];exact D.env t
  rw[aOe,z];exact D.heap id
def Hw {i0 j0:Nat}{ops:Array Oper}{bs:pY}{nb i:Nat}{o:Oper}{e:rA}: ∀{ps:List Oper}{fs:List rA}{j:Nat},ab i0 j0 ops bs nb i o e ps fs j=true->∀k p f,ps[k]? =some p->fs[k]? =some f->
  (bs.getD (j+k) 0).testBit i=true\/(o.apart ops p=true/\(HA e f=true\/(i=i0/\j+k=j0))/\M9 (nb+32*i) f.upd=true)
 |p::ps,f::fs,j,h,k,p',f',hp,hf=>by
  simp only[ab,aOo,aPE,aOt] at h;cases k with
  |zero=>
   simp only[aOL,aOf] at hp hf;subst hp;subst hf;exact h.1.imp id (λh=>⟨h.1.1,h.1.2,h.2⟩)
  |succ k=>
   simp only[aOZ] at hp hf;have:=Hw h.2 k p' f' hp hf;rw[show j+(k+1)=j+1+k by omega];exact this
 |[],_,_,_,_,_,_,hp,_=>by simp at hp
 |_::_,[],_,_,_,_,_,_,hf=>by simp at hf
def rm {i0 j0:Nat}{ops:Array Oper}{bs:pY}{nb:Nat}: ∀{os:List Oper}{es:List rA}{m:Nat},ac i0 j0 ops bs nb os es m=true->∀i j o e p f,i<j->os[i]? =some o->es[i]? =some e->os[j]? =some p->es[j]? =some f->
  (bs.getD (m+j) 0).testBit (m+i)=true\/(o.apart ops p=true/\(HA e f=true\/(m+i=i0/\m+j=j0))/\M9 (nb+32*(m+i)) f.upd=true)
 |o'::os,e'::es,m,h,i,j,o,e,p,f,E,z,D,hp,hf=>by
  simp only[ac,aOo] at h;obtain⟨j,rfl⟩: ∃k,j=k+1:=⟨j-1,pN⟩;simp only[aOZ] at hp hf;cases i with
  |zero=>
   simp only[aOL,aOf] at z D;subst z;subst D;have:=Hw h.1 j p f hp hf;rw[show m+(j+1)=m+1+j by omega];exact this
  |succ i=>
   simp only[aOZ] at z D;have:=rm h.2 i j o e p f pN z D hp hf;rw[show m+(j+1)=m+1+j by omega,show m+(i+1)=m+1+i by omega];exact this
 |[],_,_,_,_,_,_,_,_,_,_,z,_,_,_=>by simp at z
 |_::_,[],_,_,_,_,_,_,_,_,_,_,D,_,_=>by simp at D
def Hx: ∀{os:List Oper}{m:Nat},ae os m=true->∀i o,os[i]? =some o->∀e∈o.after,Region.binds .any e=true->e.on<m+i
 |o'::os,m,h,i,o,j,e,z,hb=>by
  simp only[ae,aOo] at h;cases i with
  |zero=>
   simp only[aOL,aOf] at j;subst j;have:=aPh.1 h.1 e aQg;simpa[hb] using this
  |succ i=>
   simp only[aOZ] at j;have:=Hx h.2 i o j e z hb;omega
 |[],_,_,_,_,j,_,_,_=>by simp at j
def ci {l:pY}: ∀{u:List (Nat×qQ)},VO u l=false->∀i,i∈qW u->i∉l
 |(k,b)::u,h,i,hi=>by
  simp only[VO,aPW] at h;simp only[qW,aOv] at hi;rcases hi with rfl|hi
  .simpa using h.1
  exact ci h.2 i hi
def RY {a b:rA}(h:HA a b=true):(∀i∈qW (yB a),i∉b.rds/\i∉qW b.upd)/\(∀i∈qW (yB b),i∉a.rds):=by
 simp only[HA,aOo,aO1] at h;exact⟨λi hi=>⟨λj=>ci h.1 i hi (wX.2 (.inl j)),λj=>ci h.1 i hi (wX.2 (.inr j))⟩,λi hi=>ci h.2 i hi⟩
def Hy {lo:Nat}: ∀{u:List (Nat×qQ)},M9 lo u=true->∀i∈qW u,i<lo\/lo+32<=i
 |(k,b)::u,h,i,hi=>by
  simp only[M9,aOo,aPE,aOt] at h;simp only[qW,aOv] at hi;rcases hi with rfl|hi
  .exact h.1
  exact Hy h.2 i hi
def rn (os:List Oper) (p:Nat->Bool):Prop:= ∀j o,os[j]? =some o->p j=true->∀e∈o.after,Region.binds .any e=true->p e.on=true
def Hz {p:Nat->Bool}{acc:Array Nat}(D: ∀i j,(acc.getD i 0).testBit j=true->p i=true->p j=true) {i:Nat}: ∀{es:List Edge}{s:Nat},(s.testBit i=true->p i=true)->(∀e∈es,Region.binds .any e=true->p e.on=true)->
  (es.foldl (λs e=>if Region.binds .any e then s|||2^e.on|||acc.getD e.on 0 else s) s).testBit i=true->p i=true
 |[],s,E,_,h=>E h
 |e::es,s,E,F,h=>by
  simp only[List.foldl_cons] at h;refine Hz D (es:=es) (λz=>?_) (λe' G=>F e' (aOu _ G)) h;split at z
  .rename_i hb;simp only[Nat.testBit_or,aPE,Nat.testBit_two_pow,aOt] at z;rcases z with(z|z) |z
   .exact E z
   .rw[<-z];exact F e pP hb
   exact D _ _ z (F e pP hb)
  exact E z
def Ia {p:Nat->Bool}: ∀{os:List Oper}{acc:Array Nat},(∀i j,(acc.getD i 0).testBit j=true->p i=true->p j=true)->(∀j o,os[j]? =some o->p (acc.size+j)=true->∀e∈o.after,Region.binds .any e=true->p e.on=true)->
  ∀i j,((os.foldl (λacc o=>acc.push (o.after.foldl (λs e=>if Region.binds .any e then s|||2^e.on|||acc.getD e.on 0 else s) 0)) acc).getD i 0).testBit j=true->p i=true->p j=true
 |[],acc,z,_,i,j,h,hp=>z i j h hp
 |o::os,acc,z,D,i,j,h,hp=>by
  simp only[List.foldl_cons] at h;refine Ia (os:=os) (λi j h hp=>?_) (λk o' E hk=>?_) i j h hp
  .rw[aOG,Array.getElem?_push] at h;split at h
   .rename_i hi;simp only[aP9] at h;rw[<-aQb] at h;refine Hz z (es:=o.after.toList) (s:=0) (λh=>by simp at h) (λe F hb=>D 0 o rfl (by rw[hi] at hp;exact hp) e aQn hb) h
   rw[<-aOG] at h;exact z i j h hp
  refine D (k+1) o' E ?_;rw[Array.size_push] at hk;rw[show acc.size+(k+1)=acc.size+1+k by omega];exact hk
def Ib {ops:Array Oper}{p:Nat->Bool}(hp:rn ops.toList p) {i j:Nat}(h:((Region.before ops).toList.getD i 0).testBit j=true) (hi:p i=true):p j=true:=by
 refine Ia (os:=ops.toList) (acc:= #[]) (p:=p) (λi j h=>by simp at h) (λj o z D=>hp j o z aQw) i j ?_ hi;unfold Region.before at h;rw[<-aQb] at h;rw[aOG,<-aPJ,<-aOF];exact h
def E6 (l:Array Bool):Nat->Nat
 |0=>0
 |k+1=>E6 l k+if l.getD k false=true then 0 else 1
theorem Ic {l l':Array Bool}: ∀{n:Nat},(∀j,j<n->l'.getD j false=l.getD j false)->E6 l' n=E6 l n
 |0,_=>rfl
 |n+1,h=>by simp only[E6];rw[Ic (λj z=>h j pN),h n pN]
theorem Id {l:Array Bool}: ∀{n:Nat},E6 l n=0->∀j,j<n->l.getD j false=true
 |n+1,h,j,E=>by
  simp only[E6] at h;by_cases D:l.getD n false=true
  .by_cases z:j=n
   .subst z;exact D
   exact Id (n:=n) pN j pN
  rw[aOi D] at h;omega
theorem HI {l:Array Bool}{i j:Nat}(hi:i<l.size):(l.setIfInBounds i true).getD j false=if j=i then true else l.getD j false:=by
 by_cases h:j=i
 .subst h;rw[aOd rfl,aOG,Array.getElem?_setIfInBounds_self_of_lt hi];rfl
 rw[aOi h,aOG,aO9 (Ne.symm h),<-aOG]
theorem Ie {l:Array Bool}{i:Nat}(hi:i<l.size) (hf:l.getD i false=false): ∀{n:Nat},i<n->E6 (l.setIfInBounds i true) n+1=E6 l n
 |n+1,h=>by
  simp only[E6];by_cases z:n=i
  .subst z;rw[HI hi,aOd rfl,aOd rfl,hf,Ic (l:=l) (λj D=>by rw[HI hi,aOi pN])];simp
  rw[HI hi,aOi z];have:=Ie hi hf (n:=n) pN;omega
theorem If {p:Nat->Bool}: ∀{n:Nat},(∃j,j<n/\p j=false)->∃j,j<n/\p j=false/\∀k,k<j->p k=true
 |0,⟨j,h,_⟩=>by omega
 |n+1,⟨j,h,D⟩=>by
  by_cases z: ∃j,j<n/\p j=false
  .obtain⟨k,G,F,E⟩:=If z;exact⟨k,pN,F,E⟩
  refine⟨j,h,D,λk hk=>?_⟩;cases hp:p k with
  |true=>rfl
  |false=>exact absurd ⟨k,pN,hp⟩ z
theorem sM.ext {g:Gh}{w:pZ}{H H':sA}(h:sM g w H) (e: ∀i,qU H' i=qU H i):sM g w H':=
 ⟨λi b hb=>h.blk i b aQx,λi j bi bj b o z F E=>h.dis i j bi bj b o z (by rw[<-e];exact F) (by rw[<-e];exact E),h.sl,h.tab.1,λi b bb oo hb D=>h.tab.2 i b bb oo aQx D⟩
theorem tE.ext {A:Nat->Nat->Prop}{L:List qQ}{g0 g:Gh}{w0 w:pZ}{H H':sA}(h:tE A L g0 w0 g w H) (e: ∀i,qU H' i=qU H i):tE A L g0 w0 g w H':=
 ⟨h.shut,h.fr,λi blk b o hb=>h.perm i blk b o aQx,h.J,h.live,λi u y us hi hb=>h.ty i u y us hi aQx,h.cur⟩
theorem Ig (g:Gh) (w:pZ) (d:Nat):Le g w g {w with drawn:=d}:=⟨λ_ _ h=>h,λ_ _ _=>rfl,λ_ _ h=>h,λ_ _ _ h=>h⟩
theorem sM.drawn {g:Gh}{w:pZ}{H:sA}(h:sM g w H) (d:Nat):sM g {w with drawn:=d} H:=
 ⟨λi b hb=>RH (h.blk i b hb) (Ig g w d) rfl rfl (λ_ _ _=>⟨rfl,rfl⟩) (λ_ _=>rfl) (λ_ _ _ h=>h) (λ_ _ _ _ h=>h),h.dis,h.sl,V7 h.tab.1 (aOA _) (λ_ _=>rfl),h.tab.2⟩
theorem tE.drawn {A:Nat->Nat->Prop}{L:List qQ}{g0 g:Gh}{w0 w:pZ}{H:sA}(h:tE A L g0 w0 g w H) (d:Nat):tE A L g0 w0 g {w with drawn:=d} H:=
 ⟨h.shut,⟨h.fr.os,h.fr.tape,h.fr.output,h.fr.size,h.fr.blk,h.fr.cell,h.fr.new,h.fr.shape⟩,h.perm,h.J,h.live,h.ty,h.cur⟩
theorem rp {rds:pY}{id:Nat}(h:CS id rds=false): ∀{u:List (Nat×qQ)},qU (JI rds u) id=qU u id
 |[]=>rfl
 |(k,b)::u=>by
  simp only[JI,qU];by_cases hk:k=id
  .subst hk;rw[aOi (by rw[h];simp)];simp [qU]
  split
  .exact rp h
  simp only[qU,aOi hk];exact rp h
theorem a8W {e:rA}{id:Nat}(h:CS id e.rds=false):qU (yB e) id=qU e.upd id:=rp h
theorem Ih {T:sJ}{Γ:tV}{ops:List Oper}: ∀{k:Nat}{l:List Oper}{x y:uR},tR T Γ ops l (some x)=some y->∃a,tR T Γ ops (l.take k) (some x)=some a/\tR T Γ ops (l.drop k) (some a)=some y
 |0,l,x,y,h=>⟨x,rfl,h⟩
 |k+1,[],x,y,h=>⟨x,rfl,h⟩
 |k+1,o::l,x,y,h=>by
  simp only[List.take_succ_cons,aPP,tR] at h|-;cases j:aa o x (zU T Γ ops o x.s) with
  |none=>
   rw[j] at h;cases l with
   |nil=>cases h
   |cons p l=>cases h
  |some z=>rw[j] at h;exact Ih h
theorem rq {α:Type}{p:Nat->Bool}{wr wr':Nat->Option α}{b:α}: ∀{n:Nat},(∀j,j<n->wr j=wr' j)->uY p wr b n=uY p wr' b n
 |0,_=>rfl
 |n+1,h=>by
  simp only[uY];rw[h n pN,rq (wr:=wr) (wr':=wr') (λj z=>h j pN)]
theorem a8X {T:sJ}{Γ:tV}{ops:Array Oper}{es:List rA}{s:St}{y a1:uR}{i0:Nat}{o1:Oper}{ex fx:rA}(run:rk T Γ ops.toList ops.toList es s y) (M: ∀p∈y.side,p) (F:ops.toList[i0]? =some o1) (D:tR T Γ ops.toList (ops.toList.take i0) (some ⟨s,[],[]⟩)=some a1)
  (K:y.es.reverse=es) (h:tR T Γ ops.toList ops.toList (some ⟨s,[],[]⟩)=some y) (G:zU T Γ ops.toList o1 ⟨a1.s.env,rL (yB fx) a1.s.H,a1.s.nb,a1.s.N,a1.s.np⟩=some ex):
  ∀sk oi,ops.toList[i0]? =some oi->rj T Γ ops.toList ops.toList es s y i0 oi ex sk->zU T Γ ops.toList oi ⟨sk.env,rL (yB fx) sk.H,sk.nb,sk.N,sk.np⟩=some ex:=by
 intro sk oi E st;rw[F] at E;cases E;obtain⟨a2,U,R⟩:=Ih (k:=i0) h;rw[D] at U;cases U;have X:i0<ops.toList.length:=(aOw.1 F).1;have z:(ops.toList.take i0).length=i0:=by rw[aO2];omega
 obtain⟨es2,e2,r2⟩:=ch R M;obtain⟨es1,e1,r1⟩:=ch D (λp hp=>M p ((BY R).1 p hp));have Q:es=es1++es2:=by rw[<-K,e2,e1];simp
 have V:es1.length=i0:=by rw[r1.len,z]
 have I:=BY D;refine rc G (λt _=>?_) (λid _=>?_) ?_ ?_
 .show lk sk.env t=lk a1.s.env t;rw[st.env t,r1.env t,z];refine rq (λj O=>?_);unfold BB;rw[Q,aOy pN,List.getElem?_take_of_lt O]
 .show qU (rL (yB fx) sk.H) id=qU (rL (yB fx) a1.s.H) id;rw[RX,RX,st.heap id,r1.heap id,z];have:uY (λ_=>true) (yE es id) (qU s.H id) i0=uY (λ_=>true) (yE es1 id) (qU s.H id) i0:=rq (λj O=>by
   unfold yE;rw[Q,aOy pN])
  rw[this]
 .show sk.nb=a1.s.nb;rw[st.nb,r1.nb,z]
 show sk.np=a1.s.np;rw[st.np,I.2.2]
section
variable {B:Nat}{P:Program}{T:sJ}{Γ:tV}(hT:w6 P T) (hΓ:DZ P Γ) {A:Nat->Nat->Prop}{L:List qQ}{g0:Gh}{w0:pZ}{Q:Exit->Act->pZ->Prop}
structure Ii (B:Nat) (A:Nat->Nat->Prop) (L:List qQ) (g0:Gh) (w0:pZ) (ops:Array Oper) (es:List rA) (s:St) (listed:Array Bool) (g:Gh) (w:pZ) (a:Act) (env:List (Nat×qP)) (H:sA):Prop where
 size:listed.size=ops.size
 closed:rn ops.toList (λj=>listed.getD j false)
 eok:E1 g w env a.tmps
 look: ∀t,lk env t=uY (λj=>listed.getD j false) (BB ops.toList es t) (lk s.env t) ops.size
 heap:sM g w H
 get: ∀id,qU H id=uY (λj=>listed.getD j false) (yE es id) (qU s.H id) ops.size
 tmps:a.tmps.size=s.N
 def_:zZ B w a.defers
 good:tE A L g0 w0 g w H
 len:L.length=s.np
 free: ∀j,j<ops.size->listed.getD j false=false->∀id,s.nb+32*j<=id->id<s.nb+32*j+32->g.J id=none/\∀n,g.cur id n=none
 top: ∀id,s.nb+32*ops.size<=id->g.J id=none/\∀n,g.cur id n=none
include hT hΓ
theorem a8Y {i0 j0:Nat}{ro:pX}{ops:Array Oper}{es:List rA}{s:St}{y:uR}(run:rk T Γ ops.toList ops.toList es s y) (hs: ∀p∈y.side,p) (hF:af i0 j0 ops s.nb es=true) (hE:i0<ops.size->i0<j0/\∃ex fx,es[i0]? =some ex/\ex.upd=[]/\es[j0]? =some fx/\∀sk oi,ops.toList[i0]? =some oi->rj T Γ ops.toList ops.toList es s y i0 oi ex sk->zU T Γ ops.toList oi ⟨sk.env,rL (yB fx) sk.H,sk.nb,sk.N,sk.np⟩=some ex)
  (hQ: ∀g a w env H,E1 g w env a.tmps->(∀t,lk env t=lk y.s.env t)->sM g w H->(∀id,qU H id=qU y.s.H id)->a.tmps.size=s.N->zZ B w a.defers->tE A L g0 w0 g w H->(∀id,s.nb+32*ops.size<=id->g.J id=none/\∀n,g.cur id n=none)->Q .normal a w):
  ∀(fuel:Nat) (listed:Array Bool) (g:Gh) (w:pZ) (a:Act) (env:List (Nat×qP)) (H:sA),E6 listed ops.size<=fuel->Ii B A L g0 w0 ops es s listed g w a env H->wpAnyIn (zA ro) 0 P .any ops Q fuel listed a w:=by
 simp only[af,aOo] at hF;obtain⟨kc,hN⟩:=hF;have U:ops.toList.length=ops.size:=aPi;have done: ∀(listed:Array Bool) (g:Gh) (w:pZ) (a:Act) (env:List (Nat×qP)) (H:sA),Ii B A L g0 w0 ops es s listed g w a env H->(∀j,j<ops.size->listed.getD j false=true)->Q .normal a w:=by
  intro listed g w a env H m O;refine hQ g a w env H m.eok (λt=>?_) m.heap (λid=>?_) m.tmps m.def_ m.good m.top
  .rw[m.look t,run.env t,U];exact MO (λj F _=>O j F)
  rw[m.get id,run.heap id,U];exact MO (λj F _=>O j F)
 have stuck: ∀(listed:Array Bool),listed.size=ops.size->Region.ready .any ops listed=[]->∀j,j<ops.size->listed.getD j false=true:=by
  intro listed kk hr j F;cases hp:listed.getD j false with
  |true=>rfl
  |false=>
   obtain⟨k,z,M,I⟩:=If (p:=λj=>listed.getD j false) ⟨j,F,hp⟩;have:k∈Region.ready .any ops listed:=by
    rw[mem_ready];refine⟨?_,ops[k],by simp [z],λe he hb=>?_⟩
    .have M:listed.getD k false=false:=M;rw[aOG] at M|-;rw[aPY pN] at M|-;exact M
    have:=Hx kc k ops[k] (by simp [z]) e he hb;exact I e.on pN
   rw[hr] at this;cases this
 intro fuel
 induction fuel with
 |zero=>
  intro listed g w a env H hu m;have O:=Id (l:=listed) (n:=ops.size) pN;refine⟨?_,done listed g w a env H m O⟩;cases hr:Region.ready .any ops listed with
  |nil=>rfl
  |cons i r=>
   have:i∈Region.ready .any ops listed:=by rw[hr];simp
   obtain⟨h0,o,ho,_⟩:=mem_ready.1 this;have hi:i<ops.size:=(aOB.1 ho).1;have:=O i hi;rw[aOG] at this h0;rw[aPY (by rw[m.size];exact hi)] at this h0;simp at this h0;rw[this] at h0;cases h0
 |succ fuel ih=>
  intro listed g w a env H hu m;refine⟨λhr=>done listed g w a env H m (stuck listed m.size hr),λi hi=>?_⟩;obtain⟨h0,o,ho,O⟩:=mem_ready.1 hi;have V:i<ops.size:=(aOB.1 ho).1;have X:i<listed.size:=by rw[m.size];exact V
  have hn:listed.getD i false=false:=by
   rw[aOG] at h0|-;rw[aPY X] at h0|-;exact h0
  have Z:ops.toList[i]? =some o:=by simpa using ho
  obtain⟨e,he⟩: ∃e,es[i]? =some e:=⟨es[i]'(by rw[run.len,U];exact V),by simp⟩;obtain⟨sk,st⟩:=run.step i o e Z he;have hD:rn ops.toList (λj=>(listed.setIfInBounds i true).getD j false):=by
   intro j o' hG F ed hR hb;simp only[HI X] at F|-;by_cases hc:j=i
   .subst hc;rw[Z] at hG;obtain rfl:=aOj hG;have:=O ed hR hb;split
    .rfl
    exact this
   rw[aOi hc] at F;have:=m.closed j o' hG F ed hR hb;split
   .rfl
   exact this
  have hS: ∀j,((Region.before ops).toList.getD i 0).testBit j=true->j≠i->listed.getD j false=true:=by
   intro j F hW;have:=Ib hD F (by simp only[HI X];simp);simp only[HI X,aOi hW] at this;exact this
  have hU: ∀j,((Region.before ops).toList.getD j 0).testBit i=true->listed.getD j false=true->False:=by
   intro j F Y;have:=Ib m.closed F Y;rw[hn] at this;cases this
  have pairLt: ∀j p f,j<i->ops.toList[j]? =some p->es[j]? =some f->listed.getD j false=true\/(p.apart ops o=true/\(HA f e=true\/(j=i0/\i=j0))/\M9 (s.nb+32*j) e.upd=true):=by
   intro j p f hc hp hf;rcases rm hN j i p f o e hc hp hf Z he with z|z
   .rw[aOO,aOO] at z;exact .inl (hS j z pN)
   rw[aOO,aOO] at z;exact .inr z
  have pairGt: ∀j p f,i<j->ops.toList[j]? =some p->es[j]? =some f->listed.getD j false=true->o.apart ops p=true/\(HA e f=true\/(i=i0/\j=j0)):=by
   intro j p f hx hp hf Y;rcases rm hN i j o e p f hx Z he hp hf with z|z
   .rw[aOO,aOO] at z;exact(hU j z Y).elim
   rw[aOO,aOO] at z;exact⟨z.1,z.2.1⟩
  have same: ∀{α:Type}(wr:Nat->Option α) (b:α),(∀j p f,j<i->ops.toList[j]? =some p->es[j]? =some f->wr j≠none->p.apart ops o=true->(HA f e=true\/(j=i0/\i=j0))->False)->
    (∀j p f,i<j->ops.toList[j]? =some p->es[j]? =some f->wr j≠none->listed.getD j false=true->o.apart ops p=true->(HA e f=true\/(i=i0/\j=j0))->False)->(∀j,wr j≠none->∃f,es[j]? =some f)->
    uY (λj=>listed.getD j false) wr b ops.size=uY (λ_=>true) wr b i:=by
   intro α wr b hL kb R;rw[<-rf (n:=ops.size) pN];refine MO (λj F D=>?_);obtain⟨f,hf⟩:=R j D;have G:ops.toList[j]? =some ops[j]:=by simp [F]
   rcases Nat.lt_trichotomy j i with z|z|z
   .rw[aO4 z];rcases pairLt j _ f z G hf with M|M
    .exact M
    exact(hL j _ f z G hf D M.1 M.2.1).elim
   .subst z;simp [hn]
   have: ¬j<i:=by omega
   rw[decide_eq_false this];cases Y:listed.getD j false with
   |false=>rfl
   |true=>
    obtain⟨M,I⟩:=pairGt j _ f z G hf Y;exact(kb j _ f z G hf D Y M I).elim
  have exS: ∀t j,BB ops.toList es t j≠none->∃f,es[j]? =some f:=by
   intro t j h;unfold BB at h;cases hf:es[j]? with
   |none=>rw[hf] at h;exact absurd (by split<;>first|rfl|(rename_i z;cases z)) h
   |some f=>exact⟨f,rfl⟩
  have exH: ∀t j,yE es t j≠none->∃f,es[j]? =some f:=by
   intro t j h;unfold yE at h;cases hf:es[j]? with
   |none=>rw[hf] at h;exact absurd rfl h
   |some f=>exact⟨f,rfl⟩
  have dS: ∀t j p f,ops.toList[j]? =some p->es[j]? =some f->BB ops.toList es t j≠none->p.dst=some t:=by
   intro t j p f hp hf h;unfold BB at h;rw[hp,hf] at h;simp only at h;split at h
   .assumption
   exact absurd rfl h
  have dH: ∀id j f,es[j]? =some f->yE es id j≠none->id∈qW (yB f):=by
   intro id j f hf h;unfold yE at h;rw[hf] at h;simp only at h;split at h
   .assumption
   exact absurd rfl h
  have noW: ∀id j f,es[j]? =some f->yE es id j≠none->j=i0->False:=λid j f hf D F=>by
   subst F;obtain⟨_,ex,fx,R,hz,_⟩:=hE (by have:=(aOw.1 hf).1;rw[run.len,U] at this;exact this);have:=(RW.1 (dH id j _ R D)).1;rw[hz] at this;cases this
  have hC: ∀id∈e.rds,¬(i=i0/\listed.getD j0 false=true)->qU H id=qU sk.H id:=λid E hX=>by
   rw[m.get id,st.heap id];refine same _ _ (λj p f _ hp hf D _ ha=>?_) (λj p f _ hp hf D Y _ ha=>?_) (exH id)
   .rcases ha with ha|ha
    .exact((RY ha).1 id (dH id j f hf D)).1 E
    exact noW id j f hf D ha.1
   rcases ha with ha|ha
   .exact(RY ha).2 id (dH id j f hf D) E
   exact hX ⟨ha.1,ha.2▸Y⟩
  have hB: ∀t∈o.looksAt ops,lk env t=lk sk.env t:=λt ht=>by
   rw[m.look t,st.env t];refine same _ _ (λj p f _ hp hf D ha _=>?_) (λj p f _ hp hf D _ ha _=>?_) (exS t)
   .exact(Oper.apart_spec ha).1 t (dS t j p f hp hf D) ht
   exact(Oper.apart_spec ha).2.2 t (dS t j p f hp hf D) ht
  have kn: ∀(s':St) (N':Nat),zU T Γ ops.toList o ⟨s'.env,s'.H,s'.nb,N',s'.np⟩=zU T Γ ops.toList o s':=λ_ _=>rfl;have hI:zU T Γ ops.toList o ⟨env,H,s.nb+32*i,s.N,s.np⟩=some e:=by
   by_cases hX:i=i0/\listed.getD j0 false=true
   .obtain⟨z,h5⟩:=hX;subst z;obtain⟨ki,ex,fx,R,hz,hM,hV⟩:=hE V;rw[he] at R;cases R;refine rc (hV sk o Z st) (λt ht=>hB t ht) (λid E=>?_) st.nb.symm st.np.symm;show qU H id=qU (rL (yB fx) sk.H) id;have h6:j0<ops.size:=by
     have:=(aOw.1 hM).1;rw[run.len,U] at this;exact this
    rw[m.get id,cg (p:=λj=>listed.getD j false&& !decide (j=j0)) (i:=j0) pP (λj=>by
     by_cases h:j=j0
     .subst h;rw[aOd rfl];exact h5
     rw[aOi h];simp [h]) h6 (λj z M I=>?_)]
    .have hK:uY (λj=>listed.getD j false&& !decide (j=j0)) (yE es id) (qU s.H id) ops.size=qU sk.H id:=by
      rw[st.heap id,<-rf (n:=ops.size) pN];refine MO (λj F D=>?_);obtain⟨f,hf⟩:=exH id j D;have G:ops.toList[j]? =some ops[j]:=by simp [F]
      rcases Nat.lt_trichotomy j i with z|z|z
      .rw[aO4 z];rcases pairLt j _ f z G hf with M|M
       .rw[M,decide_eq_false pN];rfl
       rcases M.2.1 with M|M
       .exact(((RY M).1 id (dH id j f hf D)).1 E).elim
       omega
      .exact(noW id j f hf D z).elim
      have h9: ¬j<i:=by omega
      rw[decide_eq_false h9];cases Y:listed.getD j false with
      |false=>rfl
      |true=>
       obtain⟨_,I⟩:=pairGt j _ f z G hf Y;rcases I with I|I
       .exact((RY I).2 id (dH id j f hf D) E).elim
       rw[aO4 I.2];rfl
     rw[hK,RX];unfold yE;rw[hM];simp only;by_cases h7:id∈qW (yB fx)
     .rw[aOd h7,aOd h7,a8W (RW.1 h7).2];rfl
     rw[aOi h7,aOi h7];rfl
    left;have Y:listed.getD j false=true:=by
     cases h:listed.getD j false with
     |true=>rfl
     |false=>rw[h] at I;cases I
    cases D:yE es id j with
    |none=>rfl
    |some v=>
     obtain⟨f,hf⟩:=exH id j (by rw[D];simp);have G:ops.toList[j]? =some ops[j]:=by simp [M]
     obtain⟨_,h4⟩:=pairGt j _ f pN G hf Y;rcases h4 with h4|h4
     .exact((RY h4).2 id (dH id j f hf (by rw[D];simp)) E).elim
     omega
   exact rc st.ev (λt ht=>hB t ht) (λid E=>hC id E hX) st.nb.symm st.np.symm
  have kd: ∀id,id∈qW e.upd->¬(i=i0/\listed.getD j0 false=true):=λid E hX=>by
   obtain⟨z,_⟩:=hX;subst z;obtain⟨_,ex,fx,R,hz,_⟩:=hE V;rw[he] at R;cases R;rw[hz] at E;cases E
  have hA:z6 g (s.nb+32*i) e:=λid E hY=>m.free i V hn id hY (WE st.ids E);have key:=qn hT hΓ (ops:=ops.toList) (o:=o) (a:=a) (s:=⟨env,H,s.nb+32*i,s.N,s.np⟩) (K:=wpAnyIn (zA ro) 0 P .any ops Q fuel (listed.setIfInBounds i true)) (Q:=Q) m.eok m.heap hI (λp hp=>hs p (st.side p hp)) hA (λg' w' v k=>by
   refine ih (listed.setIfInBounds i true) g' w' (a.put o.dst v) (tH o.dst e.slot env) (rL e.upd H) ?_ ⟨by rw[Array.size_setIfInBounds];exact m.size,hD,qr m.eok k.le k.slot m.tmps st.dst,λt=>?_,k.heap,λid=>?_,(qt _ _ _).trans m.tmps,by rw[qu];exact m.def_.eff m.heap k,m.good.eff k (m.len▸(RV hI).2),m.len,λj F hq id z M=>?_,λid E=>?_⟩
   .have:=Ie X hn V;omega
   .rw[Hv,cg (p:=λj=>listed.getD j false) (i:=i) hn (λj=>by simp only[HI X]) V (λj hx F Y=>?_),<-m.look t]
    .unfold BB;rw[Z,he];simp only;split<;>rfl
    have G:ops.toList[j]? =some ops[j]:=by simp [F]
    obtain⟨f,hf⟩: ∃f,es[j]? =some f:=⟨es[j]'(by rw[run.len,U];exact F),by simp⟩;obtain⟨I,_⟩:=pairGt j _ f hx G hf Y;by_cases D:BB ops.toList es t j=none
    .exact .inl D
    right;have hd:=dS t j _ f G hf D;by_cases hh:BB ops.toList es t i=none
    .exact hh
    have hJ:=dS t i _ e Z he hh;exact absurd hd ((Oper.apart_spec I).2.1 t hJ)
   .rw[RX,cg (p:=λj=>listed.getD j false) (i:=i) hn (λj=>by simp only[HI X]) V (λj hx F Y=>?_),<-m.get id]
    .unfold yE;rw[he];simp only;by_cases h7:id∈qW (yB e)
     .rw[aOd h7,aOd (RW.1 h7).1];rfl
     rw[aOi h7];by_cases h8:id∈qW e.upd
     .obtain⟨q1,q2⟩:=st.same id h8 h7;rw[aOd h8,q1,<-hC id q2 (kd id h8)];rfl
     rw[aOi h8];rfl
    have G:ops.toList[j]? =some ops[j]:=by simp [F]
    obtain⟨f,hf⟩: ∃f,es[j]? =some f:=⟨es[j]'(by rw[run.len,U];exact F),by simp⟩;obtain⟨_,I⟩:=pairGt j _ f hx G hf Y;by_cases D:yE es id j=none
    .exact .inl D
    right;have hd:=dH id j f hf D;by_cases hh:yE es id i=none
    .exact hh
    have hJ:=dH id i e he hh;rcases I with I|I
    .exact absurd (RW.1 hd).1 ((RY I).1 id hJ).2
    exact(noW id i e he hh I.1).elim
   .rw[HI X] at hq;have hc:j≠i:=λh=>by rw[aOd h] at hq;cases hq
    rw[aOi hc] at hq;have hy:id∉qW e.upd:=by
     intro hm;have hL:=WE st.ids hm;rcases Nat.lt_or_gt_of_ne hc with I|I
     .obtain⟨f,hf⟩: ∃f,es[j]? =some f:=⟨es[j]'(by rw[run.len,U];exact F),by simp⟩;rcases pairLt j ops[j] f I (by simp [F]) hf with h4|h4
      .rw[hq] at h4;cases h4
      have:=Hy h4.2.2 id hm;omega
     omega
    have hg:=k.gho id hy;have hb:=m.free j F hq id z M;exact⟨hg.1.trans hb.1,λn=>by rw[hg.2];exact hb.2 n⟩
   have hy:id∉qW e.upd:=λhm=>by have:=WE st.ids hm;omega
   have hg:=k.gho id hy;have hb:=m.top id E;exact⟨hg.1.trans hb.1,λn=>by rw[hg.2];exact hb.2 n⟩)
  unfold wpOpIn;rw[ho];simp only[aPv] at key|-;split at key
  .rename_i D;rw[aOd D];exact cf (qv hI) key
  rename_i D;rw[aOi D];exact⟨λ_ _=>trivial,key⟩
theorem a8Z {i0 j0:Nat}{ro:pX}(hm:P.follows .mixedOrders=true) {id:Nat}{ops:Array Oper}{s:St}{y:uR}{a:Act}{w:pZ}{g:Gh}(h:tR T Γ ops.toList ops.toList (some ⟨s,[],[]⟩)=some y) (D:af i0 j0 ops s.nb y.es.reverse=true) (hE:i0<ops.size->i0<j0/\∃ex fx a1 o1,y.es.reverse[i0]? =some ex/\ex.upd=[]/\y.es.reverse[j0]? =some fx/\ops.toList[i0]? =some o1/\tR T Γ ops.toList (ops.toList.take i0) (some ⟨s,[],[]⟩)=some a1/\zU T Γ ops.toList o1 ⟨a1.s.env,rL (yB fx) a1.s.H,a1.s.nb,a1.s.N,a1.s.np⟩=some ex) (K: ∀p∈y.side,p) (hr:uC B g w s a) (hg:tE A L g0 w0 g w s.H) (X:L.length=s.np)
  (hQ: ∀g' a' w',uC B g' w' y.s a'->tE A L g0 w0 g' w' y.s.H->Q .normal a' w'):(Code.region id ops true).wpIn (zA ro) 0 P Q a w:=by
 obtain⟨es,M,run⟩:=ch h K;have G:y.es.reverse=es:=by rw[M];simp
 simp only at run;rw[G] at D hE;have E:=BY h;have z: ∀j,(Array.replicate ops.size false).getD j false=false:=by
  intro j;rw[aOG,Array.getElem?_replicate];split<;>rfl
 have none: ∀{α:Type}(wr:Nat->Option α) (b:α) n,uY (λj=>(Array.replicate ops.size false).getD j false) wr b n=b:=by
  intro α wr b n
  induction n with
  |zero=>rfl
  |succ n ih=>simp only[uY];rw[aOi (by rw[z];simp)];exact ih
 have O:ops.toList.length=ops.size:=aPi;refine wpIn_region_any hm (a8Y hT hΓ run K D (λhi=>let ⟨c0,ex,fx,a1,o1,c1,c2,c3,c4,c5,c6⟩:=hE hi;⟨c0,ex,fx,c1,c2,c3,a8X run K c4 c5 G h c6⟩) (λg' a' w' env H he Y Z F V hd R I=>?_) _ _ g _ a s.env s.H ?_ ⟨by simp,λj o ho U=>?_,λt=>DW (Ig g w _) (hr.env t),λt=>?_,hr.heap.drawn _,λid=>?_,hr.size,hr.def_.same (λ_ h=>h),hg.drawn _,X,λj _ _ id M _=>hr.nb id pN,λid M=>hr.nb id pN⟩)
 .refine hQ g' a' w' ⟨λt=>by rw[<-Y t];exact he t,Z.ext (λi=>(F i).symm),by rw[E.2.1];exact V,λi hi=>I i ?_,hd,?_⟩ (R.ext (λi=>(F i).symm))
  .rw[run.nb,O] at hi;exact hi
  rw[E.2.2,run.nb];exact aOU hr.np (Nat.le_add_right _ _)
 .have: ∀n (l:Array Bool),E6 l n<=n:=by
   intro n l
   induction n with
   |zero=>exact aOA _
   |succ n ih=>simp only[E6];split<;>omega
  exact this _ _
 .simp only[z] at U;cases U
 .rw[none]
 exact(none _ _ _).symm
end
theorem MP: ∀{l:List Prop},vB l->∀p∈l,p
 |[p],h,q,z=>by simp only[aOs] at z;subst z;exact h
 |p::q::r,h,x,j=>by
  rcases aOv.1 j with rfl|j
  .exact h.1
  exact MP h.2 x j
theorem Ij {p:Nat->Prop}(h: ∃n,p n): ∃n,p n/\∀m,p m->n<=m:=by
 obtain⟨n,D⟩:=h
 induction n using Nat.strongRecOn with
 |_ n ih=>
  by_cases z: ∃m,m<n/\p m
  .obtain⟨m,hm,hp⟩:=z;exact ih m hm hp
  exact⟨n,D,λm hm=>Nat.le_of_not_lt λj=>z ⟨m,j,hm⟩⟩
noncomputable def RZ (p:Nat->Prop):Nat:=open Classical in if h: ∃n,p n then(Ij h).choose else 0
theorem S0 {p:Nat->Prop}(h: ∃n,p n):p (RZ p)/\∀m,p m->RZ p<=m:=by
 unfold RZ;rw[aP4 h];exact(Ij h).choose_spec
def BC:Exit->Option Ex
 | .normal=>some .normal
 | .exit id=>some (.exit id)
 | .ret=>some .ret
 |_=>none
def rr (B:Nat) (A:Nat->Nat->Prop) (L:List qQ) (g0:Gh) (w0:pZ) (Q:Ex->St->Prop) (x:Exit) (a:Act) (w:pZ):Prop:=
 ∃e g s,BC x=some e/\Q e s/\uC B g w s a/\tE A L g0 w0 g w s.H/\s.np=L.length
section
variable {B:Nat}{P:Program}{T:sJ}{Γ:tV}(hT:w6 P T) (hΓ:DZ P Γ) (hm:P.follows .mixedOrders=true) {A:Nat->Nat->Prop}{L:List qQ}{g0:Gh}{w0:pZ}
include hT hΓ hm
theorem HJ {ro:pX}: ∀(c:Code) (s:St) (Q:Ex->St->Prop) (g:Gh) (a:Act) (w:pZ),wT T Γ c s Q->uC B g w s a->tE A L g0 w0 g w s.H->s.np=L.length->c.wpIn (zA ro) 0 P (rr B A L g0 w0 Q) a w
 | .skip,s,Q,g,a,w,h,hr,D,z=>by
  unfold wT at h;exact wpIn_skip ⟨.normal,g,s,rfl,h,hr,D,z⟩
 | .label l,s,Q,g,a,w,h,hr,D,z=>by
  unfold wT at h;exact wpIn_label ⟨.normal,g,s,rfl,h,hr,D,z⟩
 | .exit id,s,Q,g,a,w,h,hr,D,z=>by
  unfold wT at h;exact wpIn_exit ⟨.exit id,g,s,rfl,h,hr,D,z⟩
 | .ret,s,Q,g,a,w,h,hr,D,z=>by
  unfold wT at h;exact wpIn_ret ⟨.ret,g,s,rfl,h,hr,D,z⟩
 | .region id ops draw,s,Q,g,a,w,h,hr,D,z=>by
  unfold wT at h;cases draw with
  |false=>
   simp only[VP] at h;cases O:tR T Γ ops.toList ops.toList (some ⟨s,[],[]⟩) with
   |none=>rw[O] at h;cases h
   |some y=>
    rw[O] at h;refine a8K hT hΓ O (MP h.1) hr D z.symm (λg' a' w' Y Z=>⟨.normal,g',y.s,rfl,h.2,Y,Z,(BY O).2.2.trans z⟩)
  |true=>
   simp only[VP] at h;cases O:tR T Γ ops.toList ops.toList (some ⟨s,[],[]⟩) with
   |none=>rw[O] at h;cases h
   |some y=>
    rw[O] at h;simp only[De] at h;by_cases X:JJ ops s.nb y.es.reverse=true
    .rw[aOd X] at h;refine a8Z (i0:=ops.size) (j0:=0) hT hΓ hm O X (λh=>absurd h (aPO _)) (MP h.1) hr D z.symm (λg' a' w' Y Z=>⟨.normal,g',y.s,rfl,h.2,Y,Z,(BY O).2.2.trans z⟩)
    .rw[aOi X] at h;cases h
 | .seq x y,s,Q,g,a,w,h,hr,D,z=>by
  unfold wT at h;refine wpIn_seq (aPw (HJ x s _ g a w h hr D z) λe a' w' hp=>?_);obtain⟨e',g',s',E,F,M,K,G⟩:=hp;cases e<;>simp only[BC,aOf] at E
  case normal=>subst E;exact HJ y s' Q g' a' w' F M K G
  case exit id=>subst E;exact⟨.exit id,g',s',rfl,F,M,K,G⟩
  case ret=>subst E;exact⟨.ret,g',s',rfl,F,M,K,G⟩
  all_goals cases E
 | .cond c x y,s,Q,g,a,w,h,hr,D,z=>by
  unfold wT at h;have X:=z8 hr.env c;generalize tB s.env c=sc at h X;unfold Dl at h;split at h
  .exact wpIn_cond_split (vT X.1) (λV=>HJ x s Q g a w (h.1 V) hr D z) (λV=>HJ y s Q g a w (h.2 V) hr D z)
  .obtain⟨b,hb,hp,hq⟩:=X.1;exact wpIn_cond_split hb (λV=>HJ x s Q g a w (h.1 (hp V)) hr D z) (λV=>HJ y s Q g a w (h.2 (hq V)) hr D z)
  .cases h
 | .block id c,s,Q,g,a,w,h,hr,D,z=>by
  unfold wT at h;refine wpIn_block (aPw (HJ c s _ g a w h hr D z) λe a' w' hp=>?_);obtain⟨e',g',s',E,F,M,K,G⟩:=hp;cases e<;>simp only[BC,aOf] at E
  case normal=>subst E;exact⟨.normal,g',s',rfl,F,M,K,G⟩
  case exit j=>
   subst E;simp only[DT] at F;simp only[Exit.inBlock];split
   .rename_i hj;rw[aOd hj] at F;exact⟨.normal,g',s',rfl,F,M,K,G⟩
   rename_i hj;rw[aOi hj] at F;exact⟨.exit j,g',s',rfl,F,M,K,G⟩
  case ret=>subst E;exact⟨.ret,g',s',rfl,F,M,K,G⟩
  all_goals cases E
 | .loop c,s,Q,g,a,w,h,hr,D,z=>by
  unfold wT at h;obtain⟨k,I,μ,h0,U⟩:=h;obtain⟨g1,k1,k2,k3,_⟩:=MN hr D z k
  let R:Act->pZ->Nat->Prop:=λa w n=> ∃g s,I s/\μ s=n/\uC B g w s a/\tE A L g0 w0 g w s.H/\s.np=L.length
  refine wpIn_loop (λa w=> ∃n,R a w n) (λa w=>RZ (R a w)) ⟨_,g1,s.keep k,h0,rfl,k1,k2,k3⟩ (λa w hI=>?_);obtain⟨⟨g2,s2,i1,i2,i3,i4,i5⟩,_⟩:=S0 hI;refine aPw (HJ c s2 _ g2 a w (U s2 i1) i3 i4 i5) λe a' w' hp=>?_;obtain⟨e',g',s',E,F,M,K,G⟩:=hp;cases e<;>simp only[BC,aOf] at E
  case normal=>
   subst E;obtain⟨k',j1,j2⟩:=F;obtain⟨g3,l1,l2,l3,_⟩:=MN M K G k';have hR:R a' w' (μ (s'.keep k')):=⟨g3,s'.keep k',j1,rfl,l1,l2,l3⟩;refine⟨⟨_,hR⟩,Nat.lt_of_le_of_lt ((S0 ⟨_,hR⟩).2 _ hR) (by rw[<-i2];exact j2)⟩
  case exit id=>subst E;exact⟨.exit id,g',s',rfl,F,M,K,G⟩
  case ret=>subst E;exact⟨.ret,g',s',rfl,F,M,K,G⟩
  all_goals cases E
 | .rangeFunc _ _ _ _,_,_,_,_,_,h,_,_,_=>by unfold wT at h;cases h
 | .scope _,_,_,_,_,_,h,_,_,_=>by unfold wT at h;cases h
 | .goto _,_,_,_,_,_,h,_,_,_=>by unfold wT at h;cases h
 | .refuse _,_,_,_,_,_,h,_,_,_=>by unfold wT at h;cases h
end
section
variable {f:St->Prop}{Q:Ex->St->Prop}{s:St}{id j:Nat}{I:St->Prop}{μ:St->Nat}{m:Nat}
theorem tF (h:f s):HB f Q .normal s:=h
theorem FD (h:Q (.exit j) s):HB f Q (.exit j) s:=h
theorem cj (h:Q .ret s):HB f Q .ret s:=h
theorem w7 (h:Q .normal s):DT id Q .normal s:=h
theorem E7 (h:Q .normal s):DT id Q (.exit id) s:=by show (if id=id then Q .normal s else Q (.exit id) s);rw[aOd rfl];exact h
theorem a80 (z:j≠id) (h:Q (.exit j) s):DT id Q (.exit j) s:=by show (if j=id then Q .normal s else Q (.exit j) s);rw[aOi z];exact h
end
@[go_sem] def E8:Nat->List qP->List (Nat×qP)
 |_,[]=>[]
 |c,s::r=>(c,s)::E8 (c+1) r
@[go_sem] def vP:Nat->List qQ->pT
 |_,[]=>[]
 |c,_::L=>(c,c)::vP (c+1) L
@[go_sem] def S1 (m:pT):List qP->Prop
 |[]=>True
 |s::r=>AG m s=s/\S1 m r
@[go_sem] def S2 (m:pT):List qQ->Prop
 |[]=>True
 | .dead::_=>False
 |b::r=>JK m (some b)=b/\S2 m r
def E9:List qQ->Prop
 |[]=>True
 | .row _ _ l n::r=>n=List.length l/\E9 r
 |_::r=>E9 r
theorem Ik {g:Gh}{w:pZ}: ∀{L:List qQ},(∀(i:Nat) b,L[i]? =some b->∃j,AH g w j b)->E9 L
 |[],_=>trivial
 |b::L,h=>by
  have z:=Ik (L:=L) λi b' hb=>h (i+1) b' aQo;obtain⟨j,h0⟩:=h 0 b rfl;cases b with
  |row e t l n=>exact⟨h0.1.symm,z⟩
  |_=>exact z
def ru:pV->qA
 |[v]=>v
 |l=> .tuple l.toArray
@[go_sem] def Il (env:List (Nat×qP)):pY->List qP
 |[]=>[]
 |t::r=>lk env t::Il env r
attribute [go_sem] tD
@[go_sem] def Fin (ts:pY) (r:r9):Ex->St->Prop
 | .exit _,_=>False
 |_,s=> ∃k:uA,(s.keep k).H=tD 0 r.H/\Il (s.keep k).env ts=r.ret
theorem Im: ∀(l:List qP) (c t:Nat),lk (E8 c l) t=if c<=t then(l[t-c]?).getD (.any,none) else(.any,none)
 |[],c,t=>by simp [E8,lk]
 |s::l,c,t=>by
  simp only[E8,lk];by_cases h:c=t
  .subst h;simp
  rw[aOi h,Im l (c+1) t];by_cases j:c<=t
  .rw[aOd j,aOd pN];obtain⟨d,z⟩: ∃d,t-c=d+1:=⟨t-c-1,pN⟩;rw[z,aOZ,show t- (c+1)=d by omega]
  rw[aOi j,aOi pN]
theorem S3: ∀{L:List qQ}{c i j:Nat},(i,j)∈vP c L↔i=j/\c<=i/\i<c+L.length
 |[],c,i,j=>by simp only[vP,aPr,aOh,false_iff];omega
 |b::L,c,i,j=>by
  simp only[vP,aOv,aOJ,S3,aOe];omega
theorem ck: ∀{L:List qQ}{c:Nat},vN 0 (vP c L)=true
 |[],_=>rfl
 |b::L,c=>by
  simp only[vP,vN,aOo];refine⟨⟨by simp,?_⟩,ck⟩;have: ∀{m:pT},(∀i j,(i,j)∈m->i≠c/\j≠c)->RD c c m=false:=by
   intro m
   induction m with
   |nil=>intro _;rfl
   |cons q m ih=>
    intro h;obtain⟨i,j⟩:=q;have:=h i j pP;simp only[RD,ih (λi j hm=>h i j (aOu _ hm)),decide_eq_false this.1,decide_eq_false this.2];rfl
  rw[this]
  .rfl
  intro i j hm;obtain⟨rfl,z,_⟩:=S3.1 hm;omega
theorem In {m:pT}: ∀{l:List qP},S1 m l->∀s∈l,AG m s=s
 |x::l,h,s,j=>by
  rcases aOv.1 j with rfl|j
  .exact h.1
  exact In h.2 s j
theorem MQ {m:pT}: ∀{l:List qQ},S2 m l->∀b∈l,JK m (some b)=b/\b≠.dead
 |x::l,h,b,hb=>by
  cases x with
  |dead=>exact h.elim
  |cells t y ts=>
   rcases aOv.1 hb with rfl|hb
   .exact⟨h.1,λh=>by cases h⟩
   .exact MQ h.2 b hb
  |row e t l n=>
   rcases aOv.1 hb with rfl|hb
   .exact⟨h.1,λh=>by cases h⟩
   .exact MQ h.2 b hb
  |map k v l=>
   rcases aOv.1 hb with rfl|hb
   .exact⟨h.1,λh=>by cases h⟩
   .exact MQ h.2 b hb
  |iter s n=>
   rcases aOv.1 hb with rfl|hb
   .exact⟨h.1,λh=>by cases h⟩
   .exact MQ h.2 b hb
  |grow e c n=>
   rcases aOv.1 hb with rfl|hb
   .exact⟨h.1,λh=>by cases h⟩
   exact MQ h.2 b hb
theorem rz {g:Gh}{w:pZ}: ∀{ss:List qP}{vs:pV},wW g w ss vs->vs.length=ss.length/\∀(i:Nat) s,ss[i]? =some s->∃v,vs[i]? =some v/\rZ g w s v
 |[],vs,h=>by rw[show vs=[] from h];exact⟨rfl,λi s h=>by simp at h⟩
 |s::ss,vs,⟨v,vs',e,E,D⟩=>by
  subst e;obtain⟨z,j⟩:=rz D;refine⟨by simp [z],λi s' hi=>?_⟩;cases i with
  |zero=>simp only[aOL,aOf] at hi;subst hi;exact⟨v,rfl,E⟩
  |succ i=>simp only[aOZ] at hi|-;exact j i s' hi
theorem sa: ∀(L:List qQ),wR L=L.length
 |[]=>rfl
 |_::L=>by simp only[wR,aOe,sa L]
theorem a81 {g:Gh}{w:pZ}{args:List qP}{vals:pV}{L:List qQ}{N:Nat}(hH:sM g w (tD 0 L)) (ha:wW g w args vals) (Y:S1 (vP 0 L) args) (hb:S2 (vP 0 L) L) (hN:args.length<=N):
  uC w.heap.size (uN g 0 (vP 0 L)) w ⟨E8 0 args,tD 0 L,wR L,N,wR L⟩ {tmps:=vals.toArray++Array.replicate (N-vals.toArray.size) undef,defers:=[]}/\
  (∀i blk,L[i]? =some blk->(uN g 0 (vP 0 L)).J i=g.J i/\AH (uN g 0 (vP 0 L)) w i blk/\∀b o,sD (uN g 0 (vP 0 L)) i blk b o->sD g i blk b o):=by
 have hk:vN 0 (vP 0 L)=true:=ck;have E: ∀i blk,L[i]? =some blk->(i,i)∈vP 0 L:=λi blk h=>S3.2 ⟨rfl,pN,by have:=(aOw.1 h).1;omega⟩;have z: ∀i blk,L[i]? =some blk->AH (uN g 0 (vP 0 L)) w i blk/\∀b o,sD (uN g 0 (vP 0 L)) i blk b o->sD g i blk b o:=by
  intro i blk h;have hr:=(MQ hb blk (List.mem_of_getElem? h)).1;have:=JQ (g:=g) (w:=w) hk (E i blk h) (b:=some blk) (λc K=>by cases K;exact hH.blk i blk (by rw[zI];exact h));rw[hr] at this;exact⟨this.1,λb o F=>by obtain⟨c,K,U⟩:=this.2 b o F;cases K;exact U⟩
 obtain⟨Z,hv⟩:=rz ha;refine⟨⟨λt=>?_,⟨λi b h=>?_,λi j bi bj b o R M I o1 o2=>?_,hH.sl,hH.tab.1,λi blk b o X F=>hH.tab.2 i blk b o X ((z i blk (by rw[<-zI];exact X)).2 b o F)⟩,?_,λi hi=>?_,a8E _ _,aOA _⟩,λi blk h=>⟨(BA hk (E i blk h)).1,z i blk h⟩⟩
 .rw[Im,aOd (aPL _),Nat.sub_zero];cases V:args[t]? with
  |none=>exact⟨trivial,trivial⟩
  |some s=>
   obtain⟨v,G,O⟩:=hv t s V;have Q:t<vals.length:=(aOw.1 G).1;have:(vals.toArray++Array.replicate (N-vals.toArray.size) undef).getD t undef=v:=by
    rw[aOG,Array.getElem?_append_left (by simpa using Q)];simp [G]
   simp only[aP9];rw[this];have:=ca hk O;rw[In Y s (List.mem_of_getElem? V)] at this;exact this
 .rw[zI] at h;exact(z i b h).1
 .rw[zI] at M I;exact hH.dis i j bi bj b o R (by rw[zI];exact M) (by rw[zI];exact I) ((z i bi M).2 b o o1) ((z j bj I).2 b o o2)
 .simp only[aP7,Array.size_replicate,aPg];omega
 have D:A0 (vP 0 L) i=none:=by
  cases F:A0 (vP 0 L) i with
  |none=>rfl
  |some o=>
   obtain⟨rfl,_,I⟩:=S3.1 (qq F);have hi:wR L<=i:=hi;rw[sa] at hi;omega
 refine⟨?_,λn=>?_⟩
 .show (if i<0 then g.J i else(A0 (vP 0 L) i).bind g.J)=none;rw[aOi pN,D];rfl
 show (if i<0 then g.cur i n else(A0 (vP 0 L) i).bind λo=>g.cur o n)=none;rw[aOi pN,D];rfl
structure wI (B:Nat) (w w':pZ):Prop where
 os:w'.os=w.os
 tape:w'.tape=w.tape
 output:w'.output=w.output
 size:w.heap.size<=w'.heap.size
 blk: ∀b,b<w.heap.size->w'.heap[b]? =w.heap[b]? \/(B<=b/\NG<=b/\∃o o',w.heap[b]? =some o/\w'.heap[b]? =some o'/\JP o=true/\JP o'=true)
theorem Io {w:pZ}{b:Nat}{ob:Obj}(j:w.heap[b]? =some ob) (hm:JP ob=true) (o:Nat):w.frozen? ⟨b,o,none⟩=false:=by
 unfold World.frozen?;simp only[j];cases ob<;>first|rfl|cases hm
theorem a82 {w:pZ}{b:Nat}{ob:Obj}(j:w.heap[b]? =some ob) (hm:JP ob=true):w.shape? b=none:=by
 unfold World.shape?;simp only[j];cases ob<;>first|rfl|cases hm
section
variable {B:Nat}{w w' w'':pZ}
theorem wI.refl (B:Nat) (w:pZ):wI B w w:=⟨rfl,rfl,rfl,aOA _,λ_ _=> .inl rfl⟩
theorem wI.trans (h:wI B w w') (k:wI B w' w''):wI B w w'':=by
 refine⟨k.os.trans h.os,k.tape.trans h.tape,k.output.trans h.output,aOU h.size k.size,λb hb=>?_⟩;rcases k.blk b (aOS hb h.size) with k1|⟨k0,k1,o,o',k2,k3,k4,k5⟩
 .rcases h.blk b hb with j|⟨h0,j,o,o',D,F,z,E⟩
  .exact .inl (k1.trans j)
  exact .inr ⟨h0,j,o,o',D,k1.trans F,z,E⟩
 rcases h.blk b hb with j|⟨h0,j,p,p',D,F,z,E⟩
 .exact .inr ⟨k0,k1,o,o',j▸k2,k3,k4,k5⟩
 exact .inr ⟨h0,j,p,o',D,k3,z,k5⟩
theorem wI.cell (t:wI B w w') {b:Nat}(hb:b<w.heap.size) (o:Nat):w'.cell? ⟨b,o,none⟩=w.cell? ⟨b,o,none⟩/\w'.frozen? ⟨b,o,none⟩=w.frozen? ⟨b,o,none⟩:=by
 rcases t.blk b hb with h|⟨_,_,o1,o2,z,j,m1,m2⟩
 .exact⟨aOH h,by unfold World.frozen?;simp only[h]⟩
 exact⟨by rw[ql z m1,ql j m2],by rw[Io z m1,Io j m2]⟩
theorem wI.shape (t:wI B w w') {b:Nat}{s:TypeId×Nat}(h:w.shape? b=some s):w'.shape? b=some s:=by
 have hb:b<w.heap.size:=by
  unfold World.shape? at h;cases j:w.heap[b]? with
  |none=>rw[j] at h;cases h
  |some _=>exact(aOB.1 j).1
 rcases t.blk b hb with k|⟨_,_,o1,o2,z,D,m1,m2⟩
 .unfold World.shape? at h|-;rw[k];exact h
 rw[a82 z m1] at h;cases h
theorem wI.le (t:wI B w w') {g:Gh}(j: ∀b o,g.S b o->b<w.heap.size):Le g w g w':=⟨λ_ _ h=>h,λb o h=>(t.cell (j b o h) o).1,λ_ _ h=>h,λ_ _ _ h=>h⟩
theorem wI.heapOk (t:wI B w w') {g:Gh}{H:sA}(h:sM g w H):sM g w' H:=by
 have own: ∀{i blk b o},qU H i=some blk->sD g i blk b o->w'.heap[b]? =w.heap[b]? :=λz j=>by
  rcases t.blk _ (VW (h.blk _ _ z) j) with k|⟨_,_,o1,o2,D,_,m1,_⟩
  .exact k
  exact(bw (h.blk _ _ z) j D m1).elim
 refine⟨λi blk hb=>RH (h.blk i blk hb) (t.le h.sl) rfl rfl (λb o j=>t.cell (VW (h.blk i blk hb) j) o) (λb j=>own hb (j 0)) (λ_ _ _ x=>x) (λb o s _ x=>t.shape x),h.dis,λb o x=>aOS (h.sl b o x) t.size,V7 h.tab.1 t.size (λb hb=>?_),h.tab.2⟩;rcases t.blk b (aOS hb h.tab.1.1) with k|⟨_,k,_⟩
 .exact k
 omega
theorem uC.turn {g:Gh}{s:St}{a:Act}{ds:List Deferred}(h:uC B g w s a) (t:wI B w w') (j:zZ B w' ds):uC B g w' s {a with defers:=ds}:=
 ⟨λx=>DW (t.le h.heap.sl) (h.env x),t.heapOk h.heap,h.size,h.nb,j,h.np⟩
theorem tE.turn {A:Nat->Nat->Prop}{L:List qQ}{g0 g:Gh}{w0:pZ}{H:sA}(h:tE A L g0 w0 g w H) (z: ∀b o,g.S b o->b<w.heap.size) (t:wI w0.heap.size w w'):tE A L g0 w0 g w' H:=by
 refine⟨λb o x=>⟨(h.shut b o x).1,(t.cell (z b o (h.shut b o x).1) o).1.trans (h.shut b o x).2⟩,⟨t.os.trans h.fr.os,t.tape.trans h.fr.tape,t.output.trans h.fr.output,aOU h.fr.size t.size,λb hb j=>?_,λb o hb j=>?_,h.fr.new,λb s x=>?_⟩,h.perm,h.J,h.live,h.ty,h.cur⟩
 .rcases t.blk b (aOS hb h.fr.size) with k|⟨k,_⟩
  .exact k.trans (h.fr.blk b hb j)
  omega
 .have:=t.cell (aOS hb h.fr.size) o;have k:=h.fr.cell b o hb j;exact⟨this.1.trans k.1,this.2.trans k.2⟩
 rcases h.fr.shape b s x with k|k
 .exact .inl (t.shape k)
 exact .inr k
end
theorem Ip {P:Program}{fn:Func}{R:Ending->pZ->Prop}{A:Nat->Nat->Prop}{L:List qQ}{g0 g:Gh}{w0:pZ}{s:St}{tmps:Array qA}: ∀(ds:List Deferred) (w:pZ),uC w0.heap.size g w s {tmps:=tmps,defers:=ds}->tE A L g0 w0 g w s.H->
  (∀w',uC w0.heap.size g w' s {tmps:=tmps,defers:=[]}->tE A L g0 w0 g w' s.H->∃v,(results fn tmps).run P w'= .ok v w'/\R (.returned v) w')->LeavesInM Fence.wide 0 P fn tmps R ds .returning w
 |[],w,hr,F,h=>h w hr F
 |d::ds,w,hr,F,h=>by
  obtain⟨z,j⟩:=hr.def_;obtain⟨D,rfl,O,M,G⟩:=j d aOz;have I:=(aOB.1 G).1;have t:wI w0.heap.size w (w.putObj D (.deferred none)):=by
   refine⟨rfl,rfl,rfl,by simp [World.putObj],λb hb=>?_⟩;by_cases e:b=D
   .subst e;exact .inr ⟨O,M,_,_,G,World.putObj_heap_same I,rfl,rfl⟩
   exact .inl (World.putObj_heap_other e)
  have K:zZ w0.heap.size (w.putObj D (.deferred none)) ds:=by
   refine⟨(List.nodup_cons.1 z).2,λd' E=>?_⟩;obtain⟨D',rfl,k1,k2,k3⟩:=j d' (aOu _ E);refine⟨D',rfl,k1,k2,?_⟩;rw[World.putObj_heap_other (λe:D'=D=>(List.nodup_cons.1 z).1 (by subst e;exact E))];exact k3
  exact⟨by simp,.inl ⟨D,_,rfl,run_takeDeferred G,Ip ds _ (hr.turn t K) (F.turn hr.heap.sl t) h⟩⟩
def Ev (R:Bool) (P:Program) (c:Code) (s:St) (Q:Ex->St->Prop):Prop:=
 ∀(ro:pX),ro.isSome=R->
 ∀(A:Nat->Nat->Prop) (L:List qQ) (g0:Gh) (w0:pZ) (g:Gh) (a:Act) (w:pZ) (B:Nat),B<=w0.heap.size->uC B g w s a->tE A L g0 w0 g w s.H->s.np=L.length->c.wpIn (zA ro) 0 P (rr B A L g0 w0 Q) a w
variable {R:Bool}
theorem Iq {P:Program}{T:sJ}{Γ:tV}(hT:w6 P T) (hΓ:DZ P Γ) (hm:P.follows .mixedOrders=true) {c:Code}{s:St}{Q:Ex->St->Prop}(h:wT T Γ c s Q):Ev R P c s Q:=
 λro D A L g0 w0 g a w B E hr z j=>HJ hT hΓ hm c s Q g a w h hr z j
structure wY (P:Program) (T:sJ) (Γ:tV):Prop where
 T:w6 P T
 Γ:DZ P Γ
 m:P.follows .mixedOrders=true
@[go_sem] def Ir (l:pY) (Γ:tV) (f:Nat):Option r8:=if BP f l=true then some ⟨[],λ_ _=>none,[],[],none⟩ else Γ f
theorem EA {P:Program}{T:sJ}{Γ:tV}{l:pY}(h:wY P T Γ) (D:(l.all λk=>decide (1000000000<=k))=true):wY P T (Ir l Γ):=
 ⟨h.T,λf s z j=>by
  unfold Ir at j;split at j
  .rename_i hm;have:=aO3 (aPh.1 D f (HG.1 hm));omega
  exact h.Γ f s z j,h.m⟩
theorem MR {P:Program}{c:Code}{s:St}{Q Q':Ex->St->Prop}(h:Ev R P c s Q') (z: ∀e s,Q' e s->Q e s):Ev R P c s Q:=by
 intro ro j A L g0 w0 g a w B F hr E D;refine aPw (h ro j A L g0 w0 g a w B F hr E D) λx a' w' hp=>?_;obtain⟨e,g',s',O,M,K,I,G⟩:=hp;exact⟨e,g',s',O,z e s' M,K,I,G⟩
section
variable {P:Program}{s:St}{Q:Ex->St->Prop}
theorem vQ (h:Q .normal s):Ev R P .skip s Q:=λ_ _ _ _ _ _ g _ _ _ _ hr z j=>wpIn_skip ⟨.normal,g,s,rfl,h,hr,z,j⟩
theorem a83 {l:Nat}(h:Q .normal s):Ev R P (.label l) s Q:=λ_ _ _ _ _ _ g _ _ _ _ hr z j=>wpIn_label ⟨.normal,g,s,rfl,h,hr,z,j⟩
theorem EB {id:Nat}(h:Q (.exit id) s):Ev R P (.exit id) s Q:=λ_ _ _ _ _ _ g _ _ _ _ hr z j=>wpIn_exit ⟨.exit id,g,s,rfl,h,hr,z,j⟩
theorem EC (h:Q .ret s):Ev R P .ret s Q:=λ_ _ _ _ _ _ g _ _ _ _ hr z j=>wpIn_ret ⟨.ret,g,s,rfl,h,hr,z,j⟩
theorem tW {x y:Code}(h:Ev R P x s (HB (λs'=>Ev R P y s' Q) Q)):Ev R P (.seq x y) s Q:=by
 intro ro z A L g0 w0 g a w B I hr M K;refine wpIn_seq (aPw (h ro z A L g0 w0 g a w B I hr M K) λe a' w' hp=>?_);obtain⟨e',g',s',j,G,F,E,D⟩:=hp;cases e<;>simp only[BC,aOf] at j
 case normal=>subst j;exact G ro z A L g0 w0 g' a' w' B I F E D
 case exit id=>subst j;exact⟨.exit id,g',s',rfl,G,F,E,D⟩
 case ret=>subst j;exact⟨.ret,g',s',rfl,G,F,E,D⟩
 all_goals cases j
theorem Is {c:Operand}{x y:Code}{b:Bool}{k:pX}(h:tB s.env c=(.val .bool b,k)) (G:b=true->Ev R P x s Q) (hf:b=false->Ev R P y s Q):Ev R P (.cond c x y) s Q:=by
 intro ro j A L g0 w0 g a w B F hr D z;have E:=z8 hr.env c;rw[h] at E;exact wpIn_cond_split (vT E.1) (λe=>G e ro j A L g0 w0 g a w B F hr D z) (λe=>hf e ro j A L g0 w0 g a w B F hr D z)
theorem a84 {c:Operand}{x y:Code}{p q:Prop}{k:pX}(h:tB s.env c=(.flag p q,k)) (G:p->Ev R P x s Q) (hf:q->Ev R P y s Q):Ev R P (.cond c x y) s Q:=by
 intro ro j A L g0 w0 g a w B F hr D z;have E:=z8 hr.env c;rw[h] at E;obtain⟨b,hb,hp,I⟩:=E.1;exact wpIn_cond_split hb (λe=>G (hp e) ro j A L g0 w0 g a w B F hr D z) (λe=>hf (I e) ro j A L g0 w0 g a w B F hr D z)
theorem a85 {c:Code}(h:Ev false P c s Q):Ev false P (.scope c) s Q:=by
 intro ro z A L g0 w0 g a w B G hr E D;have F:ro=none:=by cases ro<;>first|rfl|cases z
 subst F;refine(wpIn_wide (n:=0)).2 (wp_scope_straight ((wpIn_wide (n:=0)).1 (aPw (h none rfl A L g0 w0 g a w B G hr E D) λe a' w' hp=>?_)));obtain⟨e',g',s',j,O,M,K,I⟩:=hp;cases e<;>simp only[BC,aOf] at j
 all_goals first|(cases j;done) |exact⟨e',g',s',by simp only[BC];rw[j],O,M,K,I⟩
theorem xE {id:Nat}{c:Code}(h:Ev R P c s (DT id Q)):Ev R P (.block id c) s Q:=by
 intro ro K A L g0 w0 g a w B U hr O M;refine wpIn_block (aPw (h ro K A L g0 w0 g a w B U hr O M) λe a' w' hp=>?_);obtain⟨e',g',s',D,z,G,F,E⟩:=hp;cases e<;>simp only[BC,aOf] at D
 case normal=>subst D;exact⟨.normal,g',s',rfl,z,G,F,E⟩
 case exit j=>
  subst D;simp only[DT] at z;simp only[Exit.inBlock];split
  .rename_i I;rw[aOd I] at z;exact⟨.normal,g',s',rfl,z,G,F,E⟩
  rename_i I;rw[aOi I] at z;exact⟨.exit j,g',s',rfl,z,G,F,E⟩
 case ret=>subst D;exact⟨.ret,g',s',rfl,z,G,F,E⟩
 all_goals cases D
end
@[go_sem] def sb (k:Nat) (t:Ty) (l:List t.den):qP->qP
 |(.own j m,x)=>if j=k then(.val (.list t) l,some k) else(.own j m,x)
 |s=>s
@[go_sem] def MT (k:Nat) (t:Ty) (l:List t.den):List (Nat×qP)->List (Nat×qP)
 |[]=>[]
 |(i,s)::r=>(i,sb k t l s)::MT k t l r
@[go_sem] def It (k n:Nat):qP->Prop
 |(.own j m,_)=>j=k->m=n
 |_=>True
@[go_sem] def WF (k n:Nat):List (Nat×qP)->Prop
 |[]=>True
 |(_,s)::r=>It k n s/\WF k n r
theorem Iu {k:Nat}{t:Ty}{l:List t.den}: ∀{env:List (Nat×qP)}{i:Nat},lk (MT k t l env) i=sb k t l (lk env i)
 |[],i=>rfl
 |(j,s)::r,i=>by
  simp only[MT,lk];split
  .rfl
  exact Iu
theorem Iv {k n:Nat}: ∀{env:List (Nat×qP)}{i:Nat},WF k n env->It k n (lk env i)
 |[],i,_=>trivial
 |(j,s)::r,i,⟨D,z⟩=>by
  simp only[lk];split
  .exact D
  exact Iv z
theorem Iw {P:Program}{c:Code}{s:St}{Q:Ex->St->Prop}(k:Nat) {e:TypeId}{t:Ty}{l:List t.den}{n:Nat}(hk:qU s.H k=some (.row e t l n)) (hs:WF k n s.env)
  (h:Ev R P c ⟨MT k t l s.env,(k,.grow e t.cells (List.length l))::s.H,s.nb,s.N,s.np⟩ Q):Ev R P c s Q:=by
 intro ro hq A L g0 w0 g a w B hB hr F hn;obtain⟨M,v,xs,hv,G,hF,X,V⟩:=hr.heap.blk k _ hk
 let g':Gh:={g with S:=λb o=>g.S b o\/(v.ownBlock=some b/\o<n*t.cells)}
 have le:Le g w g' w:=⟨λ_ _ h=> .inl h,λ_ _ _=>rfl,λ_ _ h=>h,λ_ _ _ h=>h⟩;have K: ∀b,v.ownBlock=some b->∀o,sD g k (.row e t l n) b o:=λb hb o=>⟨v,hv,hb⟩;have Y: ∀u,g.cur k n=some u->((u= .slice none 0 0/\n=0)\/∃b cap,u= .slice (some ⟨b,0,none⟩) n cap/\n<=cap)->sS g' w (.list t) l u:=by
  intro u hu O;rw[hv] at hu;obtain rfl:=aOj hu;rcases O with⟨rfl,h0⟩ |⟨b,cap,rfl,he⟩
  .have:l=[]:=aOM (by rw[M,h0]);subst this;exact .inr ⟨rfl,none,0,rfl,aOA _,.inl rfl⟩
  refine .inr ⟨rfl,some ⟨b,0,none⟩,cap,by rw[M],by rw[M];exact he,.inr ⟨b,0,rfl,RL (CU (λ_ _ h=>xM le h) hF) (λj u hu=>?_) (λj hj=>?_)⟩⟩
  .have:=G.cells (g:=b) rfl j u hu;rwa [aPp] at this
  right;exact⟨rfl,by rw[M] at hj;omega⟩
 have I: ∀i b,qU ((k,qQ.grow e t.cells (List.length l))::s.H) i=some b->(i=k/\b= .grow e t.cells (List.length l))\/(i≠k/\qU s.H i=some b):=by
  intro i b hb;simp only[qU] at hb;split at hb
  .rename_i e1;exact .inl ⟨e1.symm,(aOj hb).symm⟩
  rename_i e1;exact .inr ⟨Ne.symm e1,hb⟩
 have D: ∀i b bb o,qU ((k,qQ.grow e t.cells (List.length l))::s.H) i=some b->sD g' i b bb o->∃b0,qU s.H i=some b0/\sD g i b0 bb o:=by
  intro i b bb o hb U;rcases I i b hb with⟨rfl,rfl⟩ |⟨_,E⟩
  .obtain⟨u,hu,hh⟩:=U;have hc:g.cur i (List.length l)=some u:=hu;rw[M] at hc;exact⟨_,hk,u,hc,hh⟩
  exact⟨b,E,(zY (g':=g') (g:=g) rfl rfl).1 U⟩
 have hd:uC B g' w ⟨MT k t l s.env,(k,.grow e t.cells (List.length l))::s.H,s.nb,s.N,s.np⟩ a:=by
  refine⟨λi=>?_,⟨λi b hb=>?_,λi j bi bj b o hw E h2 o1 o2=>?_,λb o z=>?_,hr.heap.tab.1,λi b bb oo hb U=>by
   obtain⟨c1,k1,k2⟩:=D i b bb oo hb U;exact hr.heap.tab.2 i c1 bb oo k1 k2⟩,hr.size,hr.nb,hr.def_,hr.np⟩
  .rw[Iu];have E:=hr.env i;have h2:=Iv (i:=i) hs;generalize lk s.env i=sl at E h2;obtain⟨d,x⟩:=sl;cases d with
   |own j m=>
    simp only[sb];split
    .rename_i hj;subst hj;have hm:m=n:=h2 rfl;subst hm;refine⟨Y _ E.1.1 E.1.2,?_⟩;show g'.cur j (List.length l)=_;rw[M];exact E.1.1
    .exact DW le E
   |_=>exact DW le E
  .rcases I i b hb with⟨rfl,rfl⟩ |⟨ht,E⟩
   .refine⟨v,xs,by rw[M];exact hv,by rw[M];exact G,λm hm=>X m (by rw[M] at hm;exact hm),λb hb o z=>?_⟩;rw[M];rcases z with z|z
    .exact absurd z (V b hb o)
    exact z.2
   exact RH (hr.heap.blk i b E) le rfl rfl (λ_ _ _=>⟨rfl,rfl⟩) (λ_ _=>rfl) (λbb o U z=>by
    rcases z with z|z
    .exact z
    exact absurd (K bb z.1 o) (λh5=>hr.heap.dis i k b _ bb o ht E hk U h5)) (λ_ _ _ _ h=>h)
  .obtain⟨c1,k1,k2⟩:=D i bi b o E o1;obtain⟨c2,k3,k4⟩:=D j bj b o h2 o2;exact hr.heap.dis i j c1 c2 b o hw k1 k3 k2 k4
  rcases z with z|z
  .exact hr.heap.sl b o z
  exact VV G z.1
 have Z:tE A L g0 w0 g' w ((k,.grow e t.cells (List.length l))::s.H):=by
  refine⟨λb o h0=>⟨.inl (F.shut b o h0).1,(F.shut b o h0).2⟩,⟨F.fr.os,F.fr.tape,F.fr.output,F.fr.size,F.fr.blk,F.fr.cell,λb o z=>?_,F.fr.shape⟩,λi b bb o hb U=>?_,F.J,F.live,λi u y us hi hb=>?_,F.cur⟩
  .rcases z with z|z
   .exact F.fr.new b o z
   exact .inr (F.perm k _ b o hk (K b z.1 o))
  .obtain⟨c1,k1,k2⟩:=D i b bb o hb U;exact F.perm i c1 bb o k1 k2
  rcases I i _ hb with⟨_,E⟩ |⟨_,E⟩
  .cases E
  exact F.ty i u y us hi E
 exact h ro hq A L g0 w0 g' a w B hB hd Z hn
def iter {σ ρ:Type}(f:σ->Option (σ⊕ρ)):Nat->σ->Option ρ
 |0,_=>none
 |n+1,x=>match f x with
  |none=>none
  |some (.inl y)=>iter f n y
  |some (.inr r)=>some r
theorem Iy {σ ρ:Type}{f:σ->Option (σ⊕ρ)}{r:ρ}: ∀{n:Nat}{x:σ},iter f n x=some r->iter f (n+1) x=some r
 |0,_,h=>by cases h
 |n+1,x,h=>by
  unfold iter at h|-;split
  .rename_i e;rw[e] at h;cases h
  .rename_i y e;rw[e] at h;exact Iy h
  rename_i r' e;rw[e] at h;exact h
theorem se {σ ρ:Type}{f:σ->Option (σ⊕ρ)}{r:ρ}{n:Nat}{x:σ}(h:iter f n x=some r): ∀m,iter f (n+m) x=some r
 |0=>h
 |m+1=>Iy (se h m)
theorem Iz {σ ρ:Type}{f:σ->Option (σ⊕ρ)}{r r':ρ}{n m:Nat}{x:σ}(h:iter f n x=some r) (D:iter f m x=some r'):r=r':=by
 have z:=se h m;have j:=se D n;rw[Nat.add_comm] at j;exact aOj (z.symm.trans j)
noncomputable def WG {σ ρ:Type}(f:σ->Option (σ⊕ρ)) (x:σ):Option ρ:=open Classical in if h: ∃n r,iter f n x=some r then some (Classical.choose (aPI h)) else none
def a86 {ρ:Type}:Option ρ->Option ρ->Option ρ
 |some r,_=>some r
 |none,r=>r
noncomputable def rC {σ ρ:Type}(f:σ->Option (σ⊕ρ)) (x:σ):Option ρ:=a86 (iter f 2000 x) (WG f x)
theorem a87 {σ ρ:Type}{f:σ->Option (σ⊕ρ)}{x:σ}{r:ρ}{n:Nat}(h:iter f n x=some r):WG f x=some r:=by
 have j: ∃n r,iter f n x=some r:=⟨n,r,h⟩;unfold WG;rw[aP4 j,Iz h (aPI (aPI j))]
theorem sf {σ ρ:Type}{f:σ->Option (σ⊕ρ)}{x:σ}{r:ρ}{n:Nat}(h:iter f n x=some r):rC f x=some r:=by
 unfold rC;cases hi:iter f 2000 x with
 |some r'=>rw[Iz h hi];rfl
 |none=>exact a87 h
theorem cm {σ ρ:Type}{f:σ->Option (σ⊕ρ)}{x:σ}{r:ρ}(h:rC f x=some r): ∃n,iter f n x=some r:=by
 unfold rC at h;cases hi:iter f 2000 x with
 |some r'=>
  rw[hi] at h;cases h;exact⟨_,hi⟩
 |none=>
  rw[hi] at h;have h:WG f x=some r:=h;unfold WG at h;split at h
  .rename_i j;have:=aPI (aPI j);rw[aOj h] at this;exact⟨_,this⟩
  cases h
attribute [irreducible] rC
theorem AJ {σ ρ:Type}{f:σ->Option (σ⊕ρ)}{x y:σ}(h:f x=some (.inl y)):rC f x=rC f y:=by
 cases z:rC f y with
 |some r=>
  obtain⟨n,j⟩:=cm z;exact sf (n:=n+1) (by unfold iter;rw[h];exact j)
 |none=>
  cases D:rC f x with
  |none=>rfl
  |some r=>
   obtain⟨n,j⟩:=cm D;cases n with
   |zero=>cases j
   |succ n=>
    unfold iter at j;rw[h] at j;rw[sf j] at z;cases z
theorem xY {σ ρ:Type}{f:σ->Option (σ⊕ρ)}{x:σ}{r:ρ}(h:f x=some (.inr r)):rC f x=some r:=sf (n:=1) (by unfold iter;rw[h])
def Nxt {σ ρ:Type}(f:σ->Option (σ⊕ρ)) (y:ρ) (n:Nat):σ⊕ρ->Prop
 | .inl x=>iter f n x=some y
 | .inr r=>r=y
def qL {σ ρ:Type}(enc:σ->St) (f:σ->Option (σ⊕ρ)) (y:ρ) (n:Nat) (Q:Ex->St->Prop):Ex->St->Prop
 | .normal,s=> ∃(k:uA) (x:σ),s.keep k=enc x/\iter f n x=some y
 | .exit j,s=>Q (.exit j) s
 | .ret,s=>Q .ret s
theorem a89 {P:Program}{c:Code}{s:St}{Q:Ex->St->Prop}(I:Nat->St->Prop) (h0: ∃(k:uA) (n:Nat),I n (s.keep k))
  (h: ∀n s,I n s->Ev R P c s (λe s'=>match e with| .normal=> ∃(k:uA) (m:Nat),m<n/\I m (s'.keep k) |e=>Q e s')):Ev R P (.loop c) s Q:=by
 intro ro K A L g0 w0 g a w B V hr O M;obtain⟨k,n0,h0⟩:=h0;obtain⟨g1,k1,k2,k3,_⟩:=MN hr O M k
 let R:Act->pZ->Nat->Prop:=λa w n=> ∃g s,I n s/\uC B g w s a/\tE A L g0 w0 g w s.H/\s.np=L.length
 refine wpIn_loop (λa w=> ∃n,R a w n) (λa w=>RZ (R a w)) ⟨_,g1,s.keep k,h0,k1,k2,k3⟩ (λa w U=>?_);obtain⟨⟨g2,s2,i1,i3,i4,i5⟩,_⟩:=S0 U;refine aPw (h _ s2 i1 ro K A L g0 w0 g2 a w B V i3 i4 i5) λe a' w' hp=>?_;obtain⟨e',g',s',j,G,F,E,D⟩:=hp;cases e<;>simp only[BC,aOf] at j
 case normal=>
  subst j;obtain⟨k',m,j1,j2⟩:=G;obtain⟨g3,l1,l2,l3,_⟩:=MN F E D k';have z:R a' w' m:=⟨g3,s'.keep k',j2,l1,l2,l3⟩;exact⟨⟨_,z⟩,Nat.lt_of_le_of_lt ((S0 ⟨_,z⟩).2 _ z) j1⟩
 case exit id=>subst j;exact⟨.exit id,g',s',rfl,G,F,E,D⟩
 case ret=>subst j;exact⟨.ret,g',s',rfl,G,F,E,D⟩
 all_goals cases j
theorem ED {P:Program}{c:Code}{s:St}{Q:Ex->St->Prop}{σ ρ:Type}{f:σ->Option (σ⊕ρ)}{x0:σ}{y:ρ}(E:rC f x0=some y) (enc:σ->St) (k:uA) (h0:s.keep k=enc x0)
  (round: ∀x w n,f x=some w->Nxt f y n w->Ev R P c (enc x) (qL enc f y n Q)):Ev R P (.loop c) s Q:=by
 obtain⟨n,F⟩:=cm E;refine a89 (λn s=> ∃x,s=enc x/\iter f n x=some y) ⟨k,n,x0,h0,F⟩ λn s ⟨x,e,z⟩=>?_;subst e;cases n with
 |zero=>cases z
 |succ n=>
  unfold iter at z;refine MR (Q':=qL enc f y n Q) ?_ (λe s' D=>?_)
  .split at z
   .cases z
   .rename_i x' e;exact round x _ n e z
   rename_i r e;exact round x _ n e (aOj z)
  cases e with
  |normal=>obtain⟨k,x',I,G⟩:=D;exact⟨k,n,pN,x',I,G⟩
  |exit j=>exact D
  |ret=>exact D
def qX (j:Nat) (X:St->Prop) (Q:Ex->St->Prop):Ex->St->Prop
 | .normal,s=>Q .normal s
 | .exit i,s=>if i=j then∃k:uA,X (s.keep k) else Q (.exit i) s
 | .ret,s=>Q .ret s
theorem CW {P:Program}{c:Code}{s:St}{Q:Ex->St->Prop}(j:Nat) (X:St->Prop) (h:Ev R P c s (qX j X Q)) (J: ∀s',X s'->Q (.exit j) s'):Ev R P c s Q:=by
 intro ro K A L g0 w0 g a w B U hr O M;refine aPw (h ro K A L g0 w0 g a w B U hr O M) λx a' w' hp=>?_;obtain⟨e,g',s',I,z,G,F,E⟩:=hp;cases e with
 |normal=>exact⟨.normal,g',s',I,z,G,F,E⟩
 |ret=>exact⟨.ret,g',s',I,z,G,F,E⟩
 |exit i=>
  have z:(if i=j then∃k:uA,X (s'.keep k) else Q (.exit i) s'):=z;by_cases D:i=j
  .rw[aOd D] at z;obtain⟨k,hk⟩:=z;obtain⟨g1,k1,k2,k3,_⟩:=MN G F E k;exact⟨.exit i,g1,s'.keep k,I,by rw[D];exact J _ hk,k1,k2,k3⟩
  rw[aOi D] at z;exact⟨.exit i,g',s',I,z,G,F,E⟩
section
variable {Q:Ex->St->Prop}{s:St}{j i:Nat}{X:St->Prop}{σ ρ:Type}{enc:σ->St}{f:σ->Option (σ⊕ρ)}{y:ρ}{n:Nat}
theorem CX (h: ∃k:uA,X (s.keep k)):qX j X Q (.exit j) s:=by show (if j=j then _ else _);rw[aOd rfl];exact h
theorem Ja (z:i≠j) (h:Q (.exit i) s):qX j X Q (.exit i) s:=by show (if i=j then _ else _);rw[aOi z];exact h
theorem xP (h: ∃(k:uA) (x:σ),s.keep k=enc x/\iter f n x=some y):qL enc f y n Q .normal s:=h
theorem FE (h:Q (.exit j) s):qL enc f y n Q (.exit j) s:=h
end
def qN (X:St->Prop) (Q:Ex->St->Prop):Ex->St->Prop
 | .normal,s=> ∃k:uA,X (s.keep k)
 | .exit j,s=>Q (.exit j) s
 | .ret,s=>Q .ret s
theorem S4 {P:Program}{c:Code}{s:St}{Q:Ex->St->Prop}(X:St->Prop) (h:Ev R P c s (qN X Q)) (J: ∀s',X s'->Q .normal s'):Ev R P c s Q:=by
 intro ro I A L g0 w0 g a w B O hr M K;refine aPw (h ro I A L g0 w0 g a w B O hr M K) λx a' w' hp=>?_;obtain⟨e,g',s',G,F,E,D,z⟩:=hp;cases e with
 |exit j=>exact⟨.exit j,g',s',G,F,E,D,z⟩
 |ret=>exact⟨.ret,g',s',G,F,E,D,z⟩
 |normal=>
  obtain⟨k,hk⟩:=F;obtain⟨g1,k1,k2,k3,_⟩:=MN E D z k;exact⟨.normal,g1,s'.keep k,G,J _ hk,k1,k2,k3⟩
section
variable {Q:Ex->St->Prop}{s:St}{j:Nat}{X:St->Prop}
theorem JR (h: ∃k:uA,X (s.keep k)):qN X Q .normal s:=h
theorem a9a (h:Q .ret s):qN X Q .ret s:=h
end
def val {ρ:Type}[Inhabited ρ] (x:Option ρ):ρ:=x.getD default
theorem uE {ρ:Type}[Inhabited ρ] (x:ρ):val (some x)=x:=rfl
theorem S5 {ρ:Type}[Inhabited ρ] {x:Option ρ}{y:ρ}(h:x=some y):val x=y:=by rw[h];rfl
theorem AK {ρ:Type}{x:Option ρ}{y:ρ}(h:x=some y):x.isSome=true:=by rw[h];rfl
theorem sR {ρ:Type}{c:Prop}[Decidable c] {x:Option ρ}{r:ρ}(h:(if c then x else none)=some r):c/\x=some r:=by
 by_cases j:c
 .rw[aOd j] at h;exact⟨j,h⟩
 rw[aOi j] at h;cases h
theorem pI{ρ:Type}{c e:Prop}[Decidable c][Decidable e]{x:Option ρ}{r:ρ}(h:(if c then if e then x else none else none)=some r):c/\e/\x=some r:=have k:=sR h;⟨k.1,sR k.2⟩
theorem qK {σ ρ:Type}{x:Option σ}{k:σ->Option ρ}{r:ρ}(h:x.bind k=some r): ∃y,x=some y/\k y=some r:=by
 cases x with
 |none=>cases h
 |some y=>exact⟨y,rfl,h⟩
theorem Jb {ρ:Type}{b:Bool}{x y:ρ}{r:ρ}(h:(if b=true then x else y)=r) (hb:b=true):x=r:=by rw[aOd hb] at h;exact h
theorem Jc {ρ:Type}{b:Bool}{x y:ρ}{r:ρ}(h:(if b=true then x else y)=r) (hb:b=false):y=r:=by rw[hb,aOi pO] at h;exact h
def sK {σ ρ:Type}(x:Option (σ⊕ρ)) (k:σ->Option ρ):Option ρ:=x.bind λy=>match y with
 | .inl v=>k v
 | .inr r=>some r
theorem a9b {σ ρ:Type}{x:Option (σ⊕ρ)}{k:σ->Option ρ}{r:ρ}(h:sK x k=some r): ∃y,x=some y/\(match y with| .inl v=>k v| .inr r=>some r)=some r:=qK h
def rD {σ ρ:Type}(x:Option σ) (k:σ->Option ρ):Option ρ:=x.bind k
def WH {σ ρ:Type}(x:σ) (k:σ->ρ):ρ:=k x
theorem Jd {p q:Bool}(h:(p&&q)=true):p=true:=by cases p<;>first|rfl|cases h
theorem S6 {x:Bool}(h:x=true):(x==true)=true:=by rw[h];rfl
theorem cn {G x:Bool}(j:G=true) (h:x=true):(G&&(x==true))=true:=by rw[j,h];rfl
theorem Je {G x:Bool}(j:G=true) (h:x=false):(G&&(x==false))=true:=by rw[j,h];rfl
theorem BZ {x:Bool}(h:x=false):(x==false)=true:=by rw[h];rfl
section
variable {P:Program}{T:sJ}{Γ:tV}(E:wY P T Γ) {s:St}{Q:Ex->St->Prop}
include E
theorem co {id:Nat}{ops:Array Oper}{a:uR}(h:tR T Γ ops.toList ops.toList (some ⟨s,[],[]⟩)=some a) (hp:vB a.side) (j:Q .normal a.s):Ev R P (.region id ops false) s Q:=
 Iq E.T E.Γ E.m (a6N h hp j)
theorem sh {id:Nat}{ops:Array Oper}{a:uR}(h:tR T Γ ops.toList ops.toList (some ⟨s,[],[]⟩)=some a) (hf:JJ ops s.nb a.es.reverse=true) (hp:vB a.side) (j:Q .normal a.s):Ev R P (.region id ops true) s Q:=
 Iq E.T E.Γ E.m (a6O h hf hp j)
end
end Go.Proofs.YtedimeeleabhnaaGreatDoor.Vc
