import Derived.Laws.BytesArg
import Derived.Lib.AppendStr
import Derived.MapKept
import Derived.OrdersIn
import Derived.RangeFuncLeaves
import Derived.RangeFuncNested
import Derived.Scope
import Derived.Test.YtedimeeleabhnaaGreatDoorA00
set_option linter.all false
set_option maxRecDepth 100000
set_option maxHeartbeats 4000000
namespace Go.Proofs.YtedimeeleabhnaaGreatDoor.Vc
open Go.RowKit
def F0:Ty->TypeDesc
 | .int k=> .int k
 | .str=> .string
 |_=> .bool
theorem a6Q {P:Program}{t:TypeId}{ti:TI}(h:sY P t ti) (hk:tM ti.ty=true):P.underlying t=some (F0 ti.ty):=by
 have j:=h.2;unfold xG at j;obtain⟨ty,el,by',ar,ls⟩:=ti;cases ty<;>simp only[tM,aNJ] at hk<;>exact j
theorem a6R {g:Gh}{w:pY}{k:Ty}(hk:tM k=true) {a x:k.den}{v u:pZ}(D:sR g w k a v) (j:sR g w k x u):Instr.sameNow (F0 k) v u=some (xY k a x)/\(xY k a x=true->u=v):=by
 cases k with
 |int k=>
  rw[vF D,vF j];simp only[F0,Instr.sameNow,aOc,xY];refine⟨?_,λh=>?_⟩
  .congr 1
  .rw[aNV h]
 |str=>
  rw[xO D,xO j];simp only[F0,Instr.sameNow,xY];refine⟨?_,λh=>?_⟩
  .congr 1;rw[aNv,MapKept.bytes_beq,aNj];constructor
   .intro h;have:=aNz (λz:ByteArray=>z.data.toList) h;simpa using this
   intro h;rw[h]
  .rw[aNV h]
 |bool=>
  rw[vO D,vO j];simp only[F0,Instr.sameNow,xY];refine⟨trivial,λh=>?_⟩;rw[aOQ.1 h]
 |_=>simp [tM] at hk
theorem nq {s t:Ty}(h:(tM (.pair s t)||CR (.pair s t))=true):tM s=true/\CR t=true:=by
 replace h:(false||(tM s&&CR t))=true:=h
 rwa [Bool.false_or,aNf] at h
theorem nr: ∀{t:Ty},(tM t||CR t)=true->∀a b:t.den,∃c,zK t a b=some c/\(c=true->a=b)
 | .bool,_,a,b=>⟨_,rfl,λh=>by simpa using h⟩
 | .int _,_,a,b=>⟨_,rfl,λh=>aNV h⟩
 | .str,_,a,b=>⟨_,rfl,λh=>aNV h⟩
 | .unit,_,_,_=>⟨_,rfl,λ_=>rfl⟩
 | .pair s t,h,a,b=>by
  replace h:=nq h;obtain⟨c,E,D⟩:=nr (t:=s) (by rw[h.1];rfl) a.1 b.1;obtain⟨d,z,j⟩:=nr (t:=t) (by rw[h.2];simp) a.2 b.2;refine⟨c&&d,by simp only[zK,E,z,zK.eqAnd],λh=>?_⟩;rw[aNf] at h;exact Prod.ext (D h.1) (j h.2)
theorem nu {g:Gh}{w:pY}: ∀{t:Ty},(tM t||CR t)=true->∀{x:t.den}{c d:pU},Rd g w t x c->Rd g w t x d->c=d
 | .bool,_,_,_,_,h,k=>h.trans k.symm
 | .int _,_,_,_,_,h,k=>h.trans k.symm
 | .str,_,_,_,_,h,k=>h.trans k.symm
 | .unit,_,_,_,_,h,k=>h.trans k.symm
 | .pair s t,h,_,_,_,⟨a1,a2,e1,z,j⟩,⟨b1,b2,e2,k1,k2⟩=>by
  replace h:=nq h;rw[e1,e2,nu (t:=s) (by rw[h.1];rfl) z k1,nu (t:=t) (by rw[h.2];simp) j k2]
theorem nv {g:Gh}{w:pY}: ∀{t:Ty},(tM t||CR t)=true->∀{x:t.den}{c:pU},Rd g w t x c->∀v∈c,∀n,Instr.sameBits n v v=true
 | .bool,_,_,_,h,v,hv,n=>by rw[show _=_ from h] at hv;simp at hv;subst hv;cases n<;>simp [Instr.sameBits]
 | .int _,_,_,_,h,v,hv,n=>by rw[show _=_ from h] at hv;simp at hv;subst hv;cases n<;>simp [Instr.sameBits]
 | .str,_,_,_,h,v,hv,n=>by rw[show _=_ from h] at hv;simp at hv;subst hv;cases n<;>simp [Instr.sameBits,MapKept.bytes_beq]
 | .unit,_,_,_,h,v,hv,n=>by rw[show _=_ from h] at hv;simp at hv
 | .pair s t,h,_,_,⟨a1,a2,e1,z,j⟩,v,hv,n=>by
  replace h:=nq h;subst e1;rcases aNU.1 hv with hv|hv
  .exact nv (t:=s) (by rw[h.1];rfl) z v hv n
  exact nv (t:=t) (by rw[h.2];simp) j v hv n
theorem a6S {P:Program}{h:Nat}{t:TypeId}{ty:Ty}(hb:tM ty=true) (e:wY P h (.ty t) ty):P.underlying t=some (F0 ty):=by
 cases e<;>first|assumption|(simp [tM,Ty.isRow] at*;done) |(cases ty<;>simp [tM,Ty.isRow] at*)
theorem Dv {P:Program}{w:pY}{t:TypeId}{k:Ty}(hb:tM k=true) (j:P.underlying t=some (F0 k)) (em:Bool) (n:Nat) (v:pZ):(Instr.checkKey em (n+1) t v).run P w= .ok () w:=by
 unfold Instr.checkKey;simp only[aNi,aNs j,aNb];cases k<;>simp [tM] at hb<;>rfl
theorem Dw {P:Program}{g:Gh}{w:pY}{h:Nat}(em:Bool) (n:Nat): ∀{ty:Ty}{fs:List Field}{o:Nat},CR ty=true->wY P h (.fs o fs) ty->∀(px cx:pU) (x:ty.den),px.length=o->Rd g w ty x cx->
  (forIn fs () (fun(f:Field) (_:Unit)=>(do if f.name≠ "_" then Instr.checkKey em (n+1) f.type (<-part f.type (px++cx).toArray f.offset)
                                           pure (ForInStep.yield ()):Sem (ForInStep Unit)))).run P w= .ok () w
 | .unit,fs,o,_,e,px,cx,x,_,_=>by
  cases e;simp
 | .pair a b,fs,o,hk,e,px,cx,x,hpx,⟨x1,x2,ex,rx1,rx2⟩=>by
  cases e with
  | @cons _ _ f r _ _ hn ho hsz hrow ea eb=>
   replace hk:(tM a&&CR b)=true:=hk;rw[aNf] at hk;subst ex;obtain⟨vx,p1,v1⟩:=QU (P:=P) (c1:=px) (c3:=x2) hsz hrow rx1;have c1:=Dv (w:=w) hk.1 (a6S hk.1 ea) em n vx;have ih:=Dw em n (ty:=b) hk.2 eb (px++x1) x2 x.2 (by rw[aM7,hpx,sU rx1]) rx2;rw[aNd] at p1;rw[aNd] at ih;rw[hpx,<-ho] at p1;simp only[List.forIn_cons,aNi,hn,ne_eq,not_false_eq_true,aOc,aNb,p1,c1,aNu];exact ih
theorem Dx {P:Program}{t:TypeId}{kt:TI}(h:sY P t kt) (hk:DN kt.ty=true) (hb:J1 kt=true):(tM kt.ty=true/\P.underlying t=some (F0 kt.ty))\/(CR kt.ty=true/\kt.ty.isRow=true/\∃fs,P.underlying t=some (.struct fs)/\P.stoodInHeld t=false/\∃h,h<9000/\wY P (h+1) (.ty t) kt.ty/\wY P h (.fs 0 fs.toList) kt.ty):=by
 obtain⟨ty,el,by',ar,ls⟩:=kt;cases ty with
 |pair a b=>
  refine .inr ⟨hk,rfl,?_⟩;simp only[J1,aNf,aNj,aNS] at hb;obtain⟨rfl,rfl⟩:=hb;have G:=h.2;unfold xG at G;obtain⟨D,I⟩:=G;obtain⟨_,M,K,hE⟩:=I rfl;rcases D with⟨_,fs,z,_⟩ |⟨D,_⟩
  .refine⟨fs,z,?_⟩;have E:=hE;cases hE with
   |struct hr j F hf=>
    rw[z] at j;obtain rfl:=TypeDesc.struct.inj (aNa j);exact⟨F,_,pM,E,hf⟩
   |arr hr j F hf=>
    rw[z] at j;cases j
  .cases D
 |_=>first|(simp [DN] at hk;done) |exact .inl ⟨rfl,a6Q h rfl⟩
theorem nw {P:Program}{g:Gh}{w:pY}{t:TypeId}{kt:TI}(h:sY P t kt) (hk:DN kt.ty=true) (hb:J1 kt=true) {x:kt.ty.den}{v:pZ}(D:sR g w kt.ty x v) (em:Bool):(Instr.checkKey em 10000 t v).run P w= .ok () w:=by
 rcases Dx h hk hb with⟨z,j⟩ |⟨z,j,fs,E,_,G,_,_,hf⟩
 .exact Dv z j em 9999 v
 obtain⟨cs,rfl,F⟩:=DS j D;have:=Dw (w:=w) em 9998 z hf [] cs x rfl F;rw[show (10000:Nat)=9999+1 from rfl,Instr.checkKey];simp only[aNi,aNs E,aNb];rw[<-Array.forIn_toList];simp at this|-;exact(aNz (λr=>Result.andThen r _) this).trans rfl
theorem a6T {P:Program}{g:Gh}{w:pY}{t:TypeId}{kt:TI}(hk:DN kt.ty=true) (hp:CR kt.ty=true) (hr:kt.ty.isRow=true) {n:Nat}(K:n<9500) (hE:wY P n (.ty t) kt.ty) {a x:kt.ty.den}{v u:pZ}(D:sR g w kt.ty a v) (z:sR g w kt.ty x u):(Op.equal t v u).run P w= .ok (xY kt.ty a x) w/\(xY kt.ty a x=true->u=v):=by
 obtain⟨b,j,F⟩:=hE.run (g:=g) (w:=w) 9999 pM a x v u D z;have G:xY kt.ty a x=b:=by
  revert hk hr j;clear D z hE F;generalize kt.ty=ty at a x;cases ty<;>intro hk hr j<;>first|(simp [DN] at hk;done) |(simp [Ty.isRow] at hr;done) |(simp [xY,j])
 rw[G];refine⟨F,λhb=>?_⟩;obtain⟨c,E,I⟩:=nr (by rw[hp];simp) a x;rw[j] at E;obtain rfl:=aNa E;obtain rfl:=I hb;obtain⟨c1,rfl,r1⟩:=DS hr D;obtain⟨c2,rfl,r2⟩:=DS hr z;rw[nu (by rw[hp];simp) r1 r2]
theorem Dy {P:Program}{g:Gh}{w:pY}{t:TypeId}{k v:Ty}{a:k.den}{key:pZ}(G: ∀x u,sR g w k x u->(Op.equal t key u).run P w= .ok (xY k a x) w/\(xY k a x=true->u=key)) (D:sR g w k a key): ∀{l:List (k.den×v.den)}{es:List MapEntry}(i:Nat),xF g w k v l es->
  (wX k v l a=false->(Instr.findAsking t key es i).run P w= .ok none w/\sE k v l a=v.zero/\∀b val born,sR g w v b val->xF g w k v (rL k v a b l) (es++[⟨key,val,born⟩]))/\
  (wX k v l a=true->∃j e,es[j]? =some e/\(Instr.findAsking t key es i).run P w= .ok (some (i+j,e.val)) w/\sR g w v (sE k v l a) e.val/\e.key=key/\∀b val,sR g w v b val->xF g w k v (rL k v a b l) (es.modify j λe=>{e with key:=key,val:=val}))
 |[],es,i,h=>by
  rw[show es=[] from h];exact⟨λ_=>⟨rfl,rfl,λb val born hb=>⟨_,[],rfl,D,hb,rfl⟩⟩,λh=>by simp [wX] at h⟩
 |(x,y)::l,_,i,⟨e,es',rfl,F,E,I⟩=>by
  obtain⟨s1,s2⟩:=G x e.key F;cases z:xY k a x with
  |true=>
   rw[z] at s1;refine⟨λh=>by simp [wX,z] at h,λ_=>⟨0,e,rfl,?_,?_,s2 z,λb val hb=>?_⟩⟩
   .simp only[Instr.findAsking,aNi,s1,aNb,aOc,aNu,aOd]
   .simp only[sE,z,aOc];exact E
   .simp only[rL,z,aOc];exact⟨_,es',rfl,D,hb,I⟩
  |false=>
   rw[z] at s1;obtain⟨f1,f2⟩:=Dy (v:=v) G D (i+1) I;refine⟨λh=>?_,λh=>?_⟩
   .simp only[wX,z] at h;obtain⟨g1,g2,g3⟩:=f1 aO4;refine⟨by simp only[Instr.findAsking,aNi,s1,aNb,aNJ,aOh];exact g1,by simp only[sE,z];simpa using g2,λb val born hb=>?_⟩;simp only[rL,z];exact⟨e,_,rfl,F,E,g3 b val born hb⟩
   simp only[wX,z] at h;obtain⟨j,e',g1,g2,g3,g4,g5⟩:=f2 aO4;refine⟨j+1,e',by simpa using g1,by simp only[Instr.findAsking,aNi,s1,aNb,aNJ,aOh];rw[g2];congr 3;omega,by simp only[sE,z];simpa using g3,g4,λb val hb=>?_⟩;simp only[rL,z];exact⟨e,_,rfl,F,E,g5 b val hb⟩
theorem Dz {g:Gh}{w:pY}{k v:Ty}(hk:tM k=true) {a:k.den}{key:pZ}(D:sR g w k a key): ∀{l:List (k.den×v.den)}{es:List MapEntry}(i:Nat),xF g w k v l es->
  (wX k v l a=false->Instr.findNow (F0 k) key es i=some none/\sE k v l a=v.zero/\∀b val born,sR g w v b val->xF g w k v (rL k v a b l) (es++[⟨key,val,born⟩]))/\
  (wX k v l a=true->∃j e,es[j]? =some e/\Instr.findNow (F0 k) key es i=some (some (i+j,e.val))/\sR g w v (sE k v l a) e.val/\e.key=key/\∀b val,sR g w v b val->xF g w k v (rL k v a b l) (es.modify j λe=>{e with key:=key,val:=val}))
 |[],es,i,h=>by
  rw[show es=[] from h];exact⟨λ_=>⟨rfl,rfl,λb val born hb=>⟨_,[],rfl,D,hb,rfl⟩⟩,λh=>by simp [wX] at h⟩
 |(x,y)::l,_,i,⟨e,es',rfl,F,E,G⟩=>by
  obtain⟨s1,s2⟩:=a6R hk D F;cases z:xY k a x with
  |true=>
   rw[z] at s1;refine⟨λh=>by simp [wX,z] at h,λ_=>⟨0,e,rfl,?_,?_,s2 z,λb val hb=>?_⟩⟩
   .simp only[Instr.findNow,s1,aOd]
   .simp only[sE,z,aOc];exact E
   .simp only[rL,z,aOc];exact⟨_,es',rfl,D,hb,G⟩
  |false=>
   rw[z] at s1;obtain⟨f1,f2⟩:=Dz (v:=v) hk D (i+1) G;refine⟨λh=>?_,λh=>?_⟩
   .simp only[wX,z] at h;obtain⟨g1,g2,g3⟩:=f1 aO4;refine⟨by simp only[Instr.findNow,s1];exact g1,by simp only[sE,z];simpa using g2,λb val born hb=>?_⟩;simp only[rL,z];exact⟨e,_,rfl,F,E,g3 b val born hb⟩
   simp only[wX,z] at h;obtain⟨j,e',g1,g2,g3,g4,g5⟩:=f2 aO4;refine⟨j+1,e',by simpa using g1,by simp only[Instr.findNow,s1];rw[g2];congr 3;omega,by simp only[sE,z];simpa using g3,g4,λb val hb=>?_⟩;simp only[rL,z];exact⟨e,_,rfl,F,E,g5 b val hb⟩
theorem nx {P:Program}{g:Gh}{w:pY}{t:TypeId}{kt:TI}(h:sY P t kt) (hk:DN kt.ty=true) (hb:J1 kt=true) {v:Ty}{a:kt.ty.den}{key:pZ}(D:sR g w kt.ty a key) {l:List (kt.ty.den×v.den)}{es:List MapEntry}(G:xF g w kt.ty v l es):
  (wX kt.ty v l a=false->(Instr.findKey t key es).run P w= .ok none w/\sE kt.ty v l a=v.zero/\∀b val born,sR g w v b val->xF g w kt.ty v (rL kt.ty v a b l) (es++[⟨key,val,born⟩]))/\
  (wX kt.ty v l a=true->∃j e,es[j]? =some e/\(Instr.findKey t key es).run P w= .ok (some (j,e.val)) w/\sR g w v (sE kt.ty v l a) e.val/\e.key=key/\∀b val,sR g w v b val->xF g w kt.ty v (rL kt.ty v a b l) (es.modify j λe=>{e with key:=key,val:=val})):=by
 rcases Dx h hk hb with⟨F,E⟩ |⟨F,E,fs,K,_,M,O,hE,_⟩
 .obtain⟨f1,f2⟩:=Dz (v:=v) F D 0 G;have go: ∀{q},Instr.findNow (F0 kt.ty) key es 0=some q->(Instr.findKey t key es).run P w= .ok q w:=by
   intro q z;unfold Instr.findKey;simp only[aNi,aNs E,aNb,z,aNu]
  refine⟨λq=>?_,λq=>?_⟩
  .obtain⟨g1,g2,g3⟩:=f1 q;exact⟨go g1,g2,g3⟩
  obtain⟨j,e,g1,g2,g3,g4,g5⟩:=f2 q;rw[aNF] at g2;exact⟨j,e,g1,go g2,g3,g4,g5⟩
 obtain⟨f1,f2⟩:=Dy (P:=P) (t:=t) (v:=v) (λx u I=>a6T hk F E (n:=M+1) pM hE D I) D 0 G;have go: ∀{q},(Instr.findAsking t key es 0).run P w= .ok q w->(Instr.findKey t key es).run P w= .ok q w:=by
  intro q z;unfold Instr.findKey;simp only[aNi,aNs K,aNb];cases es with
  |nil=>simpa[Instr.findNow,Instr.findAsking,aNu] using z
  |cons e es=>simp only[Instr.findNow,Instr.sameNow];exact z
 refine⟨λq=>?_,λq=>?_⟩
 .obtain⟨g1,g2,g3⟩:=f1 q;exact⟨go g1,g2,g3⟩
 obtain⟨j,e,g1,g2,g3,g4,g5⟩:=f2 q;rw[aNF] at g2;exact⟨j,e,g1,go g2,g3,g4,g5⟩
theorem a6U {g:Gh}{w:pY}{k:Ty}(hk:DN k=true) {x:k.den}{v:pZ}(h:sR g w k x v):Instr.sameBits 10000 v v=true:=by
 cases k with
 |int k=>rw[vF h];simp [Instr.sameBits]
 |str=>rw[xO h];simp [Instr.sameBits,MapKept.bytes_beq]
 |bool=>rw[vO h];simp [Instr.sameBits]
 |pair s t=>
  obtain⟨cs,rfl,z⟩:=DS rfl h;have hb:=nv (by rw[show CR (.pair s t)=true from hk];simp) z;simp only[Instr.sameBits,beq_self_eq_true,Bool.true_and,aN4];intro p hp;obtain⟨u,v⟩:=p;obtain⟨i,D,j⟩:=aOC hp;simp only[List.getElem_zip,aNA] at j;obtain⟨rfl,rfl⟩:=j;exact hb _ (aNc _) 9999
 |_=>simp [DN] at hk
def M1 (ok:Bool) (z:pZ):Option (Nat×pZ)->pZ
 |some (_,v)=>if ok then .tuple #[v,.bool true] else v
 |none=>if ok then .tuple #[z,.bool false] else z
section
variable {P:Program}{o:Oper}{a:Act}{g:Gh}{w:pY}{H:sA}{T:sH}(hT:vX P T) (hH:sL g w H)
include hT hH
theorem sC.newMap {side:List Prop}{rds:pX}{base:Nat}{k v:Ty}(hf:g.J base=none) (Q:g.cur base=λ_=>none):
  sC g w H ⟨side,(.val .mp (some base),none),[(base,.map k v [])],rds⟩ (g.var base w.heap.size none) (w.alloc (.map #[] 0)) (.map (some w.heap.size)):=by
 have D:(g.var base w.heap.size none).J base=some ⟨w.heap.size,0,none⟩:=by simp [Gh.var]
 have le:Le g w (g.var base w.heap.size none) (w.alloc (.map #[] 0)):=⟨λ_ _ h=>h,λb o h=>aNx (a:=⟨b,o,none⟩) (aNB _ _ _ (hH.sl b o h)),λi p h=>by
  show (if i=base then _ else _)=_;rw[aM9 (λe1=>by rw[e1,hf] at h;cases h)];exact h,λ_ _ _ h=>h⟩
 have fr:Fr (sX g H (qV [(base,qP.map k v [])])) w (w.alloc (.map #[] 0)) g.S (g.var base w.heap.size none).S:=
  ⟨rfl,rfl,rfl,by simp,λb hb _=>aNB _ _ _ hb,λb o hb _=>⟨aNx (a:=⟨b,o,none⟩) (aNB _ _ _ hb),aNZ (a:=⟨b,o,none⟩) (aNB _ _ _ hb)⟩,λb o h=> .inl h,λb s h=> .inl ((EV (aNB _ _ _ (EU h))).trans h)⟩
 have gho: ∀i,i∉qV [(base,qP.map k v [])]->(g.var base w.heap.size none).J i=g.J i/\(g.var base w.heap.size none).cur i=g.cur i:=λi hi=>⟨by
  show (if i=base then _ else _)=_;rw[aM9 (λe1=>hi aPa)],rfl⟩
 have get: ∀i blk,i∈qV [(base,qP.map k v [])]->qT (rJ [(base,qP.map k v [])] H) i=some blk->i=base/\blk= .map k v []:=by
  intro i blk hi z;simp only[qV,aNn] at hi;subst hi;simp only[rJ,qT,aOc,aM6] at z;exact⟨rfl,z.symm⟩
 have perm: ∀i blk b o,i∈qV [(base,qP.map k v [])]->qT (rJ [(base,qP.map k v [])] H) i=some blk->sB (g.var base w.heap.size none) i blk b o->w.heap.size<=b\/sX g H (qV [(base,qP.map k v [])]) b o:=by
  intro i blk b o hi z K;obtain⟨rfl,rfl⟩:=get i blk hi z;obtain⟨p,hp,O⟩:=K;rw[D] at hp;obtain rfl:=aNa hp;exact .inl (aOv O.symm)
 refine⟨le,⟨.inr ⟨rfl,_,D,rfl⟩,trivial⟩,hH.upd le fr perm gho (λi blk hi z=>?_) (λi j bi bj b o hi M E G F _ _=>E ((get i bi hi G).1.trans (get j bj M F).1.symm)) (λb o h=>aNI (hH.sl b o h) pO),fr,perm,gho,λi u' y us h=>by
  simp only[rJ,qT] at h;split at h
  .cases h
  exact .inl ⟨y,us,h⟩⟩
 obtain⟨rfl,rfl⟩:=get i blk hi z;refine⟨⟨w.heap.size,0,none⟩,#[],0,D,⟨rfl,by simp [J8]⟩,?_,rfl,λo I=>aOB _ (hH.sl _ _ I)⟩;show (w.heap.push (.map #[] 0))[w.heap.size]? =_;rw[aOR]
theorem a6V {t:TypeId}{r:Option Operand}(z:o.op= .makeMap t r) {base:Nat}{e:r9}(hr:ln T base (s0 T t) r=some e) (hf:yU g base e):rS P o a g w H e:=by
 generalize hst:s0 T t=ot at hr;unfold ln at hr;split at hr
 .rename_i el fl ar ls_;unfold Bn at hr;split at hr
  .split at hr
   .cases hr;have j:=hf base aPb (aNt _);refine rS.value (v:= .map (some w.heap.size)) (w':=w.alloc (.map #[] 0)) ?_ (sC.newMap hT hH j.1 (funext j.2));unfold execOp;rw[z];simp only[Instr.makeMap,aNi,run_newObj,aNb,aNu,Option.map_none];rfl
   cases hr
  cases hr
 cases hr
theorem a6W {xt el fl:TypeId}{ok:Bool}{r:Nat}{es:Array MapEntry}{cl:Nat}{key z res:pZ}(hm:P.underlying xt=some (.map el fl)) (hb:w.heap[r]? =some (.map es cl)) (E: ∀em,(Instr.checkKey em 10000 el key).run P w= .ok () w)
  {q:Option (Nat×pZ)}(D:(Instr.findKey el key es.toList).run P w= .ok q w) (F:(zeroValue fl).run P w= .ok z w)
  (j:res=M1 ok z q):(Instr.lookup xt (.map (some r)) key ok).run P w= .ok res w:=by
 subst j;unfold Instr.lookup;simp only[aNi,aNs hm,aNb,MapKept.run_getObj_map hb,aNu,E,D];cases q with
 |none=>cases ok<;>simp [F,aNi,aNb,M1]
 |some q=>cases ok<;>simp [aNi,aNb,M1]
theorem a6X {xt el fl:TypeId}{ok:Bool}{key z:pZ}(hm:P.underlying xt=some (.map el fl)) (D: ∀em,(Instr.checkKey em 10000 el key).run P w= .ok () w) (j:(Instr.findKey el key ([]:List MapEntry)).run P w= .ok none w)
  (E:(zeroValue fl).run P w= .ok z w):(Instr.lookup xt (.map none) key ok).run P w= .ok (M1 ok z none) w:=by
 unfold Instr.lookup;simp only[aNi,aNs hm,aNb,aNu,D,j];cases ok<;>simp [E,aNi,aNb,M1,j]
theorem sC.updMap {side:List Prop}{rds:pX}{i:Nat}{k v:Ty}{l l':List (k.den×v.den)}{p:Pl}{es es':Array MapEntry}{cl cl':Nat}(hi:qT H i=some (.map k v l)) (hp:g.J i=some p) (I:p.2=0/\J8 es' cl') (hb:w.heap[p.1]? =some (.map es cl)) (X: ∀o,¬g.S p.1 o) (Z:xF g w k v l' es'.toList):
  sC g w H ⟨side,(.any,none),[(i,.map k v l')],rds⟩ g {w with heap:=w.heap.setIfInBounds p.1 (.map es' cl')} undef:=by
 have M:p.1<w.heap.size:=(aNr.1 hb).1;have D: ∀b,b≠p.1->(w.heap.setIfInBounds p.1 (.map es' cl'))[b]? =w.heap[b]? :=λb K=>by rw[aNY (Ne.symm K)]
 have z: ∀o,sX g H (qV [(i,qP.map k v l')]) p.1 o:=λo=>⟨i,_,by simp [qV],hi,p,hp,rfl⟩;have le:Le g w g {w with heap:=w.heap.setIfInBounds p.1 (.map es' cl')}:=⟨λ_ _ h=>h,λb o h=>aNx (a:=⟨b,o,none⟩) (D b (λe=>X o (e▸h))),λ_ _ h=>h,λ_ _ _ h=>h⟩
 have fr:Fr (sX g H (qV [(i,qP.map k v l')])) w {w with heap:=w.heap.setIfInBounds p.1 (.map es' cl')} g.S g.S:=
  ⟨rfl,rfl,rfl,by simp,λb _ G=>D b (λe=>G 0 (e▸z 0)),λb o _ G=>⟨aNx (a:=⟨b,o,none⟩) (D b (λe=>G (e▸z o))),aNZ (a:=⟨b,o,none⟩) (D b (λe=>G (e▸z o)))⟩,λb o h=> .inl h,λb s h=>(by
   by_cases e:b=p.1
   .exact .inr λo=>e▸z o
   exact .inl ((EV (D b e)).trans h))⟩
 have get: ∀j blk,j∈qV [(i,qP.map k v l')]->qT (rJ [(i,qP.map k v l')] H) j=some blk->j=i/\blk= .map k v l':=by
  intro j blk E F;simp only[qV,aNn] at E;subst E;simp only[rJ,qT,aOc,aM6] at F;exact⟨rfl,F.symm⟩
 have perm: ∀j blk b o,j∈qV [(i,qP.map k v l')]->qT (rJ [(i,qP.map k v l')] H) j=some blk->sB g j blk b o->w.heap.size<=b\/sX g H (qV [(i,qP.map k v l')]) b o:=by
  intro j blk b o E F Y;obtain⟨rfl,rfl⟩:=get j blk E F;obtain⟨q,V,rfl⟩:=Y;rw[hp] at V;obtain rfl:=aNa V;exact .inr (z o)
 refine⟨le,⟨trivial,trivial⟩,hH.upd le fr perm (λ_ _=>⟨rfl,rfl⟩) (λj blk E F=>?_) (λj j' bi bj b o E O Q U R _ _=>Q ((get j bi E U).1.trans (get j' bj O R).1.symm)) (λb o h=>by simpa using hH.sl b o h),fr,perm,λ_ _=>⟨rfl,rfl⟩,λj u' y us h=>by
  simp only[rJ,qT] at h;split at h
  .cases h
  exact .inl ⟨y,us,h⟩⟩
 obtain⟨rfl,rfl⟩:=get j blk E F;exact⟨p,es',cl',hp,I,by simp [aOI,M],VC le Z,X⟩
theorem ny {i:Nat}{k:pW}{v:pZ}(h:rY g w (.val .mp (some i),k) v): ∃p,g.J i=some p/\v= .map (some p.1):=by
 obtain⟨p,j,e⟩:=B2 rfl h.1;simp only[aNW,and_true] at e;exact⟨p,j,e⟩
theorem a6Y {t:TypeId}{x y:Operand}{ok:Bool}(Y:o.op= .lookup t x y ok) {sx sy:qK}(X:rY g w sx (a.eval x)) (Q:rY g w sy (a.eval y)) {e:r9}(hr:ZJ T H ok (s0 T t) sx sy=some e):rS P o a g w H e:=by
 generalize hst:s0 T t=ot at hr;unfold ZJ at hr;split at hr
 .rename_i el fl ar ls_ i kk;generalize hk:s0 T el=ok1 at hr;generalize hv:s0 T fl=ok2 at hr;unfold lq at hr;split at hr
  .rename_i kt vt k a' _;split at hr
   .rename_i D;obtain⟨D,F⟩:=D;subst D;unfold ZI at hr;split at hr
    .rename_i k' v' l hb;split at hr
     .rename_i U;obtain⟨rfl,rfl⟩:=U;split at hr
      .rename_i z;obtain⟨p,es,cl,hp,ha,Z,hM,hS⟩:=hH.blk i _ hb;obtain⟨p',O,I⟩:=ny hT hH X;rw[hp] at O;obtain rfl:=aNa O;have hm:=(t7 hT hst).2;simp only[xG] at hm;have E:=t7 hT hk;obtain⟨iv,M,V,K⟩:=H4 (t7 hT hv);have R:(zeroValue fl).run P w= .ok (y6 vt.ty) w:=by
        simp only[zeroValue,typeInfo,aNi,aN1,M,K,aNb,aNu]
       obtain⟨f1,f2⟩:=nx (v:=vt.ty) E z F Q.1 hM;have go: ∀{q res},(Instr.findKey el (a.eval y) es.toList).run P w= .ok q w->res=M1 ok (y6 vt.ty) q->(execOp a.eval o).run P w= .ok (.value res) w:=by
        intro q res h1 h2;unfold execOp;rw[Y];simp only[I,aNi,a6W hT hH hm Z (nw E z F Q.1) h1 R h2,aNb,aNu]
       cases G:wX kt.ty vt.ty l a' with
       |false=>
        obtain⟨g1,g2,_⟩:=f1 G;cases ok with
        |true=>
         cases hr;refine rS.pure hH (v:= .tuple #[y6 vt.ty,.bool false]) (go g1 rfl) ?_;simp only[Q6,G,g2];exact⟨[_,_],rfl,_,[_],rfl,LZ g w _,trivial,_,[],rfl,w5 g w false,trivial,rfl⟩
        |false=>
         cases hr;refine rS.pure hH (v:=y6 vt.ty) (go g1 rfl) ?_;simp only[Q6,g2];exact LZ g w _
       |true=>
        obtain⟨j,e',g1,g2,g3,g4,g5⟩:=f2 G;cases ok with
        |true=>
         cases hr;refine rS.pure hH (v:= .tuple #[e'.val,.bool true]) (go g2 rfl) ?_;simp only[Q6,G];exact⟨[_,_],rfl,_,[_],rfl,g3,trivial,_,[],rfl,w5 g w true,trivial,rfl⟩
        |false=>
         cases hr;refine rS.pure hH (v:=e'.val) (go g2 rfl) ?_;simp only[Q6];exact g3
      cases hr
     cases hr
    cases hr
   cases hr
  cases hr
 .rename_i el fl ar ls_ kk;generalize hk:s0 T el=ok1 at hr;generalize hv:s0 T fl=ok2 at hr;unfold Bo at hr;split at hr
  .rename_i kt vt k a' _;split at hr
   .rename_i D;obtain⟨D,F⟩:=D;subst D;split at hr
    .rename_i z;have I:a.eval x= .map none:=by
      have e1:=B2 rfl X.1;simpa[Rd,LU] using e1
     have hm:=(t7 hT hst).2;simp only[xG] at hm;have E:=t7 hT hk;obtain⟨iv,M,V,K⟩:=H4 (t7 hT hv);have R:(zeroValue fl).run P w= .ok (y6 vt.ty) w:=by
      simp only[zeroValue,typeInfo,aNi,aN1,M,K,aNb,aNu]
     obtain⟨f1,_⟩:=nx (v:=vt.ty) E z F Q.1 (l:=[]) (es:=[]) rfl;have go:(execOp a.eval o).run P w= .ok (.value (M1 ok (y6 vt.ty) none)) w:=by
      unfold execOp;rw[Y];simp only[I,aNi,a6X hT hH hm (nw E z F Q.1) (f1 rfl).1 R,aNb,aNu]
     cases ok with
     |true=>
      cases hr;exact rS.pure hH (v:= .tuple #[y6 vt.ty,.bool false]) go ⟨[_,_],rfl,_,[_],rfl,LZ g w _,trivial,_,[],rfl,w5 g w false,trivial,rfl⟩
     |false=>
      cases hr;exact rS.pure hH (v:=y6 vt.ty) go (LZ g w _)
    cases hr
   cases hr
  cases hr
 cases hr
omit hT hH in
theorem Ea {T:sH}{ti:Option TI}{s:qK}{v:pZ}(h:rY g w s v):rY g w (ZL T ti s) v:=by
 unfold ZL;split
 .unfold Bp;split
  .rename_i f x _;refine⟨.inr ⟨rfl,?_⟩,trivial⟩;rcases h.1 with⟨z,_⟩ |⟨z,vs,D,j⟩
   .cases z
   rw[show vs=[] from D] at j;exact j
  exact h
 exact h
theorem Eb {t:TypeId}{m x y:Operand}(E:o.op= .mapUpdate t m x y\/o.op= .insert t m x y) {sm sx sy:qK}(hm:rY g w sm (a.eval m)) (V:rY g w sx (a.eval x)) (Y:rY g w sy (a.eval y)) {e:r9}(hr:QI T H (s0 T t) sm sx sy=some e):rS P o a g w H e:=by
 generalize hst:s0 T t=ot at hr;unfold QI at hr;split at hr
 .rename_i el fl ar ls_ i kk;generalize hk:s0 T el=ok1 at hr;unfold ZK at hr;split at hr
  .rename_i kt k a' _ u b _;split at hr
   .rename_i G;obtain⟨G,R⟩:=G;subst G;unfold QH at hr;split at hr
    .rename_i k' v' l hb;split at hr
     .rename_i X;obtain⟨rfl,rfl⟩:=X;split at hr
      .rename_i z;cases hr;obtain⟨p,es,cl,hp,D,I,hM,Z⟩:=hH.blk i _ hb;obtain⟨p',O,K⟩:=ny hT hH hm;rw[hp] at O;obtain rfl:=aNa O;have F:=(t7 hT hst).2;simp only[xG] at F;have M:=t7 hT hk;have U:=nw M z R V.1 false;obtain⟨f1,f2⟩:=nx (v:=u) M z R V.1 hM;cases Q:wX kt.ty u l a' with
       |false=>
        obtain⟨g1,_,g3⟩:=f1 Q;refine rS.skip (w':={w with heap:=w.heap.setIfInBounds p.1 (.map (es.push ⟨a.eval x,a.eval y,cl⟩) (cl+1))}) ?_ (sC.updMap hT hH hb hp ⟨D.1,a5Y D.2 _ _⟩ I Z ?_)
        .unfold execOp;rcases E with E|E<;>rw[E]<;>
          simp only[Instr.mapUpdate,K,aNi,aNs F,aNb,MapKept.run_getObj_map I,U,g1,MapKept.run_setObj_map _ I,aNu]
        .simp only[Q6,Array.toList_push];exact g3 b _ _ Y.1
       |true=>
        obtain⟨j,e',g1,g2,g3,g4,g5⟩:=f2 Q;refine rS.skip (w':={w with heap:=w.heap.setIfInBounds p.1 (.map (es.modify j λe=>{e with key:=a.eval x,val:=a.eval y}) cl)}) ?_ (sC.updMap hT hH hb hp ⟨D.1,a5Z D.2 _ _ λ_=>rfl⟩ I Z ?_)
        .have hj:es[j]? =some e':=by rw[<-aOx];exact g1
         unfold execOp;rcases E with E|E<;>rw[E]<;>
          simp only[Instr.mapUpdate,K,aNi,aNs F,aNb,MapKept.run_getObj_map I,U,g2,hj,Option.map_some,aOW,g4,Instr.keyThatStays,a6U z V.1,aOc,MapKept.run_setObj_map _ I,aNu]
        simp only[Q6,Array.toList_modify];exact g5 b _ Y.1
      cases hr
     cases hr
    cases hr
   cases hr
  cases hr
 cases hr
end
theorem Ec {P:Program}{w:pY}{r:Nat}{s:ByteArray}{n:Nat}(hb:w.heap[r]? =some (.stringIter s n)):(getObj r).run P w= .ok (.stringIter s n) w:=by
 simp [getObj,Sem.run,hb]
theorem a6Z {P:Program}{w:pY}{r:Nat}{s:ByteArray}{n:Nat}(o:Obj) (hb:w.heap[r]? =some (.stringIter s n)):(setObj r o).run P w= .ok () {w with heap:=w.heap.setIfInBounds r o}:=by
 simp [setObj,Sem.run,hb]
section
variable {P:Program}{o:Oper}{a:Act}{g:Gh}{w:pY}{H:sA}{T:sH}(hT:vX P T) (hH:sL g w H)
include hT hH
theorem sC.newIter {side:List Prop}{rds:pX}{base:Nat}{s:pI}(hf:g.J base=none) (Q:g.cur base=λ_=>none):
  sC g w H ⟨side,(.val .ref (some (base,0)),none),[(base,.iter s 0)],rds⟩ (g.var base w.heap.size none) (w.alloc (.stringIter ⟨s.toArray⟩ 0)) (.pointer (some ⟨w.heap.size,0,none⟩)):=by
 have D:(g.var base w.heap.size none).J base=some ⟨w.heap.size,0,none⟩:=by simp [Gh.var]
 have le:Le g w (g.var base w.heap.size none) (w.alloc (.stringIter ⟨s.toArray⟩ 0)):=⟨λ_ _ h=>h,λb o h=>aNx (a:=⟨b,o,none⟩) (aNB _ _ _ (hH.sl b o h)),λi p h=>by
  show (if i=base then _ else _)=_;rw[aM9 (λe1=>by rw[e1,hf] at h;cases h)];exact h,λ_ _ _ h=>h⟩
 have fr:Fr (sX g H (qV [(base,qP.iter s 0)])) w (w.alloc (.stringIter ⟨s.toArray⟩ 0)) g.S (g.var base w.heap.size none).S:=
  ⟨rfl,rfl,rfl,by simp,λb hb _=>aNB _ _ _ hb,λb o hb _=>⟨aNx (a:=⟨b,o,none⟩) (aNB _ _ _ hb),aNZ (a:=⟨b,o,none⟩) (aNB _ _ _ hb)⟩,λb o h=> .inl h,λb s h=> .inl ((EV (aNB _ _ _ (EU h))).trans h)⟩
 have gho: ∀i,i∉qV [(base,qP.iter s 0)]->(g.var base w.heap.size none).J i=g.J i/\(g.var base w.heap.size none).cur i=g.cur i:=λi hi=>⟨by
  show (if i=base then _ else _)=_;rw[aM9 (λe1=>hi aPa)],rfl⟩
 have get: ∀i blk,i∈qV [(base,qP.iter s 0)]->qT (rJ [(base,qP.iter s 0)] H) i=some blk->i=base/\blk= .iter s 0:=by
  intro i blk hi z;simp only[qV,aNn] at hi;subst hi;simp only[rJ,qT,aOc,aM6] at z;exact⟨rfl,z.symm⟩
 have perm: ∀i blk b o,i∈qV [(base,qP.iter s 0)]->qT (rJ [(base,qP.iter s 0)] H) i=some blk->sB (g.var base w.heap.size none) i blk b o->w.heap.size<=b\/sX g H (qV [(base,qP.iter s 0)]) b o:=by
  intro i blk b o hi z K;obtain⟨rfl,rfl⟩:=get i blk hi z;obtain⟨p,hp,O⟩:=K;rw[D] at hp;obtain rfl:=aNa hp;exact .inl (aOv O.symm)
 refine⟨le,⟨.inr ⟨rfl,_,D,rfl⟩,trivial⟩,hH.upd le fr perm gho (λi blk hi z=>?_) (λi j bi bj b o hi M E G F _ _=>E ((get i bi hi G).1.trans (get j bj M F).1.symm)) (λb o h=>aNI (hH.sl b o h) pO),fr,perm,gho,λi u' y us h=>by
  simp only[rJ,qT] at h;split at h
  .cases h
  exact .inl ⟨y,us,h⟩⟩
 obtain⟨rfl,rfl⟩:=get i blk hi z;refine⟨⟨w.heap.size,0,none⟩,D,rfl,?_,λo I=>aOB _ (hH.sl _ _ I)⟩;show (w.heap.push (.stringIter ⟨s.toArray⟩ 0))[w.heap.size]? =_;rw[aOR]
theorem sC.updIter {side:List Prop}{rds:pX}{i:Nat}{s:pI}{n n':Nat}{d:qK}{val:pZ}{p:Pl}(hi:qT H i=some (.iter s n)) (hp:g.J i=some p) (I:p.2=0) (hb:w.heap[p.1]? =some (.stringIter ⟨s.toArray⟩ n)) (X: ∀o,¬g.S p.1 o) (Z:rY g {w with heap:=w.heap.setIfInBounds p.1 (.stringIter ⟨s.toArray⟩ n')} d val):
  sC g w H ⟨side,d,[(i,.iter s n')],rds⟩ g {w with heap:=w.heap.setIfInBounds p.1 (.stringIter ⟨s.toArray⟩ n')} val:=by
 have M:p.1<w.heap.size:=(aNr.1 hb).1;have D: ∀b,b≠p.1->(w.heap.setIfInBounds p.1 (.stringIter ⟨s.toArray⟩ n'))[b]? =w.heap[b]? :=λb K=>by rw[aNY (Ne.symm K)]
 have z: ∀o,sX g H (qV [(i,qP.iter s n')]) p.1 o:=λo=>⟨i,_,by simp [qV],hi,p,hp,rfl⟩;have le:Le g w g {w with heap:=w.heap.setIfInBounds p.1 (.stringIter ⟨s.toArray⟩ n')}:=⟨λ_ _ h=>h,λb o h=>aNx (a:=⟨b,o,none⟩) (D b (λe=>X o (e▸h))),λ_ _ h=>h,λ_ _ _ h=>h⟩
 have fr:Fr (sX g H (qV [(i,qP.iter s n')])) w {w with heap:=w.heap.setIfInBounds p.1 (.stringIter ⟨s.toArray⟩ n')} g.S g.S:=
  ⟨rfl,rfl,rfl,by simp,λb _ G=>D b (λe=>G 0 (e▸z 0)),λb o _ G=>⟨aNx (a:=⟨b,o,none⟩) (D b (λe=>G (e▸z o))),aNZ (a:=⟨b,o,none⟩) (D b (λe=>G (e▸z o)))⟩,λb o h=> .inl h,λb s h=>(by
   by_cases e:b=p.1
   .exact .inr λo=>e▸z o
   exact .inl ((EV (D b e)).trans h))⟩
 have get: ∀j blk,j∈qV [(i,qP.iter s n')]->qT (rJ [(i,qP.iter s n')] H) j=some blk->j=i/\blk= .iter s n':=by
  intro j blk E F;simp only[qV,aNn] at E;subst E;simp only[rJ,qT,aOc,aM6] at F;exact⟨rfl,F.symm⟩
 have perm: ∀j blk b o,j∈qV [(i,qP.iter s n')]->qT (rJ [(i,qP.iter s n')] H) j=some blk->sB g j blk b o->w.heap.size<=b\/sX g H (qV [(i,qP.iter s n')]) b o:=by
  intro j blk b o E F Y;obtain⟨rfl,rfl⟩:=get j blk E F;obtain⟨q,V,rfl⟩:=Y;rw[hp] at V;obtain rfl:=aNa V;exact .inr (z o)
 refine⟨le,Z,hH.upd le fr perm (λ_ _=>⟨rfl,rfl⟩) (λj blk E F=>?_) (λj j' bi bj b o E O Q U R _ _=>Q ((get j bi E U).1.trans (get j' bj O R).1.symm)) (λb o h=>by simpa using hH.sl b o h),fr,perm,λ_ _=>⟨rfl,rfl⟩,λj u' y us h=>by
  simp only[rJ,qT] at h;split at h
  .cases h
  exact .inl ⟨y,us,h⟩⟩
 obtain⟨rfl,rfl⟩:=get j blk E F;exact⟨p,hp,I,by simp [aOI,M],X⟩
theorem a60 {t:TypeId}{x:Operand}(E:o.op= .range t x) {sx:qK}(D:rY g w sx (a.eval x)) {base:Nat}{e:r9}(hr:lu base (s0 T t) sx=some e) (hf:yU g base e):rS P o a g w H e:=by
 generalize hst:s0 T t=ot at hr;unfold lu at hr;split at hr
 .rename_i el b ar ls s k;cases hr;have j:=hf base aPb (aNt _);have hv:=xO D.1;have z:=(t7 hT hst).2;simp only[xG] at z;refine rS.value (v:= .pointer (some ⟨w.heap.size,0,none⟩)) (w':=w.alloc (.stringIter ⟨s.toArray⟩ 0)) ?_ (sC.newIter hT hH j.1 (funext j.2));unfold execOp;rw[E];simp only[Instr.range,hv,aNi,aNs z,run_newObj,aNb,aNu];rfl
 cases hr
theorem a61 {x:Operand}{b:Bool}(K:o.op= .next x b) {sx:qK}(O:rY g w sx (a.eval x)) {e:r9}(hr:ZM H b sx=some e):rS P o a g w H e:=by
 unfold ZM at hr;split at hr
 .rename_i i k;unfold lv at hr;split at hr
  .rename_i s n hb;cases hr;obtain⟨p,hp,F,z,M⟩:=hH.blk i _ hb;obtain⟨q,I,hv⟩:=zB O.1;rw[hp] at I;obtain rfl:=aNa I;rw[F] at hv;by_cases G:n<s.length
   .have D:n<(⟨s.toArray⟩:ByteArray).size:=by simpa[ByteArray.size] using G
    refine rS.value (v:= .tuple #[.bool true,.int .i64 (n:Int),.int .i32 (xN s n)]) (w':={w with heap:=w.heap.setIfInBounds p.1 (.stringIter ⟨s.toArray⟩ (AZ s n))}) ?_ (sC.updIter hT hH hb hp F z M ⟨⟨λ_=>rfl,λh=>absurd G (of_decide_eq_false h)⟩,trivial⟩)
    unfold execOp;rw[K];have E:AZ s n=n+(Utf8.decode ⟨s.toArray⟩ n).2:=by unfold AZ lr;rw[aM4 G]
    simp only[Instr.next,hv,aNi,Ec z,aNb,D,aOc,a6Z _ z,aNu,E];rfl
   have D: ¬n<(⟨s.toArray⟩:ByteArray).size:=by simpa[ByteArray.size] using G
   have E:AZ s n=n:=by unfold AZ;rw[aM9 G]
   have Q:({w with heap:=w.heap.setIfInBounds p.1 (.stringIter ⟨s.toArray⟩ (AZ s n))}:pY)=w:=by
    rw[E];have:w.heap.setIfInBounds p.1 (.stringIter ⟨s.toArray⟩ n)=w.heap:=by
     obtain⟨U,V⟩:=aNr.1 z;apply Array.ext_getElem?;intro j;rw[aOI];split
     .rename_i R;subst R;first|rw[z] |rw[aM4 U,z]
     rfl
    rw[this]
   refine rS.value (v:= .tuple #[.bool false]) (w':={w with heap:=w.heap.setIfInBounds p.1 (.stringIter ⟨s.toArray⟩ (AZ s n))}) ?_ (sC.updIter hT hH hb hp F z M ⟨⟨λh=>absurd (aNV h) G,λ_=>rfl⟩,trivial⟩)
   rw[Q];unfold execOp;rw[K];simp only[Instr.next,hv,aNi,Ec z,aNb,D,aOh,aNu]
  cases hr
 cases hr
end
def sZ:Nat->List qP->sA
 |_,[]=>[]
 |c,b::L=>(c,b)::sZ (c+1) L
theorem aj: ∀(L:List qP) (c i:Nat),qT (sZ c L) i=if c<=i then L[i-c]? else none
 |[],c,i=>by simp [sZ,qT]
 |b::L,c,i=>by
  simp only[sZ,qT];by_cases h:c=i
  .subst h;simp
  rw[aM9 h,aj L (c+1) i];by_cases j:c<=i
  .rw[aM4 j,aM4 pM];obtain⟨d,z⟩: ∃d,i-c=d+1:=⟨i-c-1,pM⟩;rw[z,aNP];congr 1;omega
  rw[aM9 j,aM9 pM]
theorem zC (L:List qP) (i:Nat):qT (sZ 0 L) i=L[i]? :=by rw[aj];simp
def wQ (g:Gh) (H:sA) (b o:Nat):Prop:= ∃i blk,qT H i=some blk/\sB g i blk b o
def wR (g:Gh) (w:pY):List qK->pU->Prop
 |[],vs=>vs=[]
 |s::ss,vs=> ∃v vs',vs=v::vs'/\rY g w s v/\wR g w ss vs'
def VM (g:Gh) (w:pY):List qK->pZ->Prop
 |[s],v=>rY g w s v
 |l,v=> ∃vs:pU,v= .tuple vs.toArray/\wR g w l vs
structure M3 (g:Gh) (w:pY) (L:List qP) (r:r8) (g':Gh) (w':pY) (v:pZ):Prop where
 shut: ∀b o,g.S b o->g'.S b o/\w'.cell? ⟨b,o,none⟩=w.cell? ⟨b,o,none⟩
 heap:sL g' w' (sZ 0 r.H)
 ret:VM g' w' r.ret v
 fr:Fr (wQ g (sZ 0 L)) w w' g.S g'.S
 perm: ∀i blk b o,r.H[i]? =some blk->sB g' i blk b o->w.heap.size<=b\/wQ g (sZ 0 L) b o
 J: ∀(i:Nat) t x ts,L[i]? =some (.cells t x ts)->g'.J i=g.J i
 ty: ∀(i:Nat) t x ts u y us,L[i]? =some (.cells t x ts)->r.H[i]? =some (.cells u y us)->u=t
 Jt: ∀i p,i<L.length->g.J i=some p->g'.J i=some p
 cur: ∀i n u,i<L.length->g.cur i n=some u->g'.cur i n=some u
def yV (P:Program) (f:FuncId) (C:List qK->List qP->Option r8):Prop:=
 (∀args w,(callFunc f args).run P w= .ok (.enter f args) w)/\
 ∀(g:Gh) (w:pY) (args:List qK) (vals:pU) (L:List qP) (r:r8),sL g w (sZ 0 L)->wR g w args vals->C args L=some r->(∀p∈r.side,p)->
  Calls P f vals.toArray w (λe w'=> ∃v g',e= .returned v/\M3 g w L r g' w' v)
def nz (P:Program) (f:FuncId) (F:(t:Ty)->List t.den->Option (List t.den)):Prop:=
 ∀(g:Gh) (w:pY) (e:TypeId) (t:Ty) (l l':List t.den) (v:pZ) (n:Nat) (xs:pU),IT w->w.ownsRow 0 e t.cells v n xs->uR (Rd g w t) t.cells l xs->l.length=n->n<4611686018427387904->F t l=some l'->
  Calls P f #[v] w (λen w'=>en= .returned (.tuple #[])/\l'.length=n/\∃xs',w'.ownsRow 0 e t.cells v n xs'/\uR (Rd g w t) t.cells l' xs'/\w.grownBy w' v.ownBlock)
def DT (P:Program) (Γ:tS):Prop:= ∀f s,f<1000000000->Γ f=some s->yV P f s.C/\∀F,s.row=some F->nz P f F
theorem Ed {g:Gh}{w:pY}{t:Ty}{x:t.den}{v:pZ}{k:pW}(h:rY g w (.val t x,k) v):rY g w (.val t x,FL t k) v:=by
 refine⟨h.1,?_⟩;cases t with
 |list u=>exact h.2
 |_=>trivial
theorem a62 {t:Ty}{k:pW}: ∀c,FL t k=some c->∃u,t= .list u:=by
 cases t with
 |list u=>exact λ_ _=>⟨u,rfl⟩
 |_=>intro c h;cases h
theorem ak {g g':Gh}{w:pY}(z:g'.S=g.S) {t:Ty}(hp:t.pure=true) {x:t.den}{v:pZ}{k k':pW}(E: ∀c,k=some c->∃u,t= .list u) (h:rY g w (.val t x,k) v) (hk: ∀c,k=some c->∃c',k'=some c'/\∀n u,g.cur c n=some u->g'.cur c' n=some u) (j:k=none->k'=none):rY g' w (.val t x,k') v:=by
 have hv:sR g' w t x v:=h.1.imp (λ⟨a,cs,e,q⟩=>⟨a,cs,e,vE z hp q⟩) (λ⟨a,q⟩=>⟨a,vE z hp q⟩);refine⟨hv,?_⟩;cases k with
 |none=>rw[j rfl];trivial
 |some c=>
  obtain⟨c',rfl,F⟩:=hk c rfl;have D:=h.2;cases t with
  |list u=>exact F _ _ D
  |pair a b=>obtain⟨u,e⟩:=E c rfl;cases e
  |_=>exact D.elim
section
variable {P:Program}{o:Oper}{a:Act}{g:Gh}{w:pY}{H:sA}{T:sH}{Γ:tS}(hT:vX P T) (hΓ:DT P Γ) (hH:sL g w H)
include hT hΓ hH
theorem oa {ti:Option TI}{s:qK}{v:pZ}(h:rY g w s v):rY g w (Q7 ti s) v:=by
 unfold Q7;split
 .have:v= .slice none 0 0:=h.1;subst this;exact⟨.inr ⟨rfl,none,0,rfl,aNt _,.inl rfl⟩,trivial⟩
 exact h
theorem Ee {ρ:Operand->qK}: ∀{xs:List Operand}{ts:List TypeId},xs.length=ts.length->(∀x∈xs,rY g w (ρ x) (a.eval x))->wR g w (GY T ρ xs ts) (xs.map a.eval)
 |[],[],_,_=>rfl
 |x::xs,t::ts,h,j=>⟨_,_,rfl,oa hT hΓ hH (j x pO),Ee aO4 (λy z=>j y (by simp [z]))⟩
theorem a63 {l m:List qK}{vs us:pU}(h:wR g w l vs) (k:wR g w m us):wR g w (l++m) (vs++us):=by
 induction l generalizing vs with
 |nil=>rw[show vs=[] from h];exact k
 |cons s l ih=>
  obtain⟨v,vs',rfl,z,j⟩:=h;exact⟨v,_,rfl,z,ih j⟩
theorem Ef: ∀{caps:pS}{vs:pU},yI g caps vs->wR g w (lj caps) vs
 |[],_,h=>h
 |(i,o)::caps,_,⟨p,vs',D,z,j⟩=>⟨_,_,z,⟨.inr ⟨rfl,p,D,rfl⟩,trivial⟩,Ef j⟩
end
theorem Eg {P:Program}{o:Oper}{a:Act}{f:FuncId}{fop:Operand}{args:Array Operand}{tys:Array TypeId}(z:o.op= .call ⟨.value fop,args,tys⟩) {caps:pU}(hf:a.eval fop= .func (.func f) #[] caps.toArray)
  (j: ∀args w,(callFunc f args).run P w= .ok (.enter f args) w) {w:pY}{K:Act->pY->Prop}{Q:Exit->Act->pY->Prop}
  (h:Calls P f ((args.toList.map a.eval)++caps).toArray w (λe w'=> ∃v,e= .returned v/\K (a.put o.dst v) w')):o.wp P a w K Q:=by
 unfold Oper.wp;have:(execOp a.eval o).run P w= .ok (.enter f ((args.toList.map a.eval)++caps).toArray) w:=by
  unfold execOp;rw[z];simp only[resolve,hf,Deferred.ofValue,aNi,aNu,aNb,invoke];rw[j];congr 2;apply aOe.1;simp
 rw[this];unfold Oper.upon;refine h.mono λe w' ⟨v,D,hk⟩=>?_;subst D;exact hk
def w6 (g:Gh):Option rW->Option Pl
 |some (.box i _ _ _ o)=>(g.J i).map λp=>⟨p.1,p.2+o,p.3⟩
 |some (.tok k)=>g.J k
 |none=>none
def BS (g:Gh):Option rW->Nat->Option pZ
 |some (.tok k),n=>g.cur k n
 |_,_=>none
def vJ (g:Gh) (ws:List rW):Gh:=⟨g.S,λc=>w6 g ws[c]?,λc n=>BS g ws[c]? n⟩
def al (H:sA) (ws:List rW):rW->qP->Prop
 | .box i u x toks o,.cells t y ts=>qT H i=some (.cells u x toks)/\rR t u x o=some y/\∀q n,(q,n)∈ts->∃k,ws[n]? =some (.tok k)/\xC toks (o+q)=some k/\q<t.cells
 | .tok k,.grow e c m=>qT H k=some (.grow e c m)
 | .tok k,.map s t l=>qT H k=some (.map s t l)/\s.pure=true/\t.pure=true
 | .tok k,.row e t l n=>qT H k=some (.row e t l n)/\t.pure=true
 |_,_=>False
structure H6 (H:sA) (ws:List rW) (L:List qP):Prop where
 len:ws.length=L.length
 ok: ∀(c:Nat) wh b,ws[c]? =some wh->L[c]? =some b->al H ws wh b
 nodup:(sD ws).Nodup
def oe (ws:List rW) (t:Ty) (x y:t.den):Prop:=(t.pure=true/\y=x)\/DM ws t x=some y
def ao (H:sA) (ws:List rW):rW->qP->Prop
 | .box i u x toks o,.cells t y ts=>qT H i=some (.cells u x toks)/\(∃y0,rR t u x o=some y0/\oe ws t y0 y)/\∀q n,(q,n)∈ts->∃k,ws[n]? =some (.tok k)/\xC toks (o+q)=some k/\q<t.cells
 | .tok k,.grow e c m=>qT H k=some (.grow e c m)
 | .tok k,.map s t l=>qT H k=some (.map s t l)/\s.pure=true/\t.pure=true
 | .tok k,.row e t l n=>qT H k=some (.row e t l n)/\t.pure=true
 |_,_=>False
def ap {i o:Nat}: ∀{ws:List rW}{c0:Nat}{c q:Nat},GT i o ws c0=some (c,q)->∃d u x toks oc,c=c0+d/\ws[d]? =some (.box i u x toks oc)/\o=oc+q
 |[],_,_,_,h=>by simp [GT] at h
 | .box j u x toks oc::r,c0,c,q,h=>by
  simp only[GT] at h;split at h
  .rename_i E;simp only[aM6,aNA] at h;obtain⟨rfl,rfl⟩:=h;obtain⟨rfl,z⟩:=E;exact⟨0,u,x,toks,oc,rfl,rfl,pM⟩
  .obtain⟨d,u',x',toks',oc',F,z,D⟩:=ap h;exact⟨d+1,u',x',toks',oc',pM,by simpa using z,D⟩
 | .tok k::r,c0,c,q,h=>by
  simp only[GT] at h;obtain⟨d,u',x',toks',oc',F,z,D⟩:=ap h;exact⟨d+1,u',x',toks',oc',pM,by simpa using z,D⟩
def QZ {i:Nat}: ∀{ws:List rW}{c0 c:Nat},wK i ws c0=some c->∃d,c=c0+d/\ws[d]? =some (.tok i)
 |[],_,_,h=>by simp [wK] at h
 | .tok j::r,c0,c,h=>by
  simp only[wK] at h;split at h
  .rename_i D;simp only[aM6] at h;subst h;subst D;exact⟨0,rfl,rfl⟩
  .obtain⟨d,E,z⟩:=QZ h;exact⟨d+1,pM,by simpa using z⟩
 | .box _ _ _ _ _::r,c0,c,h=>by
  simp only[wK] at h;obtain⟨d,E,z⟩:=QZ h;exact⟨d+1,pM,by simpa using z⟩
def og {α β:Type}{a:Option α}{b:Option β}{p:α×β}(h:LD a b=some p):a=some p.1/\b=some p.2:=by
 cases a<;>cases b<;>simp [LD] at h
 subst h;exact⟨rfl,rfl⟩
def a64 {x y:Option (Nat×pS)}(h:UQ x=some y):y=x/\∀f l,x=some (f,l)->l=[]:=by
 unfold UQ at h;split at h
 .cases h;exact⟨rfl,λ_ _ h=>by cases h⟩
 .cases h;exact⟨rfl,λ_ _ h=>by cases h;rfl⟩
 cases h
def a65 {g g':Gh}{x:Option (Nat×pS)}{cs:pU}(j: ∀f l,x=some (f,l)->l=[]) (h:VA g x cs):VA g' x cs:=by
 cases x with
 |none=>exact h
 |some q=>
  obtain⟨f,l⟩:=q;obtain rfl:=j f l rfl;exact h
def aq {g g':Gh}{w:pY}(G:g'.S=g.S) (f:(t:Ty)->t.den->Option t.den)
  (hp: ∀a b x,f (.pair a b) x=LD (if a.pure=true then some x.1 else f a x.1) (if b.pure=true then some x.2 else f b x.2))
  (O: ∀t x,f (.list t) x=if t.pure=true then some x else none) (hb: ∀x,f .bool x=some x) (hi: ∀k x,f (.int k) x=some x) (M: ∀x,f .str x=some x) (D: ∀x,f .part x=some x) (K: ∀x,f .unit x=some x) (F: ∀x,f .fn x=some x) (z: ∀e t x y cs,f (.rl e t) x=some y->FQ g x cs->FQ g' y cs) (E: ∀x y cs,f .mref x=some y->VB g x cs->VB g' y cs)
  (hr: ∀x y cs,f .ref x=some y->V9 g x cs->V9 g' y cs) (hm: ∀x y cs,f .mp x=some y->LU g x cs->LU g' y cs) (Q: ∀x,f .clo x=UQ x):
  ∀{t:Ty}{x y:t.den}{cs:pU},Rd g w t x cs->f t x=some y->Rd g' w t y cs
 | .bool,_,_,_,r,h=>by rw[hb] at h;cases h;exact r
 | .int _,_,_,_,r,h=>by rw[hi] at h;cases h;exact r
 | .str,_,_,_,r,h=>by rw[M] at h;cases h;exact r
 | .unit,_,_,_,r,h=>by rw[K] at h;cases h;exact r
 | .rl e t,x,y,_,r,h=>z e t x y _ h r
 | .fn,_,_,_,r,h=>by rw[F] at h;cases h;exact r
 | .mref,x,y,_,r,h=>E x y _ h r
 | .part,_,_,_,r,h=>by rw[D] at h;cases h;exact vE G (t:= .part) rfl r
 | .list t,x,y,_,r,h=>by
  rw[O] at h;split at h
  .rename_i j;cases h;exact vE G (t:= .list t) (by simpa[Ty.pure] using j) r
  .cases h
 | .ref,x,y,_,r,h=>hr x y _ h r
 | .clo,x,y,_,r,h=>by
  rw[Q] at h;obtain⟨rfl,I⟩:=a64 h;exact a65 I r
 | .mp,x,y,_,r,h=>hm x y _ h r
 | .pair a b,x,y,_,⟨c1,c2,e,r1,r2⟩,h=>by
  rw[hp] at h;obtain⟨R,I⟩:=og h;refine⟨c1,c2,e,?_,?_⟩
  .split at R
   .rename_i j;exact(aNa R)▸vE G j r1
   exact aq G f hp O hb hi M D K F z E hr hm Q r1 R
  split at I
  .rename_i j;exact(aNa I)▸vE G j r2
  exact aq G f hp O hb hi M D K F z E hr hm Q r2 I
def oh (f:(t:Ty)->t.den->Option t.den)
  (hp: ∀a b x,f (.pair a b) x=LD (if a.pure=true then some x.1 else f a x.1) (if b.pure=true then some x.2 else f b x.2))
  (G: ∀t x,f (.list t) x=if t.pure=true then some x else none) {u:Ty}: ∀{t:Ty}{x y:t.den}{o:Nat}{l:List u.den},f t x=some y->rR (.list u) t x o=some l->rR (.list u) t y o=some l:=by
 intro t
 induction t with
 |pair a b iha ihb=>
  intro x y o l h j;rw[hp] at h;obtain⟨F,E⟩:=og h;have key: ∀z:(Ty.pair a b).den,∀q,rR (.list u) (.pair a b) z q=if q<a.cells then rR (.list u) a z.1 q else rR (.list u) b z.2 (q-a.cells):=by
   intro z q;cases q with
   |zero=>
    conv=>lhs;unfold rR
    rw[aOA aO7,Nat.zero_sub]
   |succ q=>simp [rR]
  rw[key] at j|-;split
  .rename_i D;rw[aM4 D] at j;split at F
   .rw[<-aNa F];exact j
   exact iha F j
  .rename_i D;rw[aM9 D] at j;split at E
   .rw[<-aNa E];exact j
   .exact ihb E j
 |list v=>
  intro x y o l h j;rw[G] at h;split at h
  .cases h;exact j
  .cases h
 |_=>
  intro x y o l h j;cases o with
  |zero=>
   unfold rR at j;split at j
   .rename_i e;cases e
   .cases j
  |succ o=>simp [rR] at j
def a66 {g:Gh}{w:pY}{ws:List rW}{t:Ty}{x y:t.den}{cs:pU}(r:Rd g w t x cs) (h:DM ws t x=some y):Rd (vJ g ws) w t y cs:=by
 refine aq (g:=g) (g':=vJ g ws) rfl (DM ws) (λa b x=>rfl) (λt x=>rfl) (λ_=>rfl) (λ_ _=>rfl) (λ_=>rfl) (λ_=>rfl) (λ_=>rfl) (λ_=>rfl) (λ_ _ x y cs h r=>?_) (λx y cs h r=>?_) (λx y cs h r=>?_) (λx y cs h r=>?_) (λ_=>rfl) r h
 .cases x with
  |none=>cases h;exact r
  |some q=>
   obtain⟨k,n⟩:=q;simp only[DM,Ao] at h;cases j:wK k ws 0 with
   |none=>rw[j] at h;cases h
   |some c=>
    rw[j] at h;cases h;obtain⟨d,rfl,z⟩:=QZ j;obtain⟨v,hv,D⟩:=r;refine⟨v,?_,D⟩;show BS g ws[0+d]? n=_;rw[aNF,z];exact hv
 .cases x with
  |none=>cases h;exact r
  |some q=>
   obtain⟨i,o⟩:=q;simp only[DM,YJ] at h;cases j:GT i o ws 0 with
   |none=>rw[j] at h;cases h
   |some q=>
    obtain⟨c,q⟩:=q;rw[j] at h;cases h;obtain⟨d,u,x,toks,oc,rfl,z,rfl⟩:=ap j;obtain⟨p,hp,hv⟩:=r;refine⟨⟨p.1,p.2+oc,p.3⟩,?_,by have:=hv.1;rwa [<-aNN] at this,hv.2.imp id λhv=>by rw[hv];simp [aNN]⟩;show w6 g ws[0+d]? =_;rw[aNF,z];simp [w6,hp]
 .cases x with
  |none=>cases h;exact r
  |some q=>
   obtain⟨i,o⟩:=q;simp only[DM,YJ] at h;cases j:GT i o ws 0 with
   |none=>rw[j] at h;cases h
   |some q=>
    obtain⟨c,q⟩:=q;rw[j] at h;cases h;obtain⟨d,u,x,toks,oc,rfl,z,rfl⟩:=ap j;obtain⟨p,hp,hv⟩:=r;refine⟨⟨p.1,p.2+oc,p.3⟩,?_,by rw[hv];simp [aNN]⟩;show w6 g ws[0+d]? =_;rw[aNF,z];simp [w6,hp]
 cases x with
 |none=>cases h;exact r
 |some i=>
  simp only[DM,An] at h;cases j:wK i ws 0 with
  |none=>rw[j] at h;cases h
  |some c=>
   rw[j] at h;cases h;obtain⟨d,rfl,z⟩:=QZ j;obtain⟨p,hp,hv⟩:=r;refine⟨p,?_,hv⟩;show w6 g ws[0+d]? =_;rw[aNF,z];exact hp
def a67 {g:Gh}{w:pY}{ws:List rW}{t:Ty}{x y:t.den}{cs:pU}(h:oe ws t x y) (r:Rd g w t x cs):Rd (vJ g ws) w t y cs:=by
 rcases h with⟨hp,rfl⟩ |h
 .exact vE (g:=g) (g':=vJ g ws) rfl hp r
 exact a66 r h
def a68 {ws:List rW}{t u:Ty}{x y:t.den}{o:Nat}{l:List u.den}(h:oe ws t x y) (j:rR (.list u) t x o=some l):rR (.list u) t y o=some l:=by
 rcases h with⟨_,rfl⟩ |h
 .exact j
 exact oh (DM ws) (λ_ _ _=>rfl) (λ_ _=>rfl) h j
structure VN (H:sA) (ws:List rW) (L:List qP):Prop where
 len:ws.length=L.length
 ok: ∀(c:Nat) wh b,ws[c]? =some wh->L[c]? =some b->ao H ws wh b
 nodup:(sD ws).Nodup
def oj: ∀(ws:List rW) (c:Nat),(sD ws)[c]? =(ws[c]?).map rW.id
 |[],c=>by simp [sD]
 |w::ws,0=>rfl
 |w::ws,c+1=>by simpa[sD] using oj ws c
def JA: ∀ws ws':List rW,sD (ws++ws')=sD ws++sD ws'
 |[],_=>rfl
 |w::ws,ws'=>by simp [sD,JA ws ws']
def H7: ∀{i:Nat}{l:pX},BL i l=true↔i∈l
 |i,[]=>by simp [BL]
 |i,j::r=>by
  simp only[BL,aNk];by_cases h:i=j
  .simp [h]
  rw[aM9 h,H7];simp [h]
def au {ws:List rW}(h:(sD ws).Nodup) {c c':Nat}{x y:rW}(D:ws[c]? =some x) (z:ws[c']? =some y) (E:x.id=y.id):c=c':=by
 have G:(sD ws)[c]? =some x.id:=by rw[oj,D];rfl
 have F:(sD ws)[c']? =some x.id:=by rw[oj,z,E];rfl
 obtain⟨l1,e1⟩:=aNl.1 G;obtain⟨l2,e2⟩:=aNl.1 F;have hp:=List.pairwise_iff_getElem.1 h;rcases Nat.lt_trichotomy c c' with j|j|j
 .exact absurd (e1.trans e2.symm) (hp c c' l1 l2 j)
 .exact j
 exact absurd (e2.trans e1.symm) (hp c' c l2 l1 j)
def Eh: ∀{toks:pS}{q k:Nat},xC toks q=some k->(q,k)∈toks
 |[],_,_,h=>by simp [xC] at h
 |(q',k')::r,q,k,h=>by
  simp only[xC] at h;split at h
  .rename_i e;subst e;simp only[aM6] at h;subst h;simp
  exact aNp _ (Eh h)
def a69 {v t:Ty}: ∀{u:Ty}{x:u.den}{o q:Nat}{y:t.den}{l:(Ty.list v).den},rR t u x o=some y->rR (.list v) u x (o+q)=some l->q<t.cells->rR (.list v) t y q=some l:=by
 intro u
 induction u with
 |pair a b iha ihb=>
  intro x o q y l h g D;by_cases E:o=0/\t= .pair a b
  .obtain⟨rfl,rfl⟩:=E;unfold rR at h;rw[aOS rfl] at h;simp only[uF,aM6] at h;subst h;simpa using g
  .have keyh:(if o<a.cells then rR t a x.1 o else rR t b x.2 (o-a.cells))=some y:=by
    cases o with
    |zero=>
     unfold rR at h;rw[aOA (λe=>E ⟨rfl,e.symm⟩)] at h;simpa using h
    |succ o=>simpa[rR] using h
   have keyg: ∀z,rR (.list v) (.pair a b) x z=(if z<a.cells then rR (.list v) a x.1 z else rR (.list v) b x.2 (z-a.cells)):=by
    intro z;cases z with
    |zero=>
     conv=>lhs;unfold rR
     rw[aOA aO7,Nat.zero_sub]
    |succ z=>simp [rR]
   rw[keyg] at g;by_cases j:o<a.cells
   .rw[aM4 j] at keyh;have F:o+t.cells<=a.cells:=by
     have: ∀{u:Ty}{x:u.den}{o:Nat}{y:t.den},rR t u x o=some y->o+t.cells<=u.cells:=by
      intro u
      induction u with
      |pair a b iha ihb=>
       intro x o y h;have key: ∀o,(if o<a.cells then rR t a x.1 o else rR t b x.2 (o-a.cells))=some y->o+t.cells<=a.cells+b.cells:=by
        intro o h;by_cases j:o<a.cells
        .rw[aM4 j] at h;have:=iha h;omega
        rw[aM9 j] at h;have:=ihb h;omega
       cases o with
       |zero=>
        unfold rR at h;split at h
        .rename_i e;subst e;simp
        .exact key 0 aO4
       |succ o=>exact key (o+1) (by simpa[rR] using h)
      |_=>
       intro x o y h;cases o with
       |zero=>
        unfold rR at h;split at h
        .rename_i e;subst e;simp
        .simp at h
       |succ o=>simp [rR] at h
     exact this keyh
    rw[aM4 pM] at g;exact iha keyh g D
   .rw[aM9 j] at keyh;rw[aM9 pM,show o+q-a.cells=o-a.cells+q from by omega] at g;exact ihb keyh g D
 |_=>
  intro x o q y l h g D;cases o with
  |zero=>
   unfold rR at h;split at h
   .rename_i e;subst e;simp only[uF,aM6] at h
    try subst h
    simpa using g
   .simp at h
  |succ o=>simp [rR] at h
def a7a {g:Gh}{w:pY}{H:sA}{ws:List rW}{L:List qP}(hH:sL g w H) (hm:VN H ws L):sL (vJ g ws) w (sZ 0 L):=by
 have wsL: ∀c b,qT (sZ 0 L) c=some b->∃wh,ws[c]? =some wh/\ao H ws wh b:=by
  intro c b h;rw[zC] at h;have Y:c<ws.length:=hm.len▸(aNl.1 h).1;exact⟨ws[c],aNe Y,hm.ok c _ b (aNe Y) h⟩
 have own: ∀c b wh,ws[c]? =some wh->ao H ws wh b->∀bb oo,sB (vJ g ws) c b bb oo->∃blk,qT H wh.id=some blk/\sB g wh.id blk bb oo:=by
  intro c b wh z D bb oo Q;cases wh with
  |box i u x toks off=>
   cases b with
   |cells t y ts=>
    obtain⟨U,⟨y0,R,h3⟩,h4⟩:=D;obtain⟨p,hp,e1,e2,e3⟩:=Q;have F:w6 g ws[c]? =some p:=hp;rw[z] at F;obtain⟨p0,O,rfl⟩:=aNh.1 F;obtain⟨p1,cs,hu,V,_⟩:=hH.blk i _ U;obtain⟨c1,c2,c3,ht,hl,I⟩:=DR V R;have l1:=sU V;have l2:=sU I;rw[ht] at l1;simp only[aM7] at l1;exact⟨_,U,p0,O,e1,by simp at e2;omega,by simp at e3;omega⟩
   |_=>exact D.elim
  |tok k=>
   cases b with
   |grow e cc m=>
    obtain⟨v,hv,hb⟩:=Q;have E:BS g ws[c]? m=some v:=hv;rw[z] at E;exact⟨_,D,v,E,hb⟩
   |map s t l=>
    obtain⟨p,hp,hb⟩:=Q;have F:w6 g ws[c]? =some p:=hp;rw[z] at F;exact⟨_,D.1,p,F,hb⟩
   |row e t l m=>
    obtain⟨v,hv,hb⟩:=Q;have E:BS g ws[c]? m=some v:=hv;rw[z] at E;exact⟨_,D.1,v,E,hb⟩
   |_=>exact D.elim
 refine⟨λc b h=>?_,λc c' b b' bb oo hg U R o1 o2=>?_,hH.sl,hH.tab.1,λc b bb oo h Q=>?_⟩
 rotate_right
 .obtain⟨wh,z,D⟩:=wsL c b h;obtain⟨k1,g1,p1⟩:=own c b wh z D bb oo Q;exact hH.tab.2 _ _ bb oo g1 p1
 .obtain⟨wh,z,D⟩:=wsL c b h;cases wh with
  |box i u x toks off=>
   cases b with
   |cells t y ts=>
    obtain⟨U,⟨y0,R,h3⟩,h4⟩:=D;obtain⟨p,cs,hp,V,hd,X,he,hc⟩:=hH.blk i _ U;obtain⟨c1,c2,c3,rfl,rfl,I⟩:=DR V R;have l1:=sU V;have l2:=sU I;simp only[aM7] at l1;refine⟨⟨p.1,p.2+c1.length,p.3⟩,c2,?_,a67 h3 I,λj v hv=>?_,⟨λj hj=>?_,λh0 s M=>X.2 pM s M⟩,λj hj M=>?_,λq n G=>?_⟩
    .show w6 g ws[c]? =_;rw[z];simp [w6,hp]
    .have:=hd (c1.length+j) v (by
      have hq:=(aNl.1 hv).1;rw[aNd,aNg pM,aNM,aNo hq];exact hv)
     rw[aNN];exact this
    .have:=X.1 (c1.length+j) pM;rw[aNN];exact this
    .exact he (c1.length+j) pM (by rw[<-aNN];exact M)
    .obtain⟨k,k1,k2,k3⟩:=h4 q n G;have Z:(c1.length+q,k)∈toks:=Eh k2;obtain⟨u',l,v,g1,g2,g3⟩:=hc _ _ Z;refine⟨u',l,v,a68 h3 (a69 R g1 k3),?_,?_⟩
     .rw[aNd,aNg pM,aNM,aNo pM] at g2;exact g2
     .show BS g ws[n]? _=_;rw[k1];exact g3
   |_=>exact D.elim
  |tok k=>
   cases b with
   |grow e cc m=>
    have e1:(vJ g ws).cur c=g.cur k:=by
     funext n;show BS g ws[c]? n=_;rw[z];rfl
    obtain⟨v,xs,hv,hr,hn,M⟩:=hH.blk k _ D;exact⟨v,xs,by rw[e1];exact hv,hr,λm G=>by rw[e1];exact hn m G,M⟩
   |map s t l=>
    obtain⟨p,es,cl,hp,O,hh,hM,hS⟩:=hH.blk k _ D.1;refine⟨p,es,cl,?_,O,hh,LX (g:=g) (g':=vJ g ws) rfl D.2.1 D.2.2 hM,hS⟩;show w6 g ws[c]? =_;rw[z];exact hp
   |row e t l m=>
    have e1:(vJ g ws).cur c=g.cur k:=by
     funext n;show BS g ws[c]? n=_;rw[z];rfl
    obtain⟨hl,v,xs,hv,hr,hF,hn,M⟩:=hH.blk k _ D.1;exact⟨hl,v,xs,by rw[e1];exact hv,hr,CV (λ_ _ h=>vE (g:=g) (g':=vJ g ws) rfl D.2 h) hF,λm G=>by rw[e1];exact hn m G,M⟩
   |_=>exact D.elim
 obtain⟨wh,z,D⟩:=wsL c b U;obtain⟨wh',K,ha⟩:=wsL c' b' R;obtain⟨k1,g1,p1⟩:=own c b wh z D bb oo o1;obtain⟨k2,g2,p2⟩:=own c' b' wh' K ha bb oo o2;exact hH.dis wh.id wh'.id k1 k2 bb oo (λe=>hg (au hm.nodup z K e)) g1 g2 p1 p2
def Ei {H:sA}{ws more:List rW}: ∀{wh:rW}{b:qP},al H ws wh b->al H (ws++more) wh b
 | .box _ _ _ _ _,.cells _ _ _,⟨D,z,j⟩=>⟨D,z,λq n h=>let ⟨k,k1,k2⟩:=j q n h;⟨k,by rw[aNo (aNl.1 k1).1];exact k1,k2⟩⟩
 | .box _ _ _ _ _,.grow _ _ _,h=>h.elim
 | .box _ _ _ _ _,.dead,h=>h.elim
 | .box _ _ _ _ _,.row _ _ _ _,h=>h.elim
 | .box _ _ _ _ _,.map _ _ _,h=>h.elim
 | .box _ _ _ _ _,.iter _ _,h=>h.elim
 | .tok _,.iter _ _,h=>h.elim
 | .tok _,.row _ _ _ _,h=>h
 | .tok _,.grow _ _ _,h=>h
 | .tok _,.map _ _ _,h=>h
 | .tok _,.cells _ _ _,h=>h.elim
 | .tok _,.dead,h=>h.elim
def M4 (g:Gh) (w:pY) (ws more:List rW):Le (vJ g ws) w (vJ g (ws++more)) w:=by
 refine⟨λ_ _ h=>h,λ_ _ _=>rfl,λc p h=>?_,λc n v h=>?_⟩
 .have j:w6 g ws[c]? =some p:=h;show w6 g (ws++more)[c]? =some p;cases z:ws[c]? with
  |none=>rw[z] at j;cases j
  |some wh=>rw[aNo (aNl.1 z).1];exact j
 have j:BS g ws[c]? n=some v:=h;show BS g (ws++more)[c]? n=some v;cases z:ws[c]? with
 |none=>rw[z] at j;cases j
 |some wh=>rw[aNo (aNl.1 z).1];exact j
def M5 {g g':Gh}{w w':pY}(h:Le g w g' w'): ∀{ss:List qK}{vs:pU},wR g w ss vs->wR g' w' ss vs
 |[],_,r=>r
 |_::_,_,⟨v,vs',e,r1,r2⟩=>⟨v,vs',e,DQ h r1,M5 h r2⟩
def FR {g:Gh}{w:pY}: ∀{ss:List qK}{vs:pU}{s:qK}{v:pZ},wR g w ss vs->rY g w s v->wR g w (ss++[s]) (vs++[v])
 |[],_,_,_,h,k=>by rw[show _=[] from h];exact⟨_,_,rfl,k,rfl⟩
 |_::_,_,_,_,⟨v,vs',e,r1,r2⟩,k=>⟨v,vs'++_,by rw[e];rfl,r1,FR r2 k⟩
def H6.tok {H:sA}{ws:List rW}{L:List qP}(h:H6 H ws L) {k:Nat}{b0:qP}(hk:al H (ws++[.tok k]) (.tok k) b0) (D:k∉sD ws):H6 H (ws++[.tok k]) (L++[b0]):=by
 refine⟨by simp [h.len],λi wh b j z=>?_,?_⟩
 .by_cases hi:i<ws.length
  .rw[aNo hi] at j;rw[aNo (h.len▸hi)] at z;exact Ei (h.ok i wh b j z)
  rw[aNg pM] at j;rw[aNg (by rw[<-h.len];omega),<-h.len] at z;obtain⟨d,E⟩: ∃d,i-ws.length=d:=⟨_,rfl⟩;rw[E] at j z;cases d with
  |zero=>
   simp only[aNC,aM6] at j z;subst j;subst z;exact hk
  |succ d=>simp at j
 rw[JA];exact List.nodup_append.2 ⟨h.nodup,by simp [sD],λa F b hb=>by
  simp only[sD,rW.id,aNn] at hb;subst hb;intro e;exact D (e▸F)⟩
def Ej: ∀{os:pX}{n q m:Nat},(q,m)∈LB os n->∃j:Nat,os[j]? =some q/\m=n+j
 |[],_,_,_,h=>by simp [LB] at h
 |q'::os,n,q,m,h=>by
  simp only[LB,aNk,aNA] at h;rcases h with⟨rfl,rfl⟩ |h
  .exact⟨0,rfl,rfl⟩
  obtain⟨j,z,D⟩:=Ej h;exact⟨j+1,by simpa using z,pM⟩
def Ek {n:Nat}: ∀{os:pX}{j q:Nat},Q8 n os=true->os[j]? =some q->q<n
 |[],_,_,_,h=>by simp at h
 |q'::os,0,q,h,z=>by
  simp only[Q8,aNf,aNj] at h;simp only[aNC,aM6] at z;exact z▸h.1
 |q'::os,j+1,q,h,z=>by
  simp only[Q8,aNf] at h;exact Ek h.2 aO6
def av {H:sA}{toks:pS}{o:Nat}: ∀{os:pX}{a a':tD},yS H toks o os (some a)=some a'->
  ∃(ks:pX) (bs:List qP),ks.length=os.length/\bs.length=os.length/\a'.args=a.args/\a'.H.reverse=a.H.reverse++bs/\a'.ws.reverse=a.ws.reverse++ks.map rW.tok/\a'.n=a.n+os.length/\
   (∀(j:Nat) q k,os[j]? =some q->ks[j]? =some k->xC toks (o+q)=some k)/\(∀(j:Nat) k b,ks[j]? =some k->bs[j]? =some b->qT H k=some b/\∃e c m,b= .grow e c m)/\(∀k∈ks,k∉sD a.ws.reverse)/\ks.Nodup
 |[],a,a',h=>by
  simp only[yS,aM6] at h;subst h;exact⟨[],[],rfl,rfl,rfl,by simp,by simp,rfl,by simp,by simp,by simp,by simp⟩
 |q::os,a,a',h=>by
  simp only[yS] at h;have none_no: ∀os,yS H toks o os none=none:=by
   intro os
   induction os with
   |nil=>rfl
   |cons q os ih=>
    have:zM H (xC toks (o+q)) none=none:=by
     cases xC toks (o+q) with
     |none=>rfl
     |some k=>simp only[zM];cases qT H k with
      |none=>rfl
      |some b=>cases b<;>rfl
    simp only[yS,this,ih]
  cases hk:xC toks (o+q) with
  |none=>rw[hk] at h;simp only[zM,none_no] at h;cases h
  |some k=>
   rw[hk] at h;simp only[zM] at h;cases hb:qT H k with
   |none=>rw[hb] at h;simp only[CI,none_no] at h;cases h
   |some b=>
    rw[hb] at h;cases b with
    |grow e c m=>
     simp only[CI] at h;by_cases hm:BL k (sD a.ws)=true
     .rw[aM4 hm,none_no] at h;cases h
     .rw[aM9 hm] at h;obtain⟨ks,bs,U,R,Q,K,I,O,M,h8,F,G⟩:=av h;simp only[aNO] at K I F;have E: ∀ws:List rW,∀i,i∈sD ws.reverse↔i∈sD ws:=by
       intro ws i
       induction ws with
       |nil=>simp
       |cons x r ih=>rw[aNO,JA];simp [sD,ih,or_comm]
      refine⟨k::ks,.grow e c m::bs,by simp [U],by simp [R],Q,by rw[K];simp,by rw[I];simp,by rw[O];simp;omega,λj q' k'=>?_,λj k' b'=>?_,λk' D=>?_,?_⟩
      .cases j with
       |zero=>intro e1 e2;simp only[aNC,aM6] at e1 e2;subst e1;subst e2;exact hk
       |succ j=>intro e1 e2;exact M j q' k' (by simpa using e1) (by simpa using e2)
      .cases j with
       |zero=>intro e1 e2;simp only[aNC,aM6] at e1 e2;subst e1;subst e2;exact⟨hb,_,_,_,rfl⟩
       |succ j=>intro e1 e2;exact h8 j k' b' (by simpa using e1) (by simpa using e2)
      .rcases aNk.1 D with rfl|D
       .rw[E];exact λz=>hm (H7.2 z)
       intro z;exact F k' D (by rw[JA];exact List.mem_append_left _ z)
      .refine List.nodup_cons.2 ⟨λz=>F k z (by rw[JA];simp [sD,rW.id]),G⟩
    |cells t y ts=>simp only[CI,none_no] at h;cases h
    |row=>simp only[CI,none_no] at h;cases h
    |map=>simp only[CI,none_no] at h;cases h
    |iter=>simp only[CI,none_no] at h;cases h
    |dead=>simp only[CI,none_no] at h;cases h
def El: ∀ks:pX,sD (ks.map rW.tok)=ks
 |[]=>rfl
 |k::ks=>by simp [sD,rW.id,El ks]
def H6.box {H:sA}{ws:List rW}{L:List qP}(h:H6 H ws L) {t u:Ty}{x:u.den}{y:t.den}{toks:pS}{i o:Nat}{os ks:pX}{bs:List qP}(hi:qT H i=some (.cells u x toks)) (R:rR t u x o=some y) (I:Q8 t.cells os=true) (U:i∉sD ws)
  (Q:ks.length=os.length) (Z:bs.length=os.length) (Y: ∀(j:Nat) q k,os[j]? =some q->ks[j]? =some k->xC toks (o+q)=some k) (h8: ∀(j:Nat) k b,ks[j]? =some k->bs[j]? =some b->qT H k=some b/\∃e c m,b= .grow e c m) (X: ∀k∈ks,k∉sD (ws++[.box i u x toks o])) (M:ks.Nodup):
  H6 H ((ws++[.box i u x toks o])++ks.map rW.tok) ((L++[.cells t y (LB os (ws.length+1))])++bs):=by
 have z:(ws++[rW.box i u x toks o]).length=ws.length+1:=by simp
 have D:(L++[qP.cells t y (LB os (ws.length+1))]).length=ws.length+1:=by simp [h.len]
 refine⟨by simp [h.len,Q,Z],λc wh b e1 e2=>?_,?_⟩
 .by_cases O:c<ws.length
  .rw[aNo pM,aNo O] at e1;rw[aNo pM,aNo (h.len▸O)] at e2;rw[aNd];exact Ei (h.ok c wh b e1 e2)
  by_cases K:c=ws.length
  .subst K;rw[aNo pM,aNg (aNt _),aOJ] at e1;rw[aNo pM,aNg (by rw[h.len];exact aNt _),h.len,aOJ] at e2;simp only[aNC,aM6] at e1 e2;subst e1;subst e2;refine⟨hi,R,λq n hm=>?_⟩;rw[<-h.len] at hm;obtain⟨j,F,rfl⟩:=Ej hm;have E:j<ks.length:=by rw[Q];exact(aNl.1 F).1
   refine⟨ks[j],?_,Y j q _ F (aNe E),Ek I F⟩;rw[aNg pM,z,show ws.length+1+j- (ws.length+1)=j from by omega];simp [E]
  rw[aNg pM,z] at e1;rw[aNg pM,D] at e2;rw[List.getElem?_map] at e1;obtain⟨k,hk,rfl⟩:=aNh.1 e1;obtain⟨V,e,cc,m,rfl⟩:=h8 _ k b hk e2;exact V
 rw[JA,El];refine List.nodup_append.2 ⟨?_,M,λa G b hb e=>X b hb (e▸G)⟩;rw[JA];exact List.nodup_append.2 ⟨h.nodup,by simp [sD],λa G b hb=>by
  simp only[sD,rW.id,aNn] at hb;subst hb;intro e;exact U (e▸G)⟩
def VO (ws:List rW) (i:Nat):i∈sD ws.reverse↔i∈sD ws:=by
 induction ws with
 |nil=>simp
 |cons x r ih=>rw[aNO,JA];simp [sD,ih,or_comm]
structure BT (g:Gh) (w:pY) (H:sA) (vals:pU) (a:tD):Prop where
 n:a.n=a.ws.reverse.length
 m:H6 H a.ws.reverse a.H.reverse
 args:wR (vJ g a.ws.reverse) w a.args.reverse vals
def a7b {g:Gh}{w:pY}{ws:List rW}{t:Ty}(hp:t.pure=true) {x:t.den}{v:pZ}{k:pW}(h:rY g w (.val t x,k) v):rY (vJ g ws) w (.val t x,none) v:=
 ⟨h.1.imp (λ⟨a,cs,e,q⟩=>⟨a,cs,e,vE (g:=g) (g':=vJ g ws) rfl hp q⟩) (λ⟨a,q⟩=>⟨a,vE (g:=g) (g':=vJ g ws) rfl hp q⟩),trivial⟩
def a7c {H:sA}{k:pW}{a b:tD}{l m:List qK}(h:zM H k (some ⟨l,a.H,a.ws,a.n⟩)=some b):b.args=l/\zM H k (some ⟨m,a.H,a.ws,a.n⟩)=some ⟨m,b.H,b.ws,b.n⟩:=by
 cases k with
 |none=>cases h
 |some k=>
  simp only[zM] at h|-;cases hb:qT H k with
  |none=>rw[hb] at h;simp [CI] at h
  |some bl=>
   rw[hb] at h;cases bl with
   |grow e c n=>
    simp only[CI] at h|-;split at h
    .cases h
    .rename_i j;rw[aM9 j];cases h;exact⟨rfl,rfl⟩
   |_=>simp [CI] at h
def Em {H:sA}{toks:pS}{o:Nat}{m:List qK}: ∀{os:pX}{a b:tD},yS H toks o os (some a)=some b->b.args=a.args/\yS H toks o os (some ⟨m,a.H,a.ws,a.n⟩)=some ⟨m,b.H,b.ws,b.n⟩
 |[],a,b,h=>by simp only[yS,aM6] at h;subst h;exact⟨rfl,rfl⟩
 |q::os,a,b,h=>by
  simp only[yS] at h|-;have none_no: ∀os,yS H toks o os none=none:=by
   intro os
   induction os with
   |nil=>rfl
   |cons q os ih=>
    have:zM H (xC toks (o+q)) none=none:=by
     cases xC toks (o+q) with
     |none=>rfl
     |some k=>simp only[zM];cases qT H k with
      |none=>rfl
      |some b=>cases b<;>rfl
    simp only[yS,this,ih]
  cases hm:zM H (xC toks (o+q)) (some a) with
  |none=>rw[hm,none_no] at h;cases h
  |some c=>
   rw[hm] at h;obtain⟨E,D⟩:=a7c (a:=a) (l:=a.args) (m:=m) hm;obtain⟨z,j⟩:=Em (m:=m) h;rw[D];exact⟨z.trans E,j⟩
def a7d {H:sA}{t:Ty}{os:pX}{i o:Nat}{a b:tD}{m:List qK}(h:vZ H t os i o a (qT H i)=some b):vZ H t os i o ⟨m,a.H,a.ws,a.n⟩ (qT H i)=some ⟨(.val .ref (some (a.n,0)),none)::m,b.H,b.ws,b.n⟩:=by
 cases hb:qT H i with
 |none=>rw[hb] at h;simp [vZ] at h
 |some bl=>
  rw[hb] at h;cases bl with
  |cells u x toks=>
   simp only[vZ] at h|-;cases j:rR t u x o with
   |none=>rw[j] at h;simp [FM] at h
   |some y=>
    rw[j] at h;simp only[FM] at h|-;split at h
    .rename_i z;rw[aM4 z];exact(Em (m:=(.val .ref (some (a.n,0)),none)::m) h).2
    .cases h
  |_=>simp [vZ] at h
def En {g:Gh}{i o:Nat}{p:Pl}{v:pZ}: ∀{l:pS}{vs:pU},yI g l vs->g.J i=some p->v= .pointer (some ⟨p.1,p.2+o,none⟩)->yI g (l++[(i,o)]) (vs++[v])
 |[],vs,h,hp,hv=>by rw[show vs=[] from h];exact⟨p,[],hp,by rw[hv];rfl,rfl⟩
 |(_,_)::l,vs,⟨q,vs',D,z,j⟩,hp,hv=>⟨q,vs'++[v],D,by rw[z];rfl,En j hp hv⟩
def Eo {α:Type}: ∀(l acc:List α),zL l acc=l.reverse++acc
 |[],_=>rfl
 |x::l,acc=>by simp [zL,Eo l]
def Ep {g:Gh}{w:pY}{H:sA}(hH:sL g w H) {t:Ty}{os:pX}{i o:Nat}{vals:pU}{a a':tD}(j:BT g w H vals a) {p:Pl}(hp:g.J i=some p) (h:vZ H t os i o a (qT H i)=some a'):
  BT g w H vals ⟨a.args,a'.H,a'.ws,a'.n⟩/\∃more,a'.ws.reverse=a.ws.reverse++more/\a'.args=(.val .ref (some (a.n,0)),none)::a.args/\(vJ g a'.ws.reverse).J a.n=some ⟨p.1,p.2+o,p.3⟩:=by
 cases hb:qT H i with
 |none=>rw[hb] at h;simp [vZ] at h
 |some b=>
  rw[hb] at h;cases b with
  |cells u x toks=>
   simp only[vZ] at h;cases E:rR t u x o with
   |none=>rw[E] at h;simp [FM] at h
   |some y=>
    rw[E] at h;simp only[FM] at h;split at h
    .rename_i F;simp only[aNf,aNS] at F;obtain⟨ks,bs,R,V,Q,O,D,M,U,h8,K,I⟩:=av h;simp only[aNO] at Q O D M K;have G:i∉sD a.ws.reverse:=λz=>by
      have:=H7.2 ((VO _ _).1 z);rw[F.2] at this;cases this
     have e5:a'.ws.reverse=a.ws.reverse++([rW.box i u x toks o]++ks.map rW.tok):=by rw[D];simp only[aNd]
     refine⟨⟨by rw[M];simp only;rw[D,j.n];simp [R];omega,?_,?_⟩,_,e5,Q,?_⟩
     .simp only;rw[O,D,j.n];exact j.m.box hb E F.1 G R V U h8 K I
     .simp only;rw[e5];exact M5 (M4 g w _ _) j.args
     show w6 g a'.ws.reverse[a.n]? =_;rw[e5,j.n,aNg (aNt _),aOJ];show (g.J i).map _=_;rw[hp];rfl
    .cases h
  |grow=>simp [vZ] at h
  |row=>simp [vZ] at h
  |map=>simp [vZ] at h
  |iter=>simp [vZ] at h
  |dead=>simp [vZ] at h
def Er {H:sA}{f:FuncId}{args0:List qK}: ∀{ks:List (Ty×pX)}{cs ids:pS}{a a':tD},xU H f args0 ks cs ids (some a)=some a'->∃s more,a'.args=s::args0/\a'.ws.reverse=a.ws.reverse++more
 |[],[],ids,a,a',h=>by
  simp only[xU,aM6] at h;subst h;exact⟨_,[],rfl,by simp⟩
 |[],_::_,_,_,_,h=>by simp [xU] at h
 |_::_,[],_,_,_,h=>by simp [xU] at h
 |(t,os)::ks,(i,o)::cs,ids,a,a',h=>by
  simp only[xU] at h;cases hb:vZ H t os i o a (qT H i) with
  |none=>rw[hb] at h;cases ks<;>cases cs<;>simp [xU] at h
  |some b=>
   rw[hb] at h;obtain⟨s,more,E,D⟩:=Er h;obtain⟨more0,z⟩: ∃more0,b.ws.reverse=a.ws.reverse++more0:=by
    unfold vZ at hb;split at hb
    .unfold FM at hb;split at hb
     .split at hb
      .obtain⟨ks,bs,_,_,_,_,j,_⟩:=av hb;exact⟨_,by rw[j];simp only[aNO];exact aNd ..⟩
      cases hb
     cases hb
    cases hb
   exact⟨s,more0++more,E,by rw[D,z,aNd]⟩
def Es {g:Gh}{w:pY}{H:sA}(hH:sL g w H) {f:FuncId}{args0:List qK}{vals:pU}: ∀{ks:List (Ty×pX)}{cs:pS}{ids:pS}{vs us:pU}{a a':tD},BT g w H vals ⟨args0,a.H,a.ws,a.n⟩->
  yI g cs vs->yI (vJ g a.ws.reverse) ids.reverse us->xU H f args0 ks cs ids (some a)=some a'->
  BT g w H vals ⟨args0,a'.H,a'.ws,a'.n⟩/\∃ids',a'.args=(.val .clo (some (f,ids')),none)::args0/\(∃more,a'.ws.reverse=a.ws.reverse++more)/\yI (vJ g a'.ws.reverse) ids' (us++vs)
 |[],[],ids,vs,us,a,a',D,hv,z,h=>by
  simp only[xU,Eo,List.append_nil,aM6] at h;subst h;rw[show vs=[] from hv,List.append_nil];exact⟨D,_,rfl,⟨[],by simp⟩,z⟩
 |[],_::_,_,_,_,_,_,_,_,_,h=>by simp [xU] at h
 |_::_,[],_,_,_,_,_,_,_,_,h=>by simp [xU] at h
 |(t,os)::ks,(i,o)::cs,ids,vs,us,a,a',D,⟨p,vs',hp,F,E⟩,z,h=>by
  simp only[xU] at h;cases hb:vZ H t os i o a (qT H i) with
  |none=>rw[hb] at h;cases ks<;>cases cs<;>simp [xU] at h
  |some b=>
   rw[hb] at h;have I:vZ H t os i o ⟨args0,a.H,a.ws,a.n⟩ (qT H i)=some ⟨(.val .ref (some (a.n,0)),none)::args0,b.H,b.ws,b.n⟩:=a7d hb;obtain⟨q1,more,q2,q3,q4⟩:=Ep hH D hp I;simp only at q1 q2 q3 q4;have j:=M4 g w a.ws.reverse more;rw[<-q2] at j;have G:yI (vJ g b.ws.reverse) ((a.n,0)::ids).reverse (us++[.pointer (some ⟨p.1,p.2+o,none⟩)]):=by
    simp only[aNO];exact En (ma j.J z) q4 pO
   obtain⟨z1,ids',z2,⟨more',z3⟩,z4⟩:=Es hH (a:=b) q1 E G h;refine⟨z1,ids',z2,⟨more++more',by rw[z3,q2,aNd]⟩,?_⟩;rw[F];rw[aNd] at z4;exact z4
def Et {g:Gh}{w:pY}{H:sA}(hH:sL g w H) {p:PK}{s:qK}{v:pZ}{vals:pU}{a a':tD}(j:BT g w H vals a) (G:rY g w s v) (h:xV H a p s=some a'):BT g w H (vals++[v]) a':=by
 unfold xV at h;split at h
 .rename_i f k;simp only[YH,aM6] at h;subst h;refine⟨j.n,j.m,?_⟩;simp only[aNO];refine FR j.args ⟨?_,trivial⟩;rcases G.1 with⟨F,_⟩ |⟨F,vs,I,K⟩
  .cases F
  rw[show vs=[] from I] at K;exact .inr ⟨rfl,[],rfl,K⟩
 .rename_i t x k _;simp only[YG] at h;split at h
  .rename_i hp;simp only[aM6] at h;subst h;refine⟨j.n,j.m,?_⟩;simp only[aNO];exact FR j.args (a7b hp G)
  cases h
 .simp only[YI,aM6] at h;subst h;refine⟨j.n,j.m,?_⟩;simp only[aNO];exact FR j.args ⟨G.1,trivial⟩
 .rename_i t x k;cases hb:qT H k with
  |none=>rw[hb] at h;simp [CK] at h
  |some b=>
   rw[hb] at h;cases b with
   |grow e c m=>
    simp only[CK] at h;split at h
    .rename_i D;simp only[aNf,aNS] at D;simp only[aM6] at h;subst h;have E:k∉sD a.ws.reverse:=λz=>by
      have:=H7.2 ((VO _ _).1 z);rw[D.2] at this;cases this
     refine⟨by simp [j.n],by simpa using j.m.tok (b0:= .grow e c m) hb E,?_⟩;simp only[aNO];refine FR (M5 (M4 g w _ _) j.args) (ak (g:=g) (g':=vJ g (a.ws.reverse++[.tok k])) (k':=some a.n) rfl D.1 (λ_ _=>⟨_,rfl⟩) G (λc' e1=>?_) (λe1=>by cases e1));cases e1;refine⟨_,rfl,λn u Q=>?_⟩;show BS g (a.ws.reverse++[rW.tok k])[a.n]? n=some u;rw[j.n,aNg (aNt _),aOJ];exact Q
    .cases h
   |cells=>simp [CK] at h
   |row=>simp [CK] at h
   |map=>simp [CK] at h
   |iter=>simp [CK] at h
   |dead=>simp [CK] at h
 .rename_i t os i o k;obtain⟨p,hp,hv⟩:=zB G.1;obtain⟨F,more,I,K,R⟩:=Ep hH j hp h;refine⟨F.n,F.m,?_⟩;rw[K];simp only[aNO];exact FR F.args ⟨.inr ⟨rfl,_,R,by rw[hv];rfl⟩,trivial⟩
 .rename_i i k;cases hb:qT H i with
  |none=>rw[hb] at h;simp [CL] at h
  |some b=>
   rw[hb] at h;cases b with
   |map s t l=>
    simp only[CL] at h;split at h
    .rename_i D;simp only[aNf,aNS] at D;simp only[aM6] at h;subst h;have E:i∉sD a.ws.reverse:=λz=>by
      have:=H7.2 ((VO _ _).1 z);rw[D.2] at this;cases this
     refine⟨by simp [j.n],by simpa using j.m.tok (b0:= .map s t l) ⟨hb,D.1.1,D.1.2⟩ E,?_⟩;simp only[aNO];obtain⟨p,hp,hv⟩: ∃p,g.J i=some p/\v= .map (some p.1):=by
      obtain⟨p,F,e⟩:=B2 rfl G.1;simp only[aNW,and_true] at e;exact⟨p,F,e⟩
     refine FR (M5 (M4 g w _ _) j.args) ⟨.inr ⟨rfl,p,?_,by rw[hv]⟩,trivial⟩;show w6 g (a.ws.reverse++[rW.tok i])[a.n]? =_;rw[j.n,aNg (aNt _),aOJ];exact hp
    .cases h
   |cells=>simp [CL] at h
   |row=>simp [CL] at h
   |grow=>simp [CL] at h
   |iter=>simp [CL] at h
   |dead=>simp [CL] at h
 .rename_i i k;cases hb:qT H i with
  |none=>rw[hb] at h;simp [CM] at h
  |some b=>
   rw[hb] at h;cases b with
   |map s t l=>
    simp only[CM] at h;split at h
    .rename_i D;simp only[aNf,aNS] at D;simp only[aM6] at h;subst h;have E:i∉sD a.ws.reverse:=λz=>by
      have:=H7.2 ((VO _ _).1 z);rw[D.2] at this;cases this
     refine⟨by simp [j.n],by simpa using j.m.tok (b0:= .map s t l) ⟨hb,D.1.1,D.1.2⟩ E,?_⟩;simp only[aNO];obtain⟨p,hp,hv⟩: ∃p,g.J i=some p/\v= .agg #[.map (some p.1)]:=by
      obtain⟨cs,rfl,c1,c2,rfl,⟨p,F,e⟩,I⟩:=DS rfl G.1;exact⟨p,F,by rw[e,show c2=[] from I];rfl⟩
     refine FR (M5 (M4 g w _ _) j.args) ⟨.inl ⟨rfl,[.map (some p.1)],by rw[hv],[.map (some p.1)],[],rfl,⟨p,?_,rfl⟩,rfl⟩,trivial⟩;show w6 g (a.ws.reverse++[rW.tok i])[a.n]? =_;rw[j.n,aNg (aNt _),aOJ];exact hp
    .cases h
   |cells=>simp [CM] at h
   |row=>simp [CM] at h
   |grow=>simp [CM] at h
   |iter=>simp [CM] at h
   |dead=>simp [CM] at h
 .rename_i k n k';cases hb:qT H k with
  |none=>rw[hb] at h;simp [CN] at h
  |some b=>
   rw[hb] at h;cases b with
   |row e t l m=>
    simp only[CN] at h;split at h
    .rename_i D;simp only[aNf,aNS] at D;simp only[aM6] at h;subst h;have E:k∉sD a.ws.reverse:=λz=>by
      have:=H7.2 ((VO _ _).1 z);rw[D.2] at this;cases this
     refine⟨by simp [j.n],by simpa using j.m.tok (b0:= .row e t l m) ⟨hb,D.1⟩ E,?_⟩;simp only[aNO];obtain⟨F,I⟩:=G.1;refine FR (M5 (M4 g w _ _) j.args) ⟨⟨?_,I⟩,trivial⟩;show BS g (a.ws.reverse++[rW.tok k])[a.n]? n=_;rw[j.n,aNg (aNt _),aOJ];exact F
    .cases h
   |cells=>simp [CN] at h
   |grow=>simp [CN] at h
   |map=>simp [CN] at h
   |iter=>simp [CN] at h
   |dead=>simp [CN] at h
 .rename_i ks f cs k';obtain⟨vs,O,M⟩: ∃vs,yI g cs vs/\v= .func (.func f) #[] vs.toArray:=by
   rcases G.1 with⟨F,_⟩ |⟨_,vs,I,K⟩
   .cases F
   simp only[aNW,and_true] at K;exact⟨vs,I,K⟩
  obtain⟨z1,ids',z2,_,z4⟩:=Es hH (ids:=[]) (a:=a) (us:=[]) j O rfl h;refine⟨z1.n,z1.m,?_⟩;rw[z2];simp only[aNO];exact FR z1.args ⟨.inr ⟨rfl,vs,by simpa using z4,by rw[M]⟩,trivial⟩
 cases h
def Eu {g:Gh}{w:pY}{H:sA}(hH:sL g w H): ∀{ps:List PK}{ss:List qK}{vs vals:pU}{a a':tD},BT g w H vals a->wR g w ss vs->xW H ps ss (some a)=some a'->BT g w H (vals++vs) a'
 |[],[],vs,vals,a,a',z,D,h=>by
  simp only[xW,aM6] at h;subst h;rw[show vs=[] from D,List.append_nil];exact z
 |p::ps,s::ss,vs,vals,a,a',z,⟨v,vs',e,F,E⟩,h=>by
  simp only[xW] at h;cases j:xV H a p s with
  |none=>rw[j] at h;cases ps<;>cases ss<;>simp [xW] at h
  |some a1=>
   rw[j] at h;have:=Eu hH (Et hH z F j) E h;rw[e];simpa using this
 |[],_::_,_,_,_,_,_,_,h=>by simp [xW] at h
 |_::_,[],_,_,_,_,_,_,h=>by simp [xW] at h
def BT.nil (g:Gh) (w:pY) (H:sA):BT g w H [] ⟨[],[],[],0⟩:=
 ⟨rfl,⟨rfl,λc wh b h _=>by simp at h,by simp [sD]⟩,rfl⟩
def Ew: ∀(l:List qP) (n:Nat),IW l n=l[n]?
 |[],_=>by simp [IW]
 |_::_,0=>rfl
 |_::r,n+1=>by simpa[IW] using Ew r n
def a7e {g:Gh}{w:pY}: ∀{t:Ty}{x:t.den}{cs:pU}{o:Nat}{y:pV},Rd g w t x cs->GS t x o=some y->∃cs',FQ g y cs':=by
 intro t
 induction t with
 |pair a b iha ihb=>
  intro x cs o y r h;obtain⟨c1,c2,_,r1,r2⟩:=r;simp only[GS] at h;split at h
  .exact iha r1 h
  .exact ihb r2 h
 |rl e u=>
  intro x cs o y r h;cases o with
  |zero=>simp only[GS,aM6] at h;subst h;exact⟨cs,r⟩
  |succ o=>simp [GS] at h
 |_=>intro x cs o y r h;cases o<;>simp [GS] at h
def a7f {g:Gh}{w:pY}{H:sA}(hH:sL g w H) {vals:pU}{a:tD}(Q:BT g w H vals a) (c q:Nat) (pk:PK): ∃v,rY g w (LC q pk (IW a.H c)) v:=by
 rw[Ew];have any: ∃v,rY g w (.any,none) v:=⟨undef,trivial,trivial⟩;cases hb:a.H[c]? with
 |none=>cases pk<;>exact any
 |some b=>
  cases b with
  |cells t y ts=>
   have X:c<a.H.length:=(aNl.1 hb).1;have K:a.H.reverse[a.H.length-1-c]? =some (.cells t y ts):=by
    rw[List.getElem?_reverse pM,show a.H.length-1- (a.H.length-1-c)=c by omega];exact hb
   obtain⟨wh,G⟩: ∃wh,a.ws.reverse[a.H.length-1-c]? =some wh:=by
    have O:=Q.m.len;simp only[List.length_reverse] at O;exact⟨_,aNe (by rw[List.length_reverse];omega)⟩
   have M:=Q.m.ok _ wh _ G K;cases wh with
   |tok k=>exact M.elim
   |box i u x toks off=>
    obtain⟨V,U,_⟩:=M;obtain⟨p,cs,hp,R,_⟩:=hH.blk i _ V;obtain⟨c1,c2,c3,Y,O,E⟩:=DR R U;cases pk with
    |p t' os=>
     simp only[LC];cases F:rR .ref t y q with
     |none=>exact any
     |some z=>
      cases z with
      |none=>exact any
      |some z=>
       obtain⟨d1,d2,d3,_,_,j⟩:=DR E F;obtain⟨p',D,e⟩:=j;exact⟨_,.inr ⟨rfl,p',D,rfl⟩,trivial⟩
    |m=>
     simp only[LC];cases F:rR .mp t y q with
     |none=>exact any
     |some z=>
      cases z with
      |none=>exact any
      |some z=>
       obtain⟨d1,d2,d3,_,_,j⟩:=DR E F;obtain⟨p',D,e⟩:=j;exact⟨_,.inr ⟨rfl,p',D,rfl⟩,trivial⟩
    |v=>exact any
    |own=>exact any
    |s=>exact any
    |f ks=>exact any
    |r=>
     simp only[LC];cases F:GS t y q with
     |none=>exact any
     |some z=>
      cases z with
      |none=>exact any
      |some z=>
       obtain⟨cs',j⟩:=a7e E F;obtain⟨v,hv,_,I⟩:=j;exact⟨v,⟨hv,I⟩,trivial⟩
  |_=>cases pk<;>exact any
def Ey {g:Gh}{w:pY}{H:sA}(hH:sL g w H) {vals:pU}: ∀{gs:List (Nat×Nat×PK)}{a a':tD},BT g w H vals a->BM H gs (some a)=some a'->BT g w H vals a'
 |[],a,a',z,h=>by
  simp only[BM,aM6] at h;subst h;exact z
 |(c,q,pk)::gs,a,a',z,h=>by
  simp only[BM] at h;obtain⟨v,hv⟩:=a7f hH z (a.n-1-c) q pk;cases hp:xV H a pk (LC q pk (IW a.H (a.n-1-c))) with
  |none=>
   rw[hp] at h;simp only[Q9] at h;cases gs<;>simp [BM] at h
  |some b=>
   rw[hp] at h;simp only[Q9] at h;have hb:=Et hH z hv hp;refine Ey hH (a:=⟨a.args,b.H,b.ws,b.n⟩) ⟨hb.n,hb.m,?_⟩ h;obtain⟨s,more,e1,e2⟩: ∃s more,b.args=s::a.args/\b.ws.reverse=a.ws.reverse++more:=by
    have j:=hp;unfold xV at j;split at j
    .simp only[YH,aM6] at j;subst j;exact⟨_,[],rfl,by simp⟩
    .simp only[YG] at j;split at j
     .simp only[aM6] at j;subst j;exact⟨_,[],rfl,by simp⟩
     cases j
    .simp only[YI,aM6] at j;subst j;exact⟨_,[],rfl,by simp⟩
    .unfold CK at j;split at j
     .split at j
      .simp only[aM6] at j;subst j;exact⟨_,[_],rfl,aNO ..⟩
      cases j
     cases j
    .unfold vZ at j;split at j
     .unfold FM at j;split at j
      .split at j
       .obtain⟨ks,bs,_,_,E,_,D,_⟩:=av j;exact⟨_,_,E,by rw[D];simp only[aNO];exact aNd ..⟩
       cases j
      cases j
     cases j
    .unfold CL at j;split at j
     .split at j
      .simp only[aM6] at j;subst j;exact⟨_,[_],rfl,aNO ..⟩
      cases j
     cases j
    .unfold CM at j;split at j
     .split at j
      .simp only[aM6] at j;subst j;exact⟨_,[_],rfl,aNO ..⟩
      cases j
     cases j
    .unfold CN at j;split at j
     .split at j
      .simp only[aM6] at j;subst j;exact⟨_,[_],rfl,aNO ..⟩
      cases j
     cases j
    .exact Er j
    cases j
   rw[e2];exact M5 (M4 g w _ _) z.args
def a7g {b:Option qP}{l:Option (List qP)}{r:List qP}(h:jo b l=some r): ∃b' l',b=some b'/\l=some l'/\r=b'::l':=by
 cases b<;>cases l<;>simp [jo] at h
 exact⟨_,_,rfl,rfl,h.symm⟩
def Ez {W:List rW}: ∀{L0 L:List qP},IX W L0=some L->L.length=L0.length/\∀(c:Nat) (b:qP),L[c]? =some b->∃b0,L0[c]? =some b0/\YK W b0=some b
 |[],L,h=>by
  simp only[IX,aM6] at h;subst h;exact⟨rfl,λc b h=>by simp at h⟩
 |b0::L0,L,h=>by
  simp only[IX] at h;obtain⟨b',l',D,z,rfl⟩:=a7g h;obtain⟨k1,k2⟩:=Ez z;refine⟨by simp [k1],λc b j=>?_⟩;cases c with
  |zero=>simp only[aNC,aM6] at j;subst j;exact⟨b0,rfl,D⟩
  |succ c=>obtain⟨b1,q1,q2⟩:=k2 c b aO5;exact⟨b1,by simpa using q1,q2⟩
def H6.ren {H:sA}{ws:List rW}{L0 L:List qP}(h:H6 H ws L0) (K:IX ws L0=some L):VN H ws L:=by
 obtain⟨k1,k2⟩:=Ez K;refine⟨h.len.trans k1.symm,λc wh b I hb=>?_,h.nodup⟩;obtain⟨b0,q1,q2⟩:=k2 c b hb;have j:=h.ok c wh b0 I q1;cases b0 with
 |cells t y ts=>
  cases wh with
  |tok k=>exact j.elim
  |box i u x toks o=>
   obtain⟨G,F,E⟩:=j;simp only[YK] at q2;split at q2
   .rename_i hp;obtain rfl:=aNa q2;exact⟨G,⟨y,F,.inl ⟨hp,rfl⟩⟩,E⟩
   .cases D:DM ws t y with
    |none=>rw[D] at q2;cases q2
    |some z=>
     rw[D] at q2;obtain rfl:=aNa q2;exact⟨G,⟨y,F,.inr D⟩,E⟩
 |_=>
  simp only[YK,aM6] at q2;subst q2;cases wh<;>exact j
theorem AA: ∀(W:List rW) (c:Nat),AW W c=W[c]?
  |[],c=>by simp [AW]
  |_::_,0=>rfl
  |_::W,c+1=>by simpa[AW] using AA W c
theorem Fa: ∀L:List qP,w4 L=L.length
  |[]=>rfl
  |_::L=>by simp [w4,Fa L]
theorem Fb {α:Type}: ∀(l acc:List α),zL l acc=l.reverse++acc
  |[],_=>rfl
  |x::l,acc=>by simp [zL,Fb l]
theorem om {a:Option (Nat×qP)}{b:Option (List (Nat×qP))}{l:List (Nat×qP)}(h:UR a b=some l): ∃q r,a=some q/\b=some r/\l=q::r:=by
  cases a<;>cases b<;>simp [UR] at h
  exact⟨_,_,rfl,rfl,h.symm⟩
def JB (base n:Nat) (W ws:List rW) (R:List qP) (c0:Nat) (id:Nat) (b:qP):Prop:=
  (∃(c:Nat) (i:Nat) (u:Ty) (x:u.den) (toks:pS) (o:Nat) (b0:qP),ws[c]? =some (.box i u x toks o)/\id=i/\R[c]? =some b0/\xX base n i o W u x toks b0=some (i,b))\/
  (∃(c k:Nat) (b0:qP),ws[c]? =some (.tok k)/\id=k/\R[c]? =some b0/\A6 k b0=some (k,b))\/
  (∃(c:Nat) (b0:qP),R[c]? =some b0/\id=base+(c0+c)/\ws[c]? =none/\ES base n (c0+c) W b0=some (id,b))
theorem JB.succ {base n:Nat}{W:List rW}{wh:rW}{ws:List rW}{b0:qP}{R:List qP}{c0 id:Nat}{b:qP}(h:JB base n W ws R (c0+1) id b):JB base n W (wh::ws) (b0::R) c0 id b:=by
  rcases h with⟨c,i,u,x,toks,o,b1,E,D,z,j⟩ |⟨c,k,b1,E,D,z,j⟩ |⟨c,b1,E,D,z,j⟩
  .exact .inl ⟨c+1,i,u,x,toks,o,b1,by simpa using E,D,by simpa using z,j⟩
  .exact .inr (.inl ⟨c+1,k,b1,by simpa using E,D,by simpa using z,j⟩)
  exact .inr (.inr ⟨c+1,b1,by simpa using E,by rw[D];omega,by simpa using z,by rw[show c0+(c+1)=c0+1+c from by omega];exact j⟩)
theorem JB.succ0 {base n:Nat}{W:List rW}{b0:qP}{R:List qP}{c0 id:Nat}{b:qP}(h:JB base n W [] R (c0+1) id b):JB base n W [] (b0::R) c0 id b:=by
  rcases h with⟨c,i,u,x,toks,o,b1,j,_⟩ |⟨c,k,b1,j,_⟩ |⟨c,b1,j,D,E,z⟩
  .simp at j
  .simp at j
  exact .inr (.inr ⟨c+1,b1,by simpa using j,by rw[D];omega,by simp,by rw[show c0+(c+1)=c0+1+c from by omega];exact z⟩)
theorem Fc {i:Nat}{t:Ty}{ts:pS}{o:Option t.den}{q:Nat×qP}(h:As i t ts o=some q): ∃y,o=some y/\q=(i,.cells t y ts):=by
  cases o with
  |none=>cases h
  |some y=>exact⟨y,rfl,(aNa h).symm⟩
theorem a7h {base n c:Nat}{W:List rW}{b:qP}{q:Nat×qP}(h:ES base n c W b=some q):q.1=base+c:=by
  cases b<;>simp only[ES] at h
  · split at h
    .exact(aNa h)▸rfl
    obtain⟨y,_,rfl⟩:=Fc h;rfl
  .exact(aNa h)▸rfl
  · split at h
    .exact(aNa h)▸rfl
    cases h
  · split at h
    .exact(aNa h)▸rfl
    cases h
  .cases h
  exact(aNa h)▸rfl
def bY (base n:Nat) (W:List rW) (t:Ty) (x y:t.den):Prop:=(t.pure=true/\y=x)\/CO base n W t x=some y
theorem ov {base n i o:Nat}{W:List rW}{u t:Ty}{x:u.den}{y:t.den}{toks ts:pS}{q:Nat×qP}(h:xX base n i o W u x toks (.cells t y ts)=some q):
    ∃y2 z,bY base n W t y y2/\sW t y2 u x o=some z/\q=(i,.cells u z (rJ (ER base n W o ts) (vV toks o t.cells))):=by
  simp only[xX] at h;split at h
  · rename_i hp
    cases j:sW t y u x o with
    |none=>rw[j] at h;simp [YM] at h
    |some z=>rw[j] at h;exact⟨y,z,.inl ⟨hp,rfl⟩,j,(aNa h).symm⟩
  cases D:CO base n W t y with
  |none=>rw[D] at h;cases h
  | some y2=>
    rw[D] at h;simp only[At] at h;cases j:sW t y2 u x o with
    |none=>rw[j] at h;simp [YM] at h
    |some z=>rw[j] at h;exact⟨y2,z,.inr D,j,(aNa h).symm⟩
theorem a7i {k:Nat}{b:qP}{q:Nat×qP}(h:A6 k b=some q):q.1=k:=by
  cases b<;>simp only[A6] at h
  .cases h
  .exact(aNa h)▸rfl
  · split at h
    .exact(aNa h)▸rfl
    cases h
  · split at h
    .exact(aNa h)▸rfl
    cases h
  .cases h
  exact(aNa h)▸rfl
theorem a7j {base n i o:Nat}{W:List rW}{u:Ty}{x:u.den}{toks:pS}{b:qP}{q:Nat×qP}(h:xX base n i o W u x toks b=some q):q.1=i:=by
  cases b with
  |cells t y ts=>obtain⟨y2,z,_,_,rfl⟩:=ov h;rfl
  |grow=>simp [xX] at h
  |row=>simp [xX] at h
  |map=>simp [xX] at h
  |iter=>simp [xX] at h
  |dead=>simp only[xX,aM6] at h;exact h▸rfl
theorem R0 {base n:Nat}{W:List rW}: ∀{ws:List rW}{R:List qP}{c0:Nat}{upd:List (Nat×qP)},BN base n W c0 ws R=some upd->
    ws.length<=R.length/\(∀id b,qT upd id=some b->JB base n W ws R c0 id b)/\(∀id,id∈qV upd->∃b,qT upd id=some b)/\
    (∀(c:Nat) wh,ws[c]? =some wh->wh.id∈qV upd)/\(∀(c:Nat) b,R[c]? =some b->ws[c]? =none->base+(c0+c)∈qV upd)
  | [],[],_,upd,h=>by
    simp only[BN,aM6] at h;subst h;exact⟨aNt _,λ_ _ h=>by simp [qT] at h,λ_ h=>by simp [qV] at h,λ_ _ h=>by simp at h,λ_ _ h=>by simp at h⟩
  | [],b::R,c0,upd,h=>by
    simp only[BN] at h;obtain⟨q,r,E,G,rfl⟩:=om h;obtain⟨k1,k2,k3,k4,k5⟩:=R0 G;have D:=a7h E;obtain⟨q1,q2⟩:=q;simp only at D;subst D;refine⟨by simp,λid b' j=>?_,λid hi=>?_,λc wh z=>by simp at z,λc b' hb F=>?_⟩
    · simp only[qT] at j
      split at j
      · rename_i e
        obtain rfl:=aNa j;subst e;exact .inr (.inr ⟨0,b,rfl,rfl,by simp,E⟩)
      exact(k2 id b' j).succ0
    · simp only[qT]
      by_cases e:base+c0=id
      .rw[aM4 e];exact⟨_,rfl⟩
      rw[aM9 e]
      simp only[qV,aNk] at hi;exact k3 id (hi.resolve_left (Ne.symm e))
    · cases c with
      |zero=>simp [qV]
      | succ c=>
        have:=k5 c b' aPe pO;simp only[qV,aNk];right;rw[show base+(c0+(c+1))=base+(c0+1+c) from by omega];exact this
  | .box i u x toks o::ws,[],c0,upd,h=>by simp [BN] at h
  | .tok k::ws,[],c0,upd,h=>by simp [BN] at h
  | .box i u x toks o::ws,b::R,c0,upd,h=>by
    simp only[BN] at h;obtain⟨q,r,E,G,rfl⟩:=om h;obtain⟨k1,k2,k3,k4,k5⟩:=R0 G;have D:=a7j E;obtain⟨q1,q2⟩:=q;simp only at D;subst D;refine⟨by simp;omega,λid b' j=>?_,λid hi=>?_,λc wh z=>?_,λc b' hb F=>?_⟩
    · simp only[qT] at j
      split at j
      · rename_i e
        obtain rfl:=aNa j;subst e;exact .inl ⟨0,q1,u,x,toks,o,b,rfl,rfl,rfl,E⟩
      exact(k2 id b' j).succ
    · simp only[qT]
      by_cases e:q1=id
      .rw[aM4 e];exact⟨_,rfl⟩
      rw[aM9 e]
      simp only[qV,aNk] at hi;exact k3 id (hi.resolve_left (Ne.symm e))
    · cases c with
      |zero=>simp only[aNC,aM6] at z;subst z;simp [qV,rW.id]
      |succ c=>simp only[qV,aNk];exact .inr (k4 c wh aO6)
    · cases c with
      |zero=>simp at F
      | succ c=>
        have:=k5 c b' aPe aPd;simp only[qV,aNk];right;rw[show base+(c0+(c+1))=base+(c0+1+c) from by omega];exact this
  | .tok k::ws,b::R,c0,upd,h=>by
    simp only[BN] at h;obtain⟨q,r,E,G,rfl⟩:=om h;obtain⟨k1,k2,k3,k4,k5⟩:=R0 G;have D:=a7i E;obtain⟨q1,q2⟩:=q;simp only at D;subst D;refine⟨by simp;omega,λid b' j=>?_,λid hi=>?_,λc wh z=>?_,λc b' hb F=>?_⟩
    · simp only[qT] at j
      split at j
      · rename_i e
        obtain rfl:=aNa j;subst e;exact .inr (.inl ⟨0,q1,b,rfl,rfl,rfl,E⟩)
      exact(k2 id b' j).succ
    · simp only[qT]
      by_cases e:q1=id
      .rw[aM4 e];exact⟨_,rfl⟩
      rw[aM9 e]
      simp only[qV,aNk] at hi;exact k3 id (hi.resolve_left (Ne.symm e))
    · cases c with
      |zero=>simp only[aNC,aM6] at z;subst z;simp [qV,rW.id]
      |succ c=>simp only[qV,aNk];exact .inr (k4 c wh aO6)
    cases c with
    |zero=>simp at F
    | succ c=>
      have:=k5 c b' aPe aPd;simp only[qV,aNk];right;rw[show base+(c0+(c+1))=base+(c0+1+c) from by omega];exact this
def tY (g g':Gh) (base:Nat) (W:List rW) (ids:pX):Gh:=
  ⟨g'.S,λi=>if base<=i/\i∈ids then g'.J (i-base) else match wK i W 0 with|some c=>g'.J c|none=>g.J i,
   λi=>if base<=i/\i∈ids then g'.cur (i-base) else match wK i W 0 with|some c=>g'.cur c|none=>g.cur i⟩
theorem aw {n c:Nat}{wh:Option rW}:QA n c wh=true↔c<n/\wh=none:=by
  cases wh with
  |none=>simp [QA]
  |some wh=>simp [QA]
theorem a7k {base n c i:Nat}{wh:Option rW}(h:AX base n c wh=some i):wh=some (.tok i)\/(wh=none/\c<n/\i=base+c):=by
  cases wh with
  | none=>
    simp only[AX] at h;split at h
    .rename_i j;exact .inr ⟨rfl,j,(aNa h).symm⟩
    .cases h
  | some wh=>
    cases wh with
    |box=>cases h
    |tok k=>simp only[AX,aM6] at h;subst h;exact .inl rfl
theorem az {i:Nat}: ∀{ws:List rW}{c0:Nat},(∀c:Nat,ws[c]? ≠some (.tok i))->wK i ws c0=none
  |[],_,_=>rfl
  | .tok j::r,c0,h=>by
    simp only[wK];split
    .rename_i e;subst e;exact absurd rfl (h 0)
    .exact az (λc=>by have:=h (c+1);simpa using this)
  | .box _ _ _ _ _::r,c0,h=>by
    simp only[wK];exact az (λc=>by have:=h (c+1);simpa using this)
theorem a7l {i c:Nat}{ws:List rW}(z:(sD ws).Nodup) (h:ws[c]? =some (.tok i)):wK i ws 0=some c:=by
  cases D:wK i ws 0 with
  | none=>
    exfalso
    have: ∀{ws:List rW}{c0 c:Nat},ws[c]? =some (.tok i)->wK i ws c0≠none:=by
      intro ws
      induction ws with
      |nil=>intro c0 c h;simp at h
      | cons wh r ih=>
        intro c0 c h;cases c with
        | zero=>
          simp only[aNC,aM6] at h;subst h;simp [wK]
        | succ c=>
          simp only[aNP] at h;cases wh with
          |box=>exact ih h
          | tok j=>
            simp only[wK];split
            .simp
            exact ih h
    exact this h D
  | some d=>
    obtain⟨d',e1,E⟩:=QZ D;rw[aNF] at e1;subst e1;rw[au z h E rfl]
theorem Fr.mono {A B:Nat->Nat->Prop}{w w':pY}{S S':Nat->Nat->Prop}(h:Fr A w w' S S') (j: ∀b o,A b o->B b o):Fr B w w' S S':=
  ⟨h.os,h.tape,h.output,h.size,λb hb E=>h.blk b hb (λo D=>E o (j b o D)),λb o hb E=>h.cell b o hb (λD=>E (j b o D)),λb o z=>(h.new b o z).imp id (Or.imp id (j b o)),λb s z=>(h.shape b s z).imp id λh o=>j b o (h o)⟩
theorem bc {base n:Nat}{W:List rW}{o:Nat}: ∀{ts:pS}{q k:Nat},(q,k)∈ER base n W o ts->∃q' c,(q',c)∈ts/\AX base n c (AW W c)=some k/\q=o+q'
  |[],_,_,h=>by simp [ER] at h
  | (q',c)::r,q,k,h=>by
    simp only[ER] at h;cases j:AX base n c (AW W c) with
    | none=>
      rw[j] at h;obtain⟨a,b,D,z⟩:=bc h;exact⟨a,b,aNp _ D,z⟩
    | some k'=>
      rw[j] at h;rcases aNk.1 h with h|h
      · simp only[aNA] at h
        obtain⟨rfl,rfl⟩:=h;exact⟨q',c,by simp,j,rfl⟩
      obtain⟨a,b,D,z⟩:=bc h
      exact⟨a,b,aNp _ D,z⟩
theorem wS {α:Type}{x:α}: ∀{l m:List α},x∈rJ l m↔x∈l\/x∈m
  |[],m=>by simp [rJ]
  |y::l,m=>by simp [rJ,wS (l:=l),or_assoc]
theorem ow: ∀{toks:pS}{off n q k:Nat},(q,k)∈vV toks off n->(q,k)∈toks/\¬(off<=q/\q<off+n)
  |[],_,_,_,_,h=>by simp [vV] at h
  | (q',k')::r,off,n,q,k,h=>by
    simp only[vV] at h;split at h
    · obtain⟨z,j⟩:=ow h
      exact⟨aNp _ z,j⟩
    rename_i D
    rcases aNk.1 h with h|h
    · cases h
      exact⟨by simp,D⟩
    obtain⟨z,j⟩:=ow h
    exact⟨aNp _ z,j⟩
section
variable {g g':Gh}{w w':pY}{H:sA}{W:List rW}{L:List qP}{r:r8}{v:pZ}{base:Nat}{upd:List (Nat×qP)}
variable (hH:sL g w H) (hm:VN H W L) (hr:M3 (vJ g W) w L r g' w' v) (hb:BN base r.H.length W 0 W r.H=some upd) (hf: ∀i,i∈qV upd->base<=i->g.J i=none/\∀n,g.cur i n=none)
include hH hm hr hb hf
theorem FS {c:Nat}{wh:rW}(G:W[c]? =some wh):wh.id∈qV upd/\wh.id<base/\∃b,L[c]? =some b/\ao H W wh b:=by
  have F:=(R0 hb).2.2.2.1 c wh G;have E:c<L.length:=hm.len▸(aNl.1 G).1;have j:=hm.ok c wh _ G (aNe E);refine⟨F,Nat.lt_of_not_le λI=>?_,_,aNe E,j⟩;have z:=hf _ F I;cases wh with
  | box i u x toks o=>
    cases D:L[c] with
    | cells t y ts=>
      rw[D] at j;obtain⟨p,cs,hp,_⟩:=hH.blk i _ j.1;rw[show (rW.box i u x toks o).id=i from rfl] at z;rw[z.1] at hp;cases hp
    |_=>rw[D] at j;exact j.elim
  | tok k=>
    cases D:L[c] with
    | grow e cc m=>
      rw[D] at j;obtain⟨v,xs,hv,_⟩:=hH.blk k _ j;rw[show (rW.tok k).id=k from rfl] at z;rw[z.2] at hv;cases hv
    | map s t l=>
      rw[D] at j;obtain⟨p,es,cl,hp,_⟩:=hH.blk k _ j.1;rw[show (rW.tok k).id=k from rfl] at z;rw[z.1] at hp;cases hp
    | row e t l m=>
      rw[D] at j;obtain⟨_,v,xs,hv,_⟩:=hH.blk k _ j.1;rw[show (rW.tok k).id=k from rfl] at z;rw[z.2] at hv;cases hv
    |_=>rw[D] at j;exact j.elim
theorem a7m {c:Nat}(z:c<r.H.length) (j:W[c]? =none):base+c∈qV upd:=by
  have:=(R0 hb).2.2.2.2 c _ (aNe z) j;simpa using this
theorem R1 {c:Nat}(D:c<r.H.length) (z:W[c]? =none):(tY g g' base W (qV upd)).J (base+c)=g'.J c/\(tY g g' base W (qV upd)).cur (base+c)=g'.cur c:=by
  have j:=a7m hH hm hr hb hf D z;refine⟨?_,?_⟩
  · show (if base<=base+c/\base+c∈qV upd then _ else _)=_
    rw[aM4 ⟨pM,j⟩,aNM]
  show (if base<=base+c/\base+c∈qV upd then _ else _)=_
  rw[aM4 ⟨pM,j⟩,aNM]
theorem Fd {i:Nat}(hi: ¬(base<=i/\i∈qV upd)) (j:wK i W 0=none):(tY g g' base W (qV upd)).J i=g.J i/\(tY g g' base W (qV upd)).cur i=g.cur i:=by
  refine⟨?_,?_⟩
  · show (if base<=i/\i∈qV upd then _ else _)=_
    rw[aM9 hi,j]
  show (if base<=i/\i∈qV upd then _ else _)=_
  rw[aM9 hi,j]
theorem Fe {c k:Nat}(z:W[c]? =some (.tok k)):(tY g g' base W (qV upd)).J k=g'.J c/\(tY g g' base W (qV upd)).cur k=g'.cur c:=by
  have j:=(FS hH hm hr hb hf z).2.1;simp only[rW.id] at j;have D:=a7l hm.nodup z;refine⟨?_,?_⟩
  · show (if base<=k/\k∈qV upd then _ else _)=_
    rw[aM9 pM,D]
  show (if base<=k/\k∈qV upd then _ else _)=_
  rw[aM9 pM,D]
theorem VP {c i:Nat}{u:Ty}{x:u.den}{toks:pS}{o:Nat}(j:W[c]? =some (.box i u x toks o)):(tY g g' base W (qV upd)).J i=g.J i/\(tY g g' base W (qV upd)).cur i=g.cur i:=by
  have D:=(FS hH hm hr hb hf j).2.1;simp only[rW.id] at D;refine Fd hH hm hr hb hf pM (az λd z=>?_);have:=au hm.nodup j z rfl;subst this;rw[j] at z;cases z
theorem M6 {c i:Nat}(hi:AX base r.H.length c W[c]? =some i):(tY g g' base W (qV upd)).J i=g'.J c/\(tY g g' base W (qV upd)).cur i=g'.cur c:=by
  rcases a7k hi with h|⟨z,j,rfl⟩
  .exact Fe hH hm hr hb hf h
  exact R1 hH hm hr hb hf j z
theorem Ff:Le g w (tY g g' base W (qV upd)) w':=by
  have len: ∀{i c:Nat},wK i W 0=some c->W[c]? =some (.tok i)/\c<L.length:=by
    intro i c h;obtain⟨d,e1,j⟩:=QZ h;rw[aNF] at e1;subst e1;exact⟨j,hm.len▸(aNl.1 j).1⟩
  refine⟨λb o h=>(hr.shut b o h).1,λb o h=>(hr.shut b o h).2,λi p h=>?_,λi n u h=>?_⟩
  · show (if base<=i/\i∈qV upd then _ else _)=_
    rw[aM9 (λ⟨z,j⟩=>by rw[(hf i j z).1] at h;cases h)];cases D:wK i W 0 with
    |none=>exact h
    | some c=>
      obtain⟨z,j⟩:=len D;refine hr.Jt c p j ?_;show w6 g W[c]? =_;rw[z];exact h
  show (if base<=i/\i∈qV upd then g'.cur (i-base) else match wK i W 0 with|some c=>g'.cur c|none=>g.cur i) n=_
  rw[aM9 (λ⟨z,j⟩=>by rw[(hf i j z).2] at h;cases h)];cases D:wK i W 0 with
  |none=>exact h
  | some c=>
    obtain⟨z,j⟩:=len D;refine hr.cur c n u j ?_;show BS g W[c]? n=_;rw[z];exact h
theorem a7n {t:Ty}{x y:t.den}{cs:pU}(z:Rd g' w' t x cs) (h:CO base r.H.length W t x=some y):Rd (tY g g' base W (qV upd)) w' t y cs:=by
  refine aq (g:=g') (g':=tY g g' base W (qV upd)) rfl (CO base r.H.length W) (λa b x=>rfl) (λt x=>rfl) (λ_=>rfl) (λ_ _=>rfl) (λ_=>rfl) (λ_=>rfl) (λ_=>rfl) (λ_=>rfl) (λ_ _ x y cs h z=>?_) (λx y cs h z=>?_) (λx y cs h z=>?_) (λx y cs h z=>?_) (λ_=>rfl) z h
  · cases x with
    |none=>cases h;exact z
    | some q=>
      obtain⟨c,n⟩:=q;simp only[CO,Ar,AA] at h;obtain⟨i,hi,rfl⟩:=aNh.1 h;obtain⟨v,hv,R⟩:=z;exact⟨v,by rw[(M6 hH hm hr hb hf hi).2];exact hv,R⟩
  · cases x with
    |none=>cases h;exact z
    | some q=>
      obtain⟨c,o⟩:=q;simp only[CO,LG] at h;obtain⟨p,hp,hv⟩:=z;unfold LG.back2 at h;split at h
      · rename_i i uu x toks o' j
        cases h;rw[AA] at j;obtain⟨_,Q,b,M,F⟩:=FS hH hm hr hb hf j;cases b with
        | cells t y ts=>
          have G:=hr.J c t y ts M;rw[hp] at G;have D:w6 g W[c]? =some p:=G.symm;rw[j] at D;obtain⟨p0,E,rfl⟩:=aNh.1 D;exact⟨p0,by rw[(VP hH hm hr hb hf j).1];exact E,by have:=hv.1;rwa [aNN] at this,hv.2.imp id λhv=>by rw[hv];simp [aNN]⟩
        |_=>exact F.elim
      split at h
      · rename_i K
        cases h;obtain⟨O,I⟩:=aw.1 K;rw[AA] at I;exact⟨p,by rw[(R1 hH hm hr hb hf O I).1];exact hp,hv⟩
      cases h
  · cases x with
    |none=>cases h;exact z
    | some q=>
      obtain⟨c,o⟩:=q;simp only[CO,LG] at h;obtain⟨p,hp,hv⟩:=z;unfold LG.back2 at h;split at h
      · rename_i i uu x toks o' j
        cases h;rw[AA] at j;obtain⟨_,Q,b,M,F⟩:=FS hH hm hr hb hf j;cases b with
        | cells t y ts=>
          have G:=hr.J c t y ts M;rw[hp] at G;have D:w6 g W[c]? =some p:=G.symm;rw[j] at D;obtain⟨p0,E,rfl⟩:=aNh.1 D;exact⟨p0,by rw[(VP hH hm hr hb hf j).1];exact E,by rw[hv];simp [aNN]⟩
        |_=>exact F.elim
      split at h
      · rename_i K
        cases h;obtain⟨O,I⟩:=aw.1 K;rw[AA] at I;exact⟨p,by rw[(R1 hH hm hr hb hf O I).1];exact hp,hv⟩
      cases h
  cases x with
  |none=>cases h;exact z
  | some c=>
    simp only[CO,Aq,AA] at h;obtain⟨i,hi,rfl⟩:=aNh.1 h;obtain⟨p,hp,hv⟩:=z;exact⟨p,by rw[(M6 hH hm hr hb hf hi).1];exact hp,hv⟩
theorem Fg {t:Ty}{x y:t.den}{cs:pU}(j:Rd g' w' t x cs) (h:bY base r.H.length W t x y):Rd (tY g g' base W (qV upd)) w' t y cs:=by
  rcases h with⟨hp,rfl⟩ |h
  .exact vE (g:=g') (g':=tY g g' base W (qV upd)) rfl hp j
  exact a7n hH hm hr hb hf j h
omit hH hm hr hb hf in
theorem Fh {n:Nat}{t u:Ty}{x y:t.den}{o:Nat}{l:List u.den}(h:bY base n W t x y) (j:rR (.list u) t x o=some l):rR (.list u) t y o=some l:=by
  rcases h with⟨_,rfl⟩ |h
  .exact j
  exact oh (CO base n W) (λ_ _ _=>rfl) (λ_ _=>rfl) h j
theorem Fi: ∀(cs:pS) {l:pS}{vs:pU},yI g' cs vs->QB base r.H.length W cs=some l->yI (tY g g' base W (qV upd)) l vs
  |[],l,vs,h,e=>by cases e;exact h
  | (c,o)::cs,l,vs,⟨p,vs',hp,hv,F⟩,e=>by
    unfold QB at e;cases j:jp base r.H.length c o (AW W c) with
    |none=>rw[j] at e;cases e
    | some q=>
      cases E:QB base r.H.length W cs with
      |none=>rw[j,E] at e;cases e
      | some l'=>
        rw[j,E] at e;cases e;refine(?_ : ∃p vs',_);have ih:=Fi cs F E;unfold jp at j;split at j
        · rename_i i uu x toks o' z
          cases j;rw[AA] at z;obtain⟨_,U,b,Q,I⟩:=FS hH hm hr hb hf z;cases b with
          | cells t y ts=>
            have K:=hr.J c t y ts Q;rw[hp] at K;have D:w6 g W[c]? =some p:=K.symm;rw[z] at D;obtain⟨p0,G,rfl⟩:=aNh.1 D;exact⟨p0,vs',by rw[(VP hH hm hr hb hf z).1];exact G,by rw[hv];simp [aNN],ih⟩
          |_=>exact I.elim
        split at j
        · rename_i O
          cases j;obtain⟨R,M⟩:=aw.1 O;rw[AA] at M;exact⟨p,vs',by rw[(R1 hH hm hr hb hf R M).1];exact hp,hv,ih⟩
        cases j
theorem a7o {s:qK}{u:pZ}(h:rY g' w' s u):rY (tY g g' base W (qV upd)) w' (YL base r.H.length W s) u:=by
  obtain⟨d,k⟩:=s
  have tokk: ∀{t:Ty}(hp:t.pure=true) {x:t.den}{k:pW},(∀c,k=some c->∃u,t= .list u)->rY g' w' (.val t x,k) u->rY (tY g g' base W (qV upd)) w' (.val t x,LF base r.H.length W k) u:=by
    intro t hp x k X h;cases k with
    |none=>exact ak (g:=g') (g':=tY g g' base W (qV upd)) (k:=none) (k':=none) rfl hp (λc e=>by cases e) h (λc e=>by cases e) (λ_=>rfl)
    | some c=>
      simp only[LF,AA];cases E:AX base r.H.length c W[c]? with
      | some i=>
        refine ak (g:=g') (g':=tY g g' base W (qV upd)) (k:=some c) (k':=some i) rfl hp X h (λc' e=>?_) (λe=>by cases e);cases e;refine⟨_,rfl,λn u V=>?_⟩;rw[(M6 hH hm hr hb hf E).2];exact V
      | none=>
        exact ak (g:=g') (g':=tY g g' base W (qV upd)) (k:=none) (k':=none) rfl hp (λc e=>by cases e) ⟨h.1,trivial⟩ (λc e=>by cases e) (λ_=>rfl)
  unfold YL;split
  · rename_i c m k' heq
    simp only[aNA] at heq;obtain⟨rfl,rfl⟩:=heq;simp only[LF,AA];cases E:AX base r.H.length c W[c]? with
    | some i=>
      obtain⟨G,h4⟩:=h.1;exact⟨⟨by rw[(M6 hH hm hr hb hf E).2];exact G,h4⟩,trivial⟩
    |none=>exact⟨trivial,trivial⟩
  · rename_i c o k' heq
    simp only[aNA] at heq;obtain⟨rfl,rfl⟩:=heq;obtain⟨p,hp,hv⟩:=zB h.1;unfold Ap;split
    · rename_i i uu x toks o' z
      rw[AA] at z;obtain⟨_,hd,b,Z,K⟩:=FS hH hm hr hb hf z;cases b with
      | cells t y ts=>
        have M:=hr.J c t y ts Z;rw[hp] at M;have F:w6 g W[c]? =some p:=M.symm;rw[z] at F;obtain⟨p0,I,rfl⟩:=aNh.1 F;refine⟨.inr ⟨rfl,p0,by rw[(VP hH hm hr hb hf z).1];exact I,?_⟩,trivial⟩;rw[hv];simp [aNN]
      |_=>exact K.elim
    split
    · rename_i E
      obtain⟨j,D⟩:=aw.1 E;rw[AA] at D;exact⟨.inr ⟨rfl,p,by rw[(R1 hH hm hr hb hf j D).1];exact hp,by rw[hv]⟩,trivial⟩
    exact⟨trivial,trivial⟩
  · rename_i k' heq
    simp only[aNA] at heq;obtain⟨rfl,rfl⟩:=heq;rcases h.1 with⟨j,_⟩ |⟨j,D⟩
    .cases j
    exact⟨.inr ⟨j,D⟩,trivial⟩
  · rename_i c k' heq
    simp only[aNA] at heq;obtain⟨rfl,rfl⟩:=heq;simp only[LF,AA];cases E:AX base r.H.length c W[c]? with
    | some i=>
      obtain⟨p,hp,hv⟩:LU g' (some c) [u]:=B2 rfl h.1;exact⟨.inr ⟨rfl,p,by rw[(M6 hH hm hr hb hf E).1];exact hp,hv⟩,trivial⟩
    |none=>exact⟨trivial,trivial⟩
  · rename_i k' heq
    simp only[aNA] at heq;obtain⟨rfl,rfl⟩:=heq;rcases h.1 with⟨j,_⟩ |⟨j,D⟩
    .cases j
    exact⟨.inr ⟨j,D⟩,trivial⟩
  · rename_i f cs k' heq
    simp only[aNA] at heq;obtain⟨rfl,rfl⟩:=heq;cases Y:QB base r.H.length W cs with
    |none=>exact⟨trivial,trivial⟩
    | some l=>
      rcases h.1 with⟨j,_⟩ |⟨_,vs,D,G⟩
      .cases j
      exact⟨.inr ⟨rfl,vs,Fi hH hm hr hb hf cs D Y,G⟩,trivial⟩
  · rename_i t x k' ha U R Q O heq
    simp only[aNA] at heq;obtain⟨rfl,rfl⟩:=heq;split
    · rename_i hp
      exact tokk hp a62 (Ed h)
    exact⟨trivial,trivial⟩
  exact⟨trivial,trivial⟩
end
theorem Fj {g:Gh}{w:pY}{H:sA}{W:List rW}{L:List qP}(hH:sL g w H) (hm:VN H W L) {bb oo:Nat}(h:wQ (vJ g W) (sZ 0 L) bb oo):
  ∃(c:Nat) (wh:rW) (b blk:qP),W[c]? =some wh/\L[c]? =some b/\sB (vJ g W) c b bb oo/\qT H wh.id=some blk/\sB g wh.id blk bb oo:=by
 obtain⟨c,b,F,G⟩:=h;rw[zC] at F;have K:c<W.length:=hm.len▸(aNl.1 F).1;have j:W[c]? =some W[c]:=aNe K;have E:=hm.ok c _ b j F;refine⟨c,W[c],b,?_⟩;generalize W[c]=wh at j E;cases wh with
 |box i u x toks off=>
  cases b with
  |cells t y ts=>
   obtain⟨R,⟨y0,U,Z⟩,Y⟩:=E;obtain⟨p,hp,e1,e2,e3⟩:=G;have D:w6 g W[c]? =some p:=hp;rw[j] at D;obtain⟨p0,I,rfl⟩:=aNh.1 D;obtain⟨p1,cs,V,Q,_⟩:=hH.blk i _ R;obtain⟨c1,c2,c3,M,X,O⟩:=DR Q U;have l1:=sU Q;have l2:=sU O;rw[M] at l1;simp only[aM7] at l1;exact⟨_,j,F,⟨_,hp,e1,e2,e3⟩,R,p0,I,e1,by simp at e2;omega,by simp at e3;omega⟩
  |_=>exact E.elim
 |tok k=>
  cases b with
  |grow e cc m=>
   obtain⟨v,hv,hb⟩:=G;have z:BS g W[c]? m=some v:=hv;rw[j] at z;exact⟨_,j,F,⟨v,hv,hb⟩,E,v,z,hb⟩
  |map s t l=>
   obtain⟨p,hp,hb⟩:=G;have D:w6 g W[c]? =some p:=hp;rw[j] at D;exact⟨_,j,F,⟨p,hp,hb⟩,E.1,p,D,hb⟩
  |row e t l m=>
   obtain⟨v,hv,hb⟩:=G;have z:BS g W[c]? m=some v:=hv;rw[j] at z;exact⟨_,j,F,⟨v,hv,hb⟩,E.1,v,z,hb⟩
  |_=>exact E.elim
section
variable {g g':Gh}{w w':pY}{H:sA}{W:List rW}{L:List qP}{r:r8}{v:pZ}{base:Nat}{upd:List (Nat×qP)}
variable (hH:sL g w H) (hm:VN H W L) (hr:M3 (vJ g W) w L r g' w' v) (hb:BN base r.H.length W 0 W r.H=some upd) (hf: ∀i,i∈qV upd->base<=i->g.J i=none/\∀n,g.cur i n=none)
include hH hm hr hb hf
theorem pc {b o:Nat}(h:wQ (vJ g W) (sZ 0 L) b o):sX g H (qV upd) b o:=by
 obtain⟨c,wh,b0,blk,D,F,E,z,j⟩:=Fj hH hm h;exact⟨wh.id,blk,(FS hH hm hr hb hf D).1,z,j⟩
theorem a7p:Fr (sX g H (qV upd)) w w' g.S (tY g g' base W (qV upd)).S:=hr.fr.mono λ_ _ h=>pc hH hm hr hb hf h
theorem bd {id:Nat}{b:qP}(hi:id∈qV upd) (z:qT (rJ upd H) id=some b):JB base r.H.length W W r.H 0 id b:=by
 obtain⟨_,k2,k3,_⟩:=R0 hb;obtain⟨b',j⟩:=k3 id hi;have:qT (rJ upd H) id=some b':=by
  have: ∀{u:List (Nat×qP)},qT u id=some b'->qT (rJ u H) id=some b':=by
   intro u
   induction u with
   |nil=>intro h;cases h
   |cons q u ih=>
    intro h;simp only[rJ,qT] at h|-;split
    .rename_i e;rw[aM4 e] at h;exact h
    rename_i e;rw[aM9 e] at h;exact ih h
  exact this j
 rw[this] at z;obtain rfl:=aNa z;exact k2 id b' j
theorem pd {c i o:Nat}{u:Ty}{x:u.den}{toks:pS}{b0 b:qP}(Y:W[c]? =some (.box i u x toks o)) (hR:r.H[c]? =some b0) (G:xX base r.H.length i o W u x toks b0=some (i,b)):
  A9 (tY g g' base W (qV upd)) w' i b/\(∀bb oo,sB (tY g g' base W (qV upd)) i b bb oo->sB g i (.cells u x toks) bb oo/\qT H i=some (.cells u x toks))/\
   ∀bb oo,sB (tY g g' base W (qV upd)) i b bb oo->sB g' c b0 bb oo\/(bb<w.heap.size/\¬wQ (vJ g W) (sZ 0 L) bb oo):=by
 obtain⟨hS,hQ,bL,hL,K⟩:=FS hH hm hr hb hf Y;have X:=(VP hH hm hr hb hf Y).1;have hg:=Ff hH hm hr hb hf;cases bL with
 |grow=>exact K.elim
 |row=>exact K.elim
 |map=>exact K.elim
 |iter=>exact K.elim
 |dead=>exact K.elim
 |cells tL yL tsL=>
  obtain⟨h1,h2,h4⟩:=K;obtain⟨p,cs,hp,hn,hc,ha,hI,hD⟩:=hH.blk i _ h1;cases b0 with
  |grow=>simp [xX] at G
  |row=>simp [xX] at G
  |map=>simp [xX] at G
  |iter=>simp [xX] at G
  |dead=>
   simp only[xX,aM6,aNA,true_and] at G;subst G;exact⟨trivial,λ_ _ h=>h.elim,λ_ _ h=>h.elim⟩
  |cells t y ts=>
   have hC:=hr.ty c _ _ _ _ _ _ hL hR;subst hC;obtain⟨y2,z,hl,M,D⟩:=ov G
   simp only[aNA,true_and] at D;subst D;have hy:=hr.heap.blk c _ (by rw[zC];exact hR);obtain⟨p',cs',he,U,hu,R,hx,ht⟩:=hy;have hN:=hr.J c _ _ _ hL;have hd:g'.J c=some ⟨p.1,p.2+o,p.3⟩:=by
    rw[hN];show w6 g W[c]? =_;rw[Y];simp [w6,hp]
   rw[hd] at he;obtain rfl:=aNa he;have hB:Rd (tY g g' base W (qV upd)) w' u x cs:=xE hg hn;have hA:Rd (tY g g' base W (qV upd)) w' t y2 cs':=Fg hH hm hr hb hf U hl;obtain⟨c1,c2,c3,hM,hJ,hh,hz⟩:=ab hA hB M;subst hM;subst hJ;have l0:=sU hn;have l1:=sU U;simp only[aM7] at l0;have I: ∀q,q<u.cells->¬(c1.length<=q/\q<c1.length+t.cells)->¬wQ (vJ g W) (sZ 0 L) p.1 (p.2+q):=by
    intro q D V hw;obtain⟨c',wh',b',blk',k1,k2,k3,k4,k5⟩:=Fj hH hm hw;by_cases hj:c'=c
    .subst hj;rw[Y] at k1;obtain rfl:=aNa k1;rw[hL] at k2;obtain rfl:=aNa k2;obtain⟨pp,F,e1,e2,e3⟩:=k3;have O:w6 g W[c']? =some pp:=F;rw[Y] at O;simp only[w6,hp,Option.map_some,aM6] at O;subst O;simp only at e2 e3;exact V ⟨pM,pM⟩
    have hK:wh'.id≠i:=λe=>hj (au hm.nodup k1 Y e);exact hH.dis wh'.id i blk' _ p.1 (p.2+q) hK k4 h1 k5 ⟨p,hp,rfl,pM,pM⟩
   have Q: ∀q,q<u.cells->p.1<w.heap.size:=λq D=>VE (hH.blk i _ h1) (b:=p.1) (o:=p.2+q) ⟨p,hp,rfl,pM,pM⟩;have j: ∀q,q<u.cells->¬(c1.length<=q/\q<c1.length+t.cells)->w'.cell? ⟨p.1,p.2+q,none⟩=w.cell? ⟨p.1,p.2+q,none⟩/\w'.frozen? ⟨p.1,p.2+q,none⟩=w.frozen? ⟨p.1,p.2+q,none⟩:=λq D V=>hr.fr.cell _ _ (Q q D) (I q D V);refine⟨⟨p,c1++cs'++c3,by rw[X];exact hp,hz,λq vv hv=>?_,⟨λq D=>?_,λh0 s Z=>?_⟩,λq D Z=>?_,?_⟩,λbb oo ho=>⟨?_,h1⟩,λbb oo ho=>?_⟩
   .by_cases a1:q<c1.length
    .rw[(j q pM pM).1];refine hc q vv ?_;rw[aNd,aNo a1] at hv|-;exact hv
    by_cases a2:q<c1.length+t.cells
    .rw[aNd,aNg pM,aNo pM] at hv;have:=hu (q-c1.length) vv hv;rwa [show p.2+c1.length+(q-c1.length)=p.2+q from by omega] at this
    rw[aNd,aNg pM,aNg pM] at hv;have D:q<u.cells:=by
     have:=(aNl.1 hv).1;omega
    rw[(j q D pM).1];refine hc q vv ?_;rw[aNd,aNg pM,aNg pM,hh];rw[l1] at hv;exact hv
   .by_cases a1:c1.length<=q/\q<c1.length+t.cells
    .have:=R.1 (q-c1.length) pM;rwa [show p.2+c1.length+(q-c1.length)=p.2+q from by omega] at this
    rw[(j q D a1).1,(j q D a1).2];exact ha.1 q D
   .by_cases hF:0<t.cells
    .exact R.2 hF s Z
    exact(hr.fr.shape p.1 s (ha.2 h0 s Z)).resolve_right λh=>I 0 h0 pM (h (p.2+0))
   .by_cases a1:c1.length<=q/\q<c1.length+t.cells
    .exact hx (q-c1.length) pM (by rw[show p.2+c1.length+(q-c1.length)=p.2+q from by omega];exact Z)
    rcases hr.fr.new _ _ Z with k|k|k
    .exact hI q D k
    .have:=Q q D;omega
    exact I q D a1 k
   .intro q kk E;rcases wS.1 E with E|E
    .obtain⟨q',c',k1,k2,rfl⟩:=bc E;rw[AA] at k2;obtain⟨u',l,vv,g1,g2,g3⟩:=ht q' c' k1;have hG:=Ds g1;refine⟨u',l,vv,Dr M (Fh hl g1) hG,?_,?_⟩
     .rw[aNd,aNg pM,aNM,aNo pM];exact g2
     rw[(M6 hH hm hr hb hf k2).2];exact g3
    obtain⟨k1,k2⟩:=ow E;obtain⟨u',l,vv,g1,g2,g3⟩:=hD q kk k1;refine⟨u',l,vv,Dh hH M g1 k2,?_,hg.cur _ _ _ g3⟩;rcases aOi q c1.length with a1|a1
    .rw[aNd,aNo a1] at g2|-;exact g2
    rw[aNd,aNg pM,aNg pM] at g2|-;rw[l1];rw[hh] at g2;exact g2
   .obtain⟨pp,F,e1,e2,e3⟩:=ho;rw[X,hp] at F;obtain rfl:=aNa F;exact⟨p,hp,e1,e2,e3⟩
   obtain⟨pp,F,e1,e2,e3⟩:=ho;rw[X,hp] at F;obtain rfl:=aNa F;subst e1;by_cases a1:c1.length<=oo-p.2/\oo-p.2<c1.length+t.cells
   .exact .inl ⟨_,hd,rfl,by simp only;omega,by simp only;omega⟩
   right;refine⟨Q (oo-p.2) pM,?_⟩;have:=I (oo-p.2) pM a1;rwa [show p.2+(oo-p.2)=oo from by omega] at this
theorem pf {c:Nat}{b0 b:qP}(hn:W[c]? =none) (hR:r.H[c]? =some b0) (j:ES base r.H.length c W b0=some (base+c,b)):
  A9 (tY g g' base W (qV upd)) w' (base+c) b/\∀bb oo,sB (tY g g' base W (qV upd)) (base+c) b bb oo->sB g' c b0 bb oo:=by
 have hc:=(aNl.1 hR).1;obtain⟨V,z⟩:=R1 hH hm hr hb hf hc hn;have D:=hr.heap.blk c _ (by rw[zC];exact hR);cases b0 with
 |dead=>
  simp only[ES,aM6,aNA,true_and] at j;subst j;exact⟨trivial,λ_ _ h=>h.elim⟩
 |grow e m k=>
  simp only[ES,aM6,aNA,true_and] at j;subst j;obtain⟨u,xs,hv,Q,O,M⟩:=D;exact⟨⟨u,xs,by rw[z];exact hv,Q,λm I=>by rw[z];exact O m I,M⟩,λbb oo ⟨v',E,K⟩=>⟨v',by rw[z] at E;exact E,K⟩⟩
 |row e t l n=>
  simp only[ES] at j;split at j
  .rename_i hp;simp only[aM6,aNA,true_and] at j;subst j;obtain⟨h0,u,xs,hv,Q,X,O,M⟩:=D;exact⟨⟨h0,u,xs,by rw[z];exact hv,Q,CV (λ_ _ h=>vE (g:=g') (g':=tY g g' base W (qV upd)) rfl hp h) X,λm I=>by rw[z];exact O m I,M⟩,λbb oo ⟨v',E,K⟩=>⟨v',by rw[z] at E;exact E,K⟩⟩
  .cases j
 |iter s n=>simp [ES] at j
 |map k v l=>
  simp only[ES] at j;split at j
  .rename_i hp;rw[aNf] at hp;simp only[aM6,aNA,true_and] at j;subst j;obtain⟨p,es,cl,G,Y,hh,hM,hS⟩:=D;exact⟨⟨p,es,cl,by rw[V];exact G,Y,hh,LX (g:=g') (g':=tY g g' base W (qV upd)) rfl hp.1 hp.2 hM,hS⟩,λbb oo ⟨pp,F,e⟩=>⟨pp,by rw[V] at F;exact F,e⟩⟩
  .cases j
 |cells t y ts=>
  have tO: ∀y2,bY base r.H.length W t y y2->A9 (tY g g' base W (qV upd)) w' (base+c) (.cells t y2 (ER base r.H.length W 0 ts))/\∀bb oo,sB (tY g g' base W (qV upd)) (base+c) (.cells t y2 (ER base r.H.length W 0 ts)) bb oo->sB g' c (.cells t y ts) bb oo:=by
   intro y2 R;obtain⟨p,cs,G,Z,Q,O,M,X⟩:=D;refine⟨⟨p,cs,by rw[V];exact G,Fg hH hm hr hb hf Z R,Q,O,M,λq kk U=>?_⟩,λbb oo ⟨pp,F,e⟩=>⟨pp,by rw[V] at F;exact F,e⟩⟩;obtain⟨q',c',k1,k2,rfl⟩:=bc U;rw[AA] at k2;obtain⟨u',l,vv,g1,g2,g3⟩:=X q' c' k1;exact⟨u',l,vv,by rw[aNF];exact Fh R g1,by rw[aNF];exact g2,by rw[(M6 hH hm hr hb hf k2).2];exact g3⟩
  simp only[ES] at j;split at j
  .rename_i hp;simp only[aM6,aNA,true_and] at j;subst j;exact tO y (.inl ⟨hp,rfl⟩)
  obtain⟨y2,hy,hq⟩:=Fc j;simp only[aNA,true_and] at hq;subst hq;exact tO y2 (.inr hy)
theorem ph {c k:Nat}{b0 b:qP}(X:W[c]? =some (.tok k)) (Z:r.H[c]? =some b0) (j:A6 k b0=some (k,b)):
  A9 (tY g g' base W (qV upd)) w' k b/\∀bb oo,sB (tY g g' base W (qV upd)) k b bb oo->sB g' c b0 bb oo:=by
 obtain⟨U,z⟩:=Fe hH hm hr hb hf X;have E:=hr.heap.blk c _ (by rw[zC];exact Z);cases b0 with
 |dead=>
  simp only[A6,aM6,aNA,true_and] at j;subst j;exact⟨trivial,λ_ _ h=>h.elim⟩
 |grow e m n=>
  simp only[A6,aM6,aNA,true_and] at j;subst j;obtain⟨u,xs,hv,O,M,K⟩:=E;exact⟨⟨u,xs,by rw[z];exact hv,O,λm F=>by rw[z];exact M m F,K⟩,λbb oo ⟨v',D,G⟩=>⟨v',by rw[z] at D;exact D,G⟩⟩
 |row e t l n=>
  simp only[A6] at j;split at j
  .rename_i hp;simp only[aM6,aNA,true_and] at j;subst j;obtain⟨h0,u,xs,hv,O,h4,M,K⟩:=E;exact⟨⟨h0,u,xs,by rw[z];exact hv,O,CV (λ_ _ h=>vE (g:=g') (g':=tY g g' base W (qV upd)) rfl hp h) h4,λm F=>by rw[z];exact M m F,K⟩,λbb oo ⟨v',D,G⟩=>⟨v',by rw[z] at D;exact D,G⟩⟩
  .cases j
 |iter s n=>simp [A6] at j
 |map s v l=>
  simp only[A6] at j;split at j
  .rename_i hp;rw[aNf] at hp;simp only[aM6,aNA,true_and] at j;subst j;obtain⟨p,es,cl,Q,R,V,hM,Y⟩:=E;exact⟨⟨p,es,cl,by rw[U];exact Q,R,V,LX (g:=g') (g':=tY g g' base W (qV upd)) rfl hp.1 hp.2 hM,Y⟩,λbb oo ⟨pp,I,e⟩=>⟨pp,by rw[U] at I;exact I,e⟩⟩
  .cases j
 |cells t y ts=>simp [A6] at j
theorem a7q {side:List Prop}{s:qK}{rds:pX}{vv:pZ}(hs:rY (tY g g' base W (qV upd)) w' s vv):sC g w H ⟨side,s,upd,rds⟩ (tY g g' base W (qV upd)) w' vv:=by
 have le:=Ff hH hm hr hb hf;have fr:=a7p hH hm hr hb hf;have gho: ∀i,i∉qV upd->(tY g g' base W (qV upd)).J i=g.J i/\(tY g g' base W (qV upd)).cur i=g.cur i:=λi hi=>
  Fd hH hm hr hb hf (λh=>hi h.2) (az λc hc=>hi ((FS hH hm hr hb hf hc).1))
 have perm: ∀i blk b o,i∈qV upd->qT (rJ upd H) i=some blk->sB (tY g g' base W (qV upd)) i blk b o->w.heap.size<=b\/sX g H (qV upd) b o:=by
  intro i blk b o hi K I;rcases bd hH hm hr hb hf hi K with⟨c,i',u,x,toks,off,b0,E,G,F,D⟩ |⟨c,k,b0,E,G,F,D⟩ |⟨c,b0,E,G,F,D⟩
  .subst G;obtain⟨_,k2,_⟩:=pd hH hm hr hb hf E F D;exact .inr ⟨i,_,hi,(k2 b o I).2,(k2 b o I).1⟩
  .subst G;obtain⟨_,k2⟩:=ph hH hm hr hb hf E F D;exact(hr.perm c b0 b o F (k2 b o I)).imp id λh=>pc hH hm hr hb hf h
  rw[aNF] at G D;subst G;obtain⟨_,k2⟩:=pf hH hm hr hb hf F E D;exact(hr.perm c b0 b o E (k2 b o I)).imp id λh=>pc hH hm hr hb hf h
 refine⟨le,hs,hH.upd le fr perm gho (λi blk hi K=>?_) (λi j bi bj b o hi hj O Y X U R=>?_) (λb o h=>hr.heap.sl b o h),fr,perm,gho,λi u' y us h=>?_⟩
 .rcases bd hH hm hr hb hf hi K with⟨c,i',u,x,toks,off,b0,E,G,F,D⟩ |⟨c,k,b0,E,G,F,D⟩ |⟨c,b0,E,G,F,D⟩
  .subst G;exact(pd hH hm hr hb hf E F D).1
  .subst G;exact(ph hH hm hr hb hf E F D).1
  rw[aNF] at G D;subst G;exact(pf hH hm hr hb hf F E D).1
 .have cls: ∀{i:Nat}{blk:qP},i∈qV upd->qT (rJ upd H) i=some blk->sB (tY g g' base W (qV upd)) i blk b o->
    (∃c u x toks off b0,W[c]? =some (.box i u x toks off)/\r.H[c]? =some b0/\sB g i (.cells u x toks) b o/\qT H i=some (.cells u x toks)/\(sB g' c b0 b o\/(b<w.heap.size/\¬wQ (vJ g W) (sZ 0 L) b o)))\/
    (∃c b0,AX base r.H.length c W[c]? =some i/\r.H[c]? =some b0/\sB g' c b0 b o):=by
   intro i blk hi K I;rcases bd hH hm hr hb hf hi K with⟨c,i',u,x,toks,off,b0,E,G,F,D⟩ |⟨c,k,b0,E,G,F,D⟩ |⟨c,b0,E,G,F,D⟩
   .subst G;obtain⟨_,k2,k3⟩:=pd hH hm hr hb hf E F D;exact .inl ⟨c,u,x,toks,off,b0,E,F,(k2 b o I).1,(k2 b o I).2,k3 b o I⟩
   .subst G;obtain⟨_,k2⟩:=ph hH hm hr hb hf E F D;exact .inr ⟨c,b0,by rw[E];rfl,F,k2 b o I⟩
   rw[aNF] at G D;subst G;obtain⟨_,k2⟩:=pf hH hm hr hb hf F E D;exact .inr ⟨c,b0,by rw[F];simp only[AX];rw[aM4 (aNl.1 E).1],E,k2 b o I⟩
  have cross: ∀{c c':Nat}{b0 b1:qP},c≠c'->r.H[c]? =some b0->r.H[c']? =some b1->sB g' c b0 b o->sB g' c' b1 b o->False:=λV E G o1 o2=>
   hr.heap.dis _ _ _ _ b o V (by rw[zC];exact E) (by rw[zC];exact G) o1 o2
  rcases cls hi Y U with⟨c,u,x,toks,off,b0,E,G,F,D,Q⟩ |⟨c,b0,E,F,D⟩<;>rcases cls hj X R with⟨c',u',x',toks',off',b0',k1,k2,k3,k4,k5⟩ |⟨c',b0',k1,k3,k4⟩
  .exact hH.dis i j _ _ b o O D k4 F k3
  .rcases Q with Q|⟨Q,h6⟩
   .exact cross (λe=>by subst e;rw[E] at k1;cases k1) G k3 Q k4
   rcases hr.perm c' b0' b o k3 k4 with h|h
   .omega
   exact h6 h
  .rcases k5 with k5|⟨k5,k6⟩
   .exact cross (λe=>by subst e;rw[k1] at E;cases E) F k2 D k5
   rcases hr.perm c b0 b o F D with h|h
   .omega
   exact k6 h
  exact cross (λe=>by subst e;rw[E] at k1;exact O (aNa k1)) F k3 D k4
 by_cases hi:i∈qV upd
 .rcases bd hH hm hr hb hf hi h with⟨c,i',u,x,toks,off,b0,E,G,F,D⟩ |⟨c,k,b0,E,G,F,D⟩ |⟨c,b0,E,G,F,D⟩
  .subst G;obtain⟨_,_,bL,hL,M⟩:=FS hH hm hr hb hf E;cases b0 with
   |cells t y0 ts=>
    obtain⟨y2,z,_,ha,Z⟩:=ov D;simp only[aNA,qP.cells.injEq,true_and] at Z;obtain⟨rfl,_⟩:=Z;cases bL with
    |cells=>exact .inl ⟨x,toks,M.1⟩
    |_=>exact M.elim
   |grow=>simp [xX] at D
   |row=>simp [xX] at D
   |map=>simp [xX] at D
   |iter=>simp [xX] at D
   |dead=>simp [xX] at D
  .cases b0 with
   |cells t y0 ts=>simp [A6] at D
   |iter=>simp [A6] at D
   |map=>simp only[A6] at D;split at D<;>simp at D
   |row=>simp only[A6] at D;split at D<;>simp at D
   |_=>simp [A6] at D
  rw[aNF] at G;exact .inr (hf i hi pM)
 exact .inl ⟨y,us,(CW hi).symm.trans h⟩
end
section
variable {P:Program}{g:Gh}{w:pY}
variable {o:Oper}{a:Act}{H:sA}{T:sH}(hT:vX P T) (hH:sL g w H)
include hT hH
theorem a7r {op:BinOp}{xt yt:TypeId}{x y:Operand}(ho:o.op= .binOp op xt x y yt) {sx sy:qK}(O:rY g w sx (a.eval x)) (M:rY g w sy (a.eval y)) {e:r9}
  (hr:AU (jj (s0 T xt) op sx sy)=some e):rS P o a g w H e:=by
 obtain⟨q,j,rfl⟩:=J9 hr;have go: ∀{u v:pZ},a.eval x=u->a.eval y=v->(∃z,(do eqGuard op xt x y u v;Go.binOp op xt u v:Sem pZ).run P w= .ok z w/\zA g w q.2 z)->rS P o a g w H ⟨q.1,(q.2,none),[],[]⟩:=by
  rintro u v rfl rfl ⟨z,hz,F⟩;refine rS.pure hH (v:=z) ?_ F;unfold execOp;rw[ho];simp only[aNi,aNu] at hz|-;rw[hz];rfl
 replace O:=O.1;replace M:=M.1;generalize Q:s0 T xt=oti at j;unfold jj at j;split at j
 .rename_i u el by' ar ls_ t l k k';have F:=(t7 hT Q).2;simp only[xG] at F;obtain⟨ax,cx,ex,hg,R⟩:=EY O;have E:ax=none->l=[]:=λh=>by
   rcases R with D|⟨b,o,D,_⟩
   .exact D
   rw[h] at D;cases D
  have ey:a.eval y= .slice none 0 0:=M;refine go ex ey ?_;unfold YC at j;split at j
  .cases j;have D:(do eqGuard .eql xt x y (.slice ax (List.length l) cx) (.slice none 0 0);Go.binOp .eql xt (.slice ax (List.length l) cx) (.slice none 0 0):Sem pZ).run P w= .ok (.bool ax.isNone) w:=by
    simp only[aNi];rw[show (eqGuard .eql xt x y (.slice ax (List.length l) cx) (.slice none 0 0)).run P w= .ok () w from by simp [eqGuard]];exact Lib.run_eql_slice_nil (P:=P) w xt _ ax (List.length l) cx 0 0 F.1
   exact⟨_,D,_,rfl,λh=>E aO4,λ_=>trivial⟩
  .cases j;have D:(do eqGuard .neq xt x y (.slice ax (List.length l) cx) (.slice none 0 0);Go.binOp .neq xt (.slice ax (List.length l) cx) (.slice none 0 0):Sem pZ).run P w= .ok (.bool (!ax.isNone)) w:=by
    simp only[aNi];rw[show (eqGuard .neq xt x y (.slice ax (List.length l) cx) (.slice none 0 0)).run P w= .ok () w from by simp [eqGuard]];exact run_neq_slice_nil_any (P:=P) w xt _ ax (List.length l) cx 0 0 F.1
   exact⟨_,D,_,rfl,λ_=>trivial,λh=>E aO4⟩
  cases j
 .rename_i u el by' ar ls_ k t l k';have F:=(t7 hT Q).2;simp only[xG] at F;obtain⟨ay,cy,ey,hg,R⟩:=EY M;have E:ay=none->l=[]:=λh=>by
   rcases R with D|⟨b,o,D,_⟩
   .exact D
   rw[h] at D;cases D
  have ex:a.eval x= .slice none 0 0:=O;refine go ex ey ?_;unfold YC at j;split at j
  .cases j;have D:(do eqGuard .eql xt x y (.slice none 0 0) (.slice ay (List.length l) cy);Go.binOp .eql xt (.slice none 0 0) (.slice ay (List.length l) cy):Sem pZ).run P w= .ok (.bool ay.isNone) w:=by
    simp only[aNi];rw[show (eqGuard .eql xt x y (.slice none 0 0) (.slice ay (List.length l) cy)).run P w= .ok () w from by simp [eqGuard]];exact run_eql_nil_slice (P:=P) w xt _ ay (List.length l) cy 0 0 F.1
   exact⟨_,D,_,rfl,λh=>E aO4,λ_=>trivial⟩
  .cases j;have D:(do eqGuard .neq xt x y (.slice none 0 0) (.slice ay (List.length l) cy);Go.binOp .neq xt (.slice none 0 0) (.slice ay (List.length l) cy):Sem pZ).run P w= .ok (.bool (!ay.isNone)) w:=by
    simp only[aNi];rw[show (eqGuard .neq xt x y (.slice none 0 0) (.slice ay (List.length l) cy)).run P w= .ok () w from by simp [eqGuard]];exact run_neq_nil_slice (P:=P) w xt _ ay (List.length l) cy 0 0 F.1
   exact⟨_,D,_,rfl,λ_=>trivial,λh=>E aO4⟩
  cases j
 .rename_i u el b ar ls_ t x' k t' y' k';unfold Aj at j;split at j
  .rename_i ha;subst ha;split at j
   .rename_i hc;obtain⟨rfl,hc⟩:=hc;simp only[uF] at j;obtain⟨r,X,V⟩: ∃r,zK t' x' y'=some r/\((op= .eql/\q=([],.val .bool r))\/(op= .neq/\q=([],.val .bool (!r)))):=by
     generalize hn:zK t' x' y'=od at j;unfold Ah at j;split at j
     .rename_i r;cases j;exact⟨r,rfl,.inl ⟨rfl,rfl⟩⟩
     .rename_i r;cases j;exact⟨r,rfl,.inr ⟨rfl,rfl⟩⟩
     cases j
    have I:=t7 hT Q;rcases hc with rfl|⟨G,rfl⟩
    .have F:=I.2;simp only[xG] at F;obtain hl:=vO O;obtain hj:=vO M;refine go hl hj ?_;have he:r=(x'==y'):=(aNa X).symm;subst he;have K:=run_equalIn_bool' (P:=P) w 9999 xt x' y' F;rcases V with⟨rfl,rfl⟩ |⟨rfl,rfl⟩
     .refine⟨.bool (x'==y'),?_,w5 _ _ _⟩;simp only[aNi];rw[show (eqGuard .eql xt x y (.bool x') (.bool y')).run P w= .ok () w from by simp [eqGuard]];simp only[aNb,Go.binOp,Op.equal,Op.maxDepth,aNi,K,aNu]
     refine⟨.bool (!(x'==y')),?_,w5 _ _ _⟩;simp only[aNi];rw[show (eqGuard .neq xt x y (.bool x') (.bool y')).run P w= .ok () w from by simp [eqGuard]];simp only[aNb,Go.binOp,Op.equal,Op.maxDepth,aNi,K,aNu]
    have h2:=I.2;have heq:P.eqGuardType P.depth xt=false/\∃h,h<9000/\wY P h (.ty xt) t':=by
     unfold xG at h2;cases t'<;>simp only[Ty.isRow,aNJ] at G
     all_goals first|exact h2.2 rfl|exact h2.elim
    obtain⟨Y,hh,hs,hE⟩:=heq;obtain⟨cx,ex,rx⟩:=DS G O;obtain⟨cy,ey,ry⟩:=DS G M;obtain⟨b',Z,U⟩:=hE.run (g:=g) (w:=w) 9999 pM x' y' _ _ O M;rw[X] at Z;obtain rfl:=aNa Z;rw[ex,ey] at U;refine go ex ey ?_;rcases V with⟨rfl,rfl⟩ |⟨rfl,rfl⟩
    .refine⟨.bool r,?_,w5 _ _ _⟩;simp only[aNi];rw[run_eqGuard_agg w _ _ _ _ _ _ Y];simp only[aNb];rw[run_eql_struct,U];rfl
    refine⟨.bool (!r),?_,w5 _ _ _⟩;simp only[aNi];rw[run_eqGuard_agg w _ _ _ _ _ _ Y];simp only[aNb];rw[run_neq_struct,U];rfl
   cases j
  cases j
 cases j
end
end Go.Proofs.YtedimeeleabhnaaGreatDoor.Vc
namespace Go.Proofs.YtedimeeleabhnaaGreatDoor.Vc
open Go.RowKit
theorem a7s (s:pI):Lib.strCells ⟨s.toArray⟩=s.map λb=>Value.int .u8 b.toNat:=by
 simp [Lib.strCells]
theorem a7t {P:Program}(w:pY) (t u ty e:TypeId) (i:TypeInfo) (ht:P.underlying t=some (.slice e)) (hu:P.underlying u=some .string) (hi:P.info? e=some i) (hz:i.zero=some (.int .u8 0))
  (G:i.size=1) (V:i.bytes=1) (v:pZ) (n:Nat) (xs:pU) (F:w.ownsRow 0 e 1 v n xs) (s:ByteArray) (hm:0<s.size)
  (X:n+s.size<=maxLen) (ha:n+s.size<=140737488355328):
  ∃q cap w',(Builtin.append_ #[t,u] ty #[v,.string s]).run P w= .ok (.slice (some ⟨q,0,none⟩) (n+s.size) cap) w'/\w'.ownsRow 0 e 1 (.slice (some ⟨q,0,none⟩) (n+s.size) cap) (n+s.size) (xs++Lib.strCells s)/\
   (q=w.heap.size\/v.ownBlock=some q)/\w.grownBy w' v.ownBlock/\n+s.size<=cap/\
   ∀b o,b<w.heap.size->(v.ownBlock=some b->o<n*1)->w'.cell? ⟨b,o,none⟩=w.cell? ⟨b,o,none⟩:=by
 have Z:n+s.size<=9223372036854775807:=by simp only[maxLen] at X;omega
 have I:xs.length=n:=by simpa using F.1
 have E:(xs++Lib.strCells s).length=(n+s.size)*1:=by rw[aM7,I,Lib.strCells_length,aO3]
 have grown: ∀(old:Nat),old<n+s.size->∀(row:pW),
   (w.drew.alloc (.cells (xs.toArray++(Lib.strCells s).toArray++Builtin.zeroCells (Value.int .u8 0).cells (grownCap w (n+s.size) old e- (n+s.size))) e)).ownsRow 0 e 1
    (.slice (some ⟨w.heap.size,0,none⟩) (n+s.size) (grownCap w (n+s.size) old e)) (n+s.size) (xs++Lib.strCells s)/\
   w.grownBy (w.drew.alloc (.cells (xs.toArray++(Lib.strCells s).toArray++Builtin.zeroCells (Value.int .u8 0).cells (grownCap w (n+s.size) old e- (n+s.size))) e)) row/\n+s.size<=grownCap w (n+s.size) old e/\
   ∀b o,b<w.heap.size->(w.drew.alloc (.cells (xs.toArray++(Lib.strCells s).toArray++Builtin.zeroCells (Value.int .u8 0).cells (grownCap w (n+s.size) old e- (n+s.size))) e)).cell? ⟨b,o,none⟩=w.cell? ⟨b,o,none⟩:=by
  intro old ho row;have U:=grownCap_ge w (n+s.size) old e;have M:grownCap w (n+s.size) old e<=maxLen:=grownCap_le_maxLen w (n+s.size) old e X;refine⟨⟨E,.inr ⟨w.heap.size,_,_,rfl,aOz _,aO1 w.drew _,U,M,?_,?_⟩⟩,⟨rfl,rfl,rfl,by simp,λk hk _=>aNB w.drew _ k hk⟩,U,λb o hb=>aNx (w:=w) (a:=⟨b,o,none⟩) (aNB w.drew _ b hb)⟩
  .have hc:(Value.int IntKind.u8 0).cells.size=1:=rfl;simp only[aOU,aN3,size_zeroCells,hc,I,Lib.strCells_length];omega
  simp only[Array.toList_append,aNd];rw[<-aNd,<-E];exact aOL
 rcases F.2 with⟨rfl,rfl⟩ |⟨g,cap,cur,rfl,hj,Y,hq,M,hh,O⟩
 .have hx:xs=[]:=aND I;subst hx;have hr:=run_append_nil_string (P:=P) w t u ty e i (.int .u8 0) ht hu hi hz s pM pM (by rw[V];omega);have z:=grown 0 pM (Value.ownBlock (.slice none 0 0));simp only[aNF,List.nil_append,Array.empty_append] at z|-;have e1:(s.data.map λb=>Value.int .u8 b.toNat)=(Lib.strCells s).toArray:=by
   apply Array.ext';simp [Lib.strCells]
  rw[e1] at hr;exact⟨_,_,_,hr,z.1,.inl rfl,z.2.1,z.2.2.1,λb o hb _=>z.2.2.2 b o hb⟩
 by_cases D:n+s.size<=cap
 .have hn:cur.size=cap:=by simpa using hh
  have hr:=Lib.run_append_room_string (P:=P) w t u ty e i ht hu hi G g n cap cur Y s D pM;refine⟨_,_,_,hr,⟨E,.inr ⟨g,cap,_,rfl,hj,setRow_heap w g cur _ e _ Y,D,M,?_,?_⟩⟩,.inr rfl,⟨rfl,rfl,rfl,by simp,λk _ hk=>aOV w g k _ (λe=>hk (by simp [Value.ownBlock,e]))⟩,D,λb o hb he=>?_⟩
  .simp only[aN3,aM7,aNR,aNE,aN7,Lib.strCells_length];omega
  .have hd:cur.toList.take n=xs:=by simpa using O
   rw[hd,<-E];exact aOL
  by_cases K:b=g
  .subst K;have ho:=he rfl;rw[cell_setRow_same w b o cur _ e _ Y,cell_of_row w b o cur e (0,0) Y];have R:o<(cur.toList.take n).length:=by rw[aNR,aN7];omega
   have hl:o<cur.size:=by rw[aNR,aN7] at R;omega
   simp only[List.getElem?_toArray,aNd];rw[aNo R,List.getElem?_take,aM4 pM];simp
  exact aNx (a:=⟨b,o,none⟩) (aOV w g b _ K)
 have Q: ∀j u,xs[j]? =some u->w.cell? ((⟨g,0,none⟩:Addr).add j)=some u:=F.cells (g:=g) rfl;have hr:=Lib.run_append_grow_string (P:=P) w t u ty e i (.int .u8 0) ht hu hi hz ⟨g,0,none⟩ n cap xs (by rw[G];simpa using I) Q s pM pM (by rw[V];exact growslice_fits pM pM);have z:=grown cap pM (Value.ownBlock (.slice (some ⟨g,0,none⟩) n cap));exact⟨_,_,_,hr,z.1,.inl rfl,z.2.1,z.2.2.1,λb o hb _=>z.2.2.2 b o hb⟩
theorem a7u {P:Program}(w:pY) (t u ty e:TypeId) (i:TypeInfo) (E:P.underlying t=some (.slice e)) (D:P.underlying u=some .string) (hi:P.info? e=some i) (j:i.size=1) (ad:Option Addr) (n c:Nat) (z:n<=c):
  (Builtin.append_ #[t,u] ty #[.slice ad n c,.string ⟨#[]⟩]).run P w= .ok (.slice ad n c) w:=by
 have hf:=Lib.run_firstCells_string (P:=P) w 1 ⟨#[]⟩;have hm:(⟨#[]⟩:ByteArray).size=0:=rfl;rw[hm] at hf;cases ad<;>simp [Builtin.append_,aNs E,aNs D,sizeOf,typeInfo,hi,j,Builtin.lenOf,hm,hf,z,Lib.strCells,storeCells]
theorem Fk (g:Gh) (w:pY): ∀s:pI,uR (Rd g w (.int .u8)) 1 (tK s) (s.map λb=>Value.int .u8 b.toNat)
 |[]=>rfl
 |b::s=>⟨[.int .u8 b.toNat],_,rfl,rfl,rfl,Fk g w s⟩
section
variable {P:Program}{o:Oper}{a:Act}{g:Gh}{w:pY}{H:sA}{T:sH}(hT:vX P T) (hH:sL g w H)
include hT hH
theorem a7v {t t':TypeId}{x:Operand}(E:o.op= .convert t t' x) {sx:qK}(D:rY g w sx (a.eval x)) {e:r9}
  (hr:AU (jm T (s0 T t) (s0 T t') sx)=some e):rS P o a g w H e:=by
 obtain⟨q,j,rfl⟩:=J9 hr;replace D:=D.1;generalize M:s0 T t=o1 at j;generalize K:s0 T t'=o2 at j;unfold jm at j;split at j
 .rename_i e b1 a1 l1 e2 b2 a2 l2 l k;generalize I:s0 T e=o3 at j;unfold Ak at j;split at j
  .cases j;have d1:=(t7 hT M).2;have d2:=(t7 hT K).2;have d3:=(t7 hT I).2;simp only[xG] at d1 d2 d3;obtain⟨ad,cap,hv,O,F⟩:=EY D;refine rS.pure hH (v:= .string ⟨(tQ l).toArray⟩) ?_ (BR _ _ _);simp only[execOp,E,hv,aNi];have run:(convert t t' (.slice ad (List.length l) cap)).run P w= .ok (.string ⟨(tQ l).toArray⟩) w:=by
    rcases F with rfl|⟨b,off,rfl,G⟩
    .rw[run_convert_bytes_string w t t' e ad _ cap d1.1 d3 d2];cases ad with
     |none=>simp [Conv.bytesToString,tQ];rfl
     |some ad=>simp [Conv.bytesToString,loadCells,loadCellsFrom,tQ];rfl
    have:=run_convert_bytes_arg (P:=P) w t e d1.1 d3 b off (List.length l) cap l rfl (λi hi=>by
     obtain⟨cs,_,c2,_,c4⟩:=VH G (aNe hi);have c5:cs=[.int .u8 (l[i]:Int)]:=c4;subst c5;have:=c2 0 _ rfl;have z:Ty.cells (.int .u8)=1:=rfl;rw[z,aO3,aOd] at this;rw[this,aNy,aNe hi];rfl) t' d2
    exact this
   rw[run];rfl
  cases j
 cases j
theorem a7w {args:Array Operand}{tys:Array TypeId}(ho:o.op= .call ⟨.builtin .append,args,tys⟩) {ρ:Operand->qK}(hρ: ∀x∈args.toList,rY g w (ρ x) (a.eval x)) {e:r9}
  (hr:ZH T H (vW ρ args.toList) tys.toList=some e) (hs: ∀p∈e.side,p):rS P o a g w H e:=by
 unfold ZH at hr;split at hr
 .rename_i t u hl;have K:tys= #[t,u]:=by apply aOe.1;rw[hl]
  split at hr
  .rename_i e1;subst e1;exact a6M hT hH ho hρ K hr hs
  clear hl;subst K;generalize hst:s0 T t=ot at hr;generalize hF:s0 T u=ou at hr;generalize hG:vW ρ args.toList=ss at hr;unfold ll at hr;split at hr
  .rename_i el ar ls_ e2 b2 a2 ls2 l k s k2;generalize hk:qT H k=ob at hr;unfold ZG at hr;split at hr
   .rename_i e' c n;split at hr
    .rename_i hM;obtain⟨rfl,rfl⟩:=hM;cases hr;rw[aM7];have G:List.length (tK s)=List.length s:=by simp [tK]
     rw[G];have z:=hs _ (by simp:(List.length l=n)∈_);have hR:=hs _ (by simp:(List.length l+List.length s<=140737488355328)∈_);obtain⟨v,vr,hv,V,hI⟩:=ag hT hH hρ hG;obtain⟨R,h3,_⟩:=(t7 hT hst).2;have hu:=(t7 hT hF).2;simp only[xG] at hu;obtain⟨ei,hw,hz⟩:=aNh.1 h3;simp only[aNA] at hz;obtain⟨cs,hx⟩:=H5 (a:=a) hT hH ho;obtain⟨v0,xs,hh,D,ha,Z⟩:=hH.blk k _ hk;have O:g.cur k (List.length l)=some v:=V.2;rw[z,hh] at O;obtain rfl:=aNa O;obtain⟨adl,capl,U,hB,hK⟩:=EY V.1;have he:=xO hI.1;have I:(⟨List.toArray s⟩:ByteArray).size=List.length s:=by simp [ByteArray.size]
     by_cases hm:List.length s=0
     .obtain rfl:s=[]:=aND hm;have E: ∀i,qT (rJ [(k,qP.grow e' 1 (List.length l+List.length ([]:pI)))] H) i=qT H i:=by
       intro i;simp only[rJ,qT];by_cases hi:k=i
       .subst hi;rw[aM4 rfl,hk,z];rfl
       rw[aM9 hi]
      have hc:sC g w H ⟨[List.length l=n,List.length l+List.length ([]:pI)<=140737488355328],(.val (.list (.int .u8)) (l++tK []),some k),[(k,.grow e' 1 (List.length l+List.length ([]:pI)))],[k]⟩ g w v0:=by
       refine⟨.refl _ _,?_,⟨λi b h=>hH.blk i b ((E i).symm.trans h),λi j bi bj b o' hL h1 R=>hH.dis i j bi bj b o' hL ((E i).symm.trans h1) ((E j).symm.trans R),hH.sl,hH.tab.1,λi blk b o' h X=>hH.tab.2 i blk b o' ((E i).symm.trans h) X⟩,.refl _ _ _,λi blk b o' hi hg X=> .inr ⟨i,blk,hi,(E i).symm.trans hg,X⟩,λ_ _=>⟨rfl,rfl⟩,λi u' y us h=> .inl ⟨y,us,(E i).symm.trans h⟩⟩;rw[show l++tK []=l from by simp [tK]];exact V
      refine rS.value (v:=v0) (w':=w) ?_ hc;rw[hx,hv,he,U];have:=a7u (P:=P) w t u o.type e' ei R hu hw (by rw[hz.1];rfl) adl (List.length l) capl hB;simp only[builtin,aNi];rw[this];simp only[aNb,aNu]
     have hC:uR (Rd g w (.int .u8)) 1 l xs:=by
      by_cases h0:List.length l=0
      .obtain rfl:l=[]:=aND h0;have:xs=[]:=aND (by rw[D.1,<-z];simp);exact this
      rcases hK with rfl|⟨b0,off0,rfl,hQ⟩
      .exact absurd rfl h0
      obtain⟨ls,hy,hA,_⟩:=VI hQ;rcases D.2 with⟨e1,e2⟩ |⟨q,cap,cur,e1,e2⟩
      .exact absurd (z.trans e2) h0
      rw[U] at e1;simp only[aOn,aM6,Addr.mk.injEq] at e1;obtain⟨⟨rfl,rfl,_⟩,_,rfl⟩:=e1;have hD:v0= .slice (some ⟨b0,0,none⟩) n capl:=by rw[U,z]
      have hJ:=nd (hD▸D);have:ls=xs:=by
       have Y:=LY hy;have hn:=D.1;have hN:Ty.cells (.int .u8)=1:=rfl;rw[hN] at Y;apply List.ext_getElem?;intro j;by_cases hj:j<ls.length
       .have h1:=hA j ls[j] (aNe hj);have ht:j<xs.length:=by rw[hn,<-z,<-Y];exact hj
        have R:=hJ j xs[j] (aNe ht);rw[h1] at R;rw[aNe hj,aNe ht,aNa R]
       rw[aOj pM,aOj (by rw[hn,<-z,<-Y];omega)]
      rw[<-this];exact hy
     obtain⟨q,cap,w',M,F,hq,hg,Q,hd⟩:=a7t (P:=P) w t u o.type e' ei R hu hw hz.2.2 hz.1 hz.2.1 v0 n xs D ⟨List.toArray s⟩ (by rw[I];omega) (by rw[I];unfold maxLen;omega) (by rw[I];omega);rw[I] at M F Q;rw[a7s] at F;refine rS.value (v:= .slice (some ⟨q,0,none⟩) (n+List.length s) cap) (w':=w') ?_ (by
      have:=sC.append (side:=[List.length l=n,List.length l+List.length s<=140737488355328]) (rds:=[k]) (u:= .int .u8) (r:=tK s) hH hk (show (1:Nat)=Ty.cells (.int .u8) from rfl) z hh D ha Z hC (Fk g w s) (by rw[G];omega) (by rw[G];exact F) hq hg (by rw[G];exact Q) hd;rw[G] at this;rw[z];rw[z] at this;exact this)
     rw[hx,hv,he];simp only[builtin,aNi,M,aNb,aNu]
    cases hr
   cases hr
  cases hr
 cases hr
end
theorem a7x {g g':Gh}{w:pY}{f:qK->qK}(hf: ∀s u,rY g w s u->rY g' w (f s) u): ∀{l:List qK}{v:pZ}{s:qK},VM g w l v->QC (l.map f)=some s->rY g' w s v:=by
  have un: ∀{l:List qK}{vs:pU}{q},wR g w l vs->GU (l.map f)=some q->QQ g' w q vs:=by
    intro l
    induction l with
    | nil=>
      intro vs q h j;simp only[List.map_nil,GU,aM6] at j;subst j;exact h
    | cons s l ih=>
      rintro vs q ⟨v,vs',rfl,G,F⟩ j;have z:=hf s v G;simp only[aN8] at j;generalize f s=fs at j z;obtain⟨d,k⟩:=fs;cases d with
      | val t x=>
        simp only[GU] at j;obtain⟨q',E,rfl⟩:=aNh.1 j;refine⟨v,vs',rfl,z.1,?_,ih F E⟩;cases k with
        |none=>trivial
        |some k=>exact z.2
      | own k' n=>
        simp only[GU] at j;obtain⟨q',E,rfl⟩:=aNh.1 j;exact⟨v,vs',rfl,.inr ⟨rfl,v,z.1.1,rfl,z.1.2⟩,trivial,ih F E⟩
      |_=>simp [GU] at j
  intro l v s h D
  match l,h,D with
  | [],⟨vs,e,h⟩,D=>
    simp only[List.map_nil,QC,aM6] at D;subst D;rw[show vs=[] from h] at e;exact⟨⟨[],e,rfl⟩,trivial⟩
  | [x],h,D=>
    simp only[aN8,List.map_nil,QC,aM6] at D;subst D;exact hf x v h
  | x::y::l,⟨vs,e,h⟩,D=>
    simp only[aN8,QC,aM6] at D;subst D;cases j:GU (f x::f y::l.map f) with
    |none=>exact⟨trivial,trivial⟩
    |some q=>exact⟨⟨vs,e,un (l:=x::y::l) h aO5⟩,trivial⟩
theorem Fl {base n:Nat}{W:List rW}: ∀l:List qK,UT base n W l=l.map (YL base n W)
  |[]=>rfl
  |s::l=>by simp [UT,Fl l]
theorem Fm {P:Program}{f:FuncId}{sg:r7}(O:yV P f sg.C) {g:Gh}{w:pY}{H:sA}(hH:sL g w H) {args:List qK}{vals:pU}(I:wR g w args vals) {base:Nat}{e:r9}
    (hr:GW H base args (some sg)=some e) (U: ∀p∈e.side,p) (M:yU g base e):Calls P f vals.toArray w (λen w'=> ∃v g',en= .returned v/\sC g w H e g' w' v):=by
  simp only[GW] at hr;cases F:xW H sg.ps args (some ⟨[],[],[],0⟩) with
  |none=>rw[F] at hr;cases R:sg.gs<;>(rw[R] at hr;simp [UU,BM] at hr)
  |some q0=>
   rw[F] at hr;cases hp:BM H sg.gs (some q0) with
   |none=>rw[hp] at hr;simp [UU] at hr
   |some q=>
    rw[hp] at hr;simp only[UU,Fb,List.append_nil] at hr;have E:=Eu hH (BT.nil g w H) I F;rw[List.nil_append] at E;have K:=Ey hH E hp;cases G:IX q.ws.reverse q.H.reverse with
    |none=>rw[G] at hr;simp [YO] at hr
    |some L=>
    rw[G] at hr;simp only[YO] at hr;have hm:=K.m.ren G;cases Q:sg.C q.args.reverse L with
    |none=>rw[Q] at hr;simp [YN] at hr
    | some r=>
      rw[Q] at hr;simp only[YN,Fa] at hr;cases D:BN base r.H.length q.ws.reverse 0 q.ws.reverse r.H with
      |none=>rw[D] at hr;simp [US] at hr
      | some upd=>
        rw[D] at hr;cases z:QC (UT base r.H.length q.ws.reverse r.ret) with
        |none=>rw[z] at hr;simp [US] at hr
        | some s=>
          rw[z] at hr;simp only[US,aM6] at hr;subst hr;refine(O.2 (vJ g q.ws.reverse) w q.args.reverse _ L r (a7a hH hm) K.args Q U).mono ?_;rintro en w' ⟨v,g',rfl,j⟩;refine⟨v,_,rfl,a7q hH hm j D M ?_⟩;rw[Fl] at z;exact a7x (λs u h=>a7o hH hm j D M h) j.ret z
theorem VQ {g g':Gh}{w w':pY}: ∀{t:Ty}{x:t.den}{cs:pU},IY t=true->Rd g w t x cs->Rd g' w' t x cs
  | .bool,_,_,_,r=>r
  | .int _,_,_,_,r=>r
  | .str,_,_,_,r=>r
  | .unit,_,_,_,r=>r
  | .fn,_,_,_,r=>r
  | .pair a b,_,_,h,⟨c1,c2,e,r1,r2⟩=>by
    simp only[IY,aNf] at h;exact⟨c1,c2,e,VQ h.1 r1,VQ h.2 r2⟩
  | .list _,_,_,h,_=>by cases h
  | .ref,_,_,h,_=>by cases h
  | .clo,_,_,h,_=>by cases h
  | .mp,_,_,h,_=>by cases h
  | .rl _ _,_,_,h,_=>by cases h
  | .mref,_,_,h,_=>by cases h
  | .part,_,_,h,_=>by cases h
theorem Fn {g g':Gh}{w:pY}{k n:Nat}{t:Ty}{l:List t.den}(le:Le g w g' w) (hk: ∀u,g.cur k n=some u->((u= .slice none 0 0/\n=0)\/∃b cap,u= .slice (some ⟨b,0,none⟩) n cap/\n<=cap)->sR g' w (.list t) l u):
    ∀{args:List qK}{vals:pU},wR g w args vals->(∀p∈LH k n args,p)->wR g' w (UW k t l args) vals
  |[],_,h,_=>h
  | s::ss,_,⟨v,vs,rfl,D,E⟩,hp=>by
    refine⟨v,vs,rfl,?_,Fn le hk E (λp z=>hp p ?_)⟩
    · obtain⟨d,x⟩:=s
      cases d with
      | own j m=>
        simp only[Au];split
        · rename_i e
          subst e;have hm:m=n:=hp (j=j->m=n) (by simp only[LH];exact aNq) rfl;subst hm;exact⟨hk _ D.1.1 D.1.2,trivial⟩
        .exact DQ le D
      |_=>exact DQ le D
    obtain⟨d,x⟩:=s
    cases d with
    |own j m=>simp only[LH];exact aNp _ z
    |_=>exact z
theorem a7y {P:Program}{f:FuncId}{sg:r7}(hz:yV P f sg.C) {g:Gh}{w:pY}{H:sA}(hH:sL g w H) {args:List qK}{vals:pU}(hn:wR g w args vals) {base:Nat}{e:r9}{k:Nat}
    (hr:UX H base args sg k (qT H k)=some e) (hs: ∀p∈e.side,p) (hK:yU g base e):Calls P f vals.toArray w (λen w'=> ∃v g',en= .returned v/\sC g w H e g' w' v):=by
  cases hk:qT H k with
  |none=>rw[hk] at hr;cases hr
  | some b=>
    rw[hk] at hr;cases b with
    | row e0 t l m=>
      simp only[UX] at hr;cases hi:GW ((k,.dead)::H) base (UW k t l args) (some sg) with
      |none=>rw[hi] at hr;cases hr
      | some e1=>
        rw[hi] at hr;unfold jr at hr;split at hr
        · rename_i side t' x kk U rds heq
          simp only[aM6] at heq;subst heq;split at hr
          · rename_i G
            simp only[aNf,aNS] at G;obtain⟨⟨G,Z⟩,hw⟩:=G;have hy:k∉qV U:=λh=>by rw[H7.2 h] at hw;cases hw
            cases hr;obtain⟨hl,v,xs,hv,V,hF,hN,hM⟩:=hH.blk k _ hk
            let g':Gh:={g with S:=λb o=>g.S b o\/(v.ownBlock=some b/\o<m*t.cells)}
            have le:Le g w g' w:=⟨λ_ _ h=> .inl h,λ_ _ _=>rfl,λ_ _ h=>h,λ_ _ _ h=>h⟩;have he: ∀b,v.ownBlock=some b->∀o,sB g k (.row e0 t l m) b o:=λb hb o=>⟨v,hv,hb⟩
            have hh: ∀u,g.cur k m=some u->((u= .slice none 0 0/\m=0)\/∃b cap,u= .slice (some ⟨b,0,none⟩) m cap/\m<=cap)->sR g' w (.list t) l u:=by
              intro u hu Q;rw[hv] at hu;obtain rfl:=aNa hu;rcases Q with⟨rfl,h0⟩ |⟨b,cap,rfl,hA⟩
              · have:l=[]:=aND (by rw[hl,h0])
                subst this;exact .inr ⟨rfl,none,0,rfl,aNt _,.inl rfl⟩
              refine .inr ⟨rfl,some ⟨b,0,none⟩,cap,by rw[hl],by rw[hl];exact hA,.inr ⟨b,0,rfl,QV (CV (λ_ _ h=>xE le h) hF) (λj u hu=>?_) (λj hj=>?_)⟩⟩
              · have:=V.cells (g:=b) rfl j u hu
                rwa [aOg] at this
              right
              exact⟨rfl,by rw[hl] at hj;omega⟩
            have D: ∀i b,qT ((k,qP.dead)::H) i=some b->(i=k/\b= .dead)\/(i≠k/\qT H i=some b):=by
              intro i b hb;simp only[qT] at hb;split at hb
              .rename_i e1;exact .inl ⟨e1.symm,(aNa hb).symm⟩
              rename_i e1;exact .inr ⟨Ne.symm e1,hb⟩
            have hL:sL g' w ((k,qP.dead)::H):=by
              refine⟨λi b hb=>?_,λi j bi bj b o hc O h2 o1 o2=>?_,λb o E=>?_,hH.tab.1,λi b bb oo hb ho=>?_⟩
              · rcases D i b hb with⟨rfl,rfl⟩ |⟨I,O⟩
                .trivial
                exact QR (hH.blk i b O) le rfl rfl (λ_ _ _=>⟨rfl,rfl⟩) (λ_ _=>rfl) (λbb o ho E=>by
                   rcases E with E|E
                   .exact E
                   exact absurd (he bb E.1 o) (λh5=>hH.dis i k b _ bb o I O hk ho h5)) (λ_ _ _ _ h=>h)
              · rcases D i bi O with⟨_,rfl⟩ |⟨_,O⟩
                .exact o1.elim
                rcases D j bj h2 with⟨_,rfl⟩ |⟨_,h2⟩
                .exact o2.elim
                exact hH.dis i j bi bj b o hc O h2 ((zS (g':=g') (g:=g) rfl rfl).1 o1) ((zS (g':=g') (g:=g) rfl rfl).1 o2)
              · rcases E with E|E
                .exact hH.sl b o E
                exact VD V E.1
              rcases D i b hb with⟨_,rfl⟩ |⟨_,O⟩
              .exact ho.elim
              exact hH.tab.2 i b bb oo O ((zS (g':=g') (g:=g) rfl rfl).1 ho)
            have hq: ∀p,p∈LH k m args\/p∈side->p:=λp hp=>hs p (VL.2 hp)
            have M: ∀i,i≠k->qT ((k,qP.dead)::H) i=qT H i:=λi hi=>by
              simp only[qT];rw[aM9 (Ne.symm hi)]
            have hx: ∀{i},i∈qV U->i≠k:=λh e=>hy (e▸h)
            have F: ∀{i blk},i∈qV U->qT (rJ U H) i=some blk->qT (rJ U ((k,qP.dead)::H)) i=some blk:=by
              intro i blk hi h
              have: ∀{U:List (Nat×qP)},i∈qV U->qT (rJ U ((k,qP.dead)::H)) i=qT (rJ U H) i:=by
                intro U
                induction U with
                |nil=>intro h;cases h
                | cons q U ih=>
                  intro h;obtain⟨j,b⟩:=q;simp only[rJ,qT];split
                  .rfl
                  rename_i I
                  simp only[qV,aNk] at h;exact ih (h.resolve_left (λe=>I e.symm))
              rw[this hi];exact h
            have R: ∀{i blk},i∈qV U->qT (rJ U H) i=some blk->∃t y,blk= .cells t y []/\IY t=true:=by
              intro i blk hi h
              have: ∀{U:List (Nat×qP)},QD U=true->i∈qV U->qT (rJ U H) i=some blk->∃t y,blk= .cells t y []/\IY t=true:=by
                intro U
                induction U with
                |nil=>intro _ h;cases h
                | cons q U ih=>
                  intro Z hi h;obtain⟨j,b⟩:=q;cases b with
                  | cells t y ts=>
                    cases ts with
                    |cons _ _=>simp [QD] at Z
                    | nil=>
                      simp only[QD,aNf] at Z;simp only[rJ,qT] at h;split at h
                      · obtain rfl:=aNa h
                        exact⟨t,y,rfl,Z.1⟩
                      · rename_i I
                        simp only[qV,aNk] at hi;exact ih Z.2 (hi.resolve_left (λe=>I e.symm)) h
                  |_=>simp [QD] at Z
              exact this Z hi h
            have z: ∀b o,sX g' ((k,qP.dead)::H) (qV U) b o->sX g H (qV U) b o:=λb o ⟨i,blk,hi,O,h2⟩=>⟨i,blk,hi,(M i (hx hi)).symm.trans O,(zS (g':=g') (g:=g) rfl rfl).1 h2⟩;refine(Fm hz hL (Fn le hh hn (λp hp=>hq p (.inl hp))) hi (λp hp=>hq p (.inr hp)) (λi hG hb=>hK i hG hb)).mono ?_;rintro en w' ⟨v1,g1,rfl,hE⟩
            let g2:Gh:={g1 with S:=g.S}
            have ht:Le g w g2 w':=⟨λ_ _ h=>h,λb o h=>hE.le.cell b o (.inl h),λi p h=>hE.le.J i p h,λi n u h=>hE.le.cur i n u h⟩
            have Y:Fr (sX g H (qV U)) w w' g.S g2.S:=
              ⟨hE.fr.os,hE.fr.tape,hE.fr.output,hE.fr.size,λb hb ha=>hE.fr.blk b hb (λo h=>ha o (z b o h)),λb o hb ha=>hE.fr.cell b o hb (λh=>ha (z b o h)),λ_ _ h=> .inl h,λb s h=>(hE.fr.shape b s h).imp id λh o=>z b o (h o)⟩
            have X: ∀i,i∉qV U->g2.J i=g.J i/\g2.cur i=g.cur i:=λi hi=>hE.gho i hi
            have K: ∀i blk b o,i∈qV U->qT (rJ U H) i=some blk->sB g2 i blk b o->w.heap.size<=b\/sX g H (qV U) b o:=λi blk b o hi hg ho=>
              (hE.perm i blk b o hi (F hi hg) ((zS (g':=g2) (g:=g1) rfl rfl).1 ho)).imp id (z b o)
            refine⟨v1,g2,rfl,ht,⟨?_,trivial⟩,hH.upd ht Y K X (λi blk hi hg=>?_) (λi j bi bj b o hi hj hc hJ hI hC hB=>?_) (λb o h=>aNI (hH.sl b o h) hE.fr.size),Y,K,X,λi u y us h=>?_⟩
            .exact hE.slot.1.imp (λ⟨a,cs,e,q⟩=>⟨a,cs,e,VQ G q⟩) (λ⟨a,q⟩=>⟨a,VQ G q⟩)
            · obtain⟨t2,y2,rfl,hD⟩:=R hi hg
              obtain⟨p,cs,q1,q2,q3,q4,q5,_⟩:=hE.heap.blk i _ (F hi hg);exact⟨p,cs,q1,VQ hD q2,q3,q4,λj hj E=>q5 j hj (hE.le.S _ _ (.inl E)),λ_ _ hm=>by cases hm⟩
            .exact hE.heap.dis i j bi bj b o hc (F hi hJ) (F hj hI) ((zS (g':=g2) (g:=g1) rfl rfl).1 hC) ((zS (g':=g2) (g:=g1) rfl rfl).1 hB)
            by_cases hd:i∈qV U
            · rcases hE.ty i u y us (F hd h) with⟨x',ts',q⟩ |q
              .exact .inl ⟨x',ts',(M i (hx hd)).symm.trans q⟩
              exact .inr q
            exact .inl ⟨y,us,(CW hd).symm.trans h⟩
          cases hr
        .cases hr
    |_=>cases hr
theorem a7z {P:Program}{f:FuncId}{F:(t:Ty)->List t.den->Option (List t.den)}(hF:nz P f F) {g:Gh}{w:pY}{H:sA}(hH:sL g w H) {args:List qK}{vals:pU}(G:wR g w args vals) {e:r9}
    (hr:YP H F args=some e) (U: ∀p∈e.side,p):Calls P f vals.toArray w (λen w'=> ∃v g',en= .returned v/\sC g w H e g' w' v):=by
  unfold YP at hr;split at hr
  · rename_i k n x
    obtain⟨v,vs,rfl,Z,hv⟩:=G;rw[show vs=[] from hv];cases hk:qT H k with
    |none=>rw[hk] at hr;cases hr
    | some b=>
      rw[hk] at hr;cases b with
      | row e0 t l m=>
        simp only[js] at hr;cases hf:F t l with
        |none=>rw[hf] at hr;cases hr
        | some l'=>
          rw[hf] at hr;cases hr;have K:n=m:=U _ aNq;subst K;obtain⟨Y,v0,xs,D,I,Q,E,j⟩:=hH.blk k _ hk;have X:=Z.1.1;rw[D] at X;obtain rfl:=aNa X;refine(hF g w e0 t l l' v0 n xs hH.tab.1 I Q Y (U _ pO) hf).mono ?_;rintro en w' ⟨rfl,O,xs',k1,k2,k3⟩;have z: ∀b,v0.ownBlock=some b->∀o,sX g H [k] b o:=λb hb o=>⟨k,_,by simp,hk,v0,D,hb⟩;refine⟨_,_,rfl,sC.row (v:=v0) (xs:=xs') hH O k1 k2 E (λu R=>by rw[D] at R;exact(aNa R).symm) (.inr ⟨v0.ownBlock,k3,z⟩) (λb o V=>?_) j (λb hb=> .inr (z b hb)) ⟨⟨[],rfl,rfl⟩,trivial⟩⟩;have M:v0.ownBlock≠some b:=λe=>j b e o V;exact aNx (a:=⟨b,o,none⟩) (k3.block b (hH.sl b o V) (λe=>M e.symm))
      |_=>cases hr
  cases hr
section
variable {P:Program}{o:Oper}{a:Act}{g:Gh}{w:pY}{H:sA}{T:sH}{Γ:tS}(hT:vX P T) (hΓ:DT P Γ) (hH:sL g w H)
include hT hΓ hH
theorem Fo {f:FuncId}{args:List qK}{vals:pU}(j:wR g w args vals) {base:Nat}{e:r9}(hr:LN H base args (V2 Γ f)=some e) (I: ∀p∈e.side,p) (E:yU g base e):
    (∀args w,(callFunc f args).run P w= .ok (.enter f args) w)/\Calls P f vals.toArray w (λen w'=> ∃v g',en= .returned v/\sC g w H e g' w' v):=by
  cases D:V2 Γ f with
  |none=>rw[D] at hr;cases hr
  | some sg=>
    rw[D] at hr
    obtain⟨M,D⟩:f<1000000000/\Γ f=some sg:=by
      unfold V2 at D;split at D
      .rename_i h;exact⟨h,D⟩
      cases D
    obtain⟨z,G⟩:=hΓ f sg M D;refine⟨z.1,?_⟩;simp only[LN] at hr;cases K:sg.row with
    | some F=>
      rw[K] at hr;exact a7z (G F K) hH j hr I
    | none=>
      rw[K] at hr;simp only[ZE] at hr;cases O:UV sg.ps args with
      | some k=>
        rw[O] at hr;exact a7y z hH j hr I E
      | none=>
        rw[O] at hr;exact Fm z hH j hr I E
theorem a7A {fop:Operand}{args:Array Operand}{tys:Array TypeId}(V:o.op= .call ⟨.value fop,args,tys⟩) {ρ:Operand->qK}(hf:rY g w (ρ fop) (a.eval fop)) (hρ: ∀x∈args.toList,rY g w (ρ x) (a.eval x)) {base:Nat}{e:r9}
    (hr:QG Γ H base (GY T ρ args.toList tys.toList) (ρ fop)=some e) (U: ∀p∈e.side,p) (E:yU g base e) (F:args.size=tys.size):rS P o a g w H e:=by
  have j:=Ee (a:=a) (ρ:=ρ) hT hΓ hH (xs:=args.toList) (ts:=tys.toList) aPd hρ;unfold QG at hr;split at hr
  · rename_i f caps k heq
    rw[heq] at hf
    obtain⟨vs,R,z⟩: ∃vs,yI g caps vs/\a.eval fop= .func (.func f) #[] vs.toArray:=by
      rcases hf.1 with⟨O,_⟩ |⟨_,vs,M,X⟩
      .cases O
      simp only[aNW,and_true] at X
      exact⟨vs,M,X⟩
    obtain⟨D,G⟩:=Fo hT hΓ hH (a63 hT hΓ hH j (Ef hT hΓ hH R)) hr U E;intro K Q I;refine Eg V z D (G.mono ?_);rintro en w' ⟨v,g',rfl,hE⟩;exact⟨v,rfl,I _ w' v hE.w⟩
  · rename_i f k heq
    rw[heq] at hf
    have z:a.eval fop= .func (.func f) #[] ([]:pU).toArray:=by
      rcases hf.1 with⟨O,_⟩ |⟨_,M⟩
      .cases O
      simpa[Rd,Ce] using M
    obtain⟨D,G⟩:=Fo hT hΓ hH j hr U E;intro K Q I;refine Eg V z D ?_;rw[List.append_nil];refine G.mono ?_;rintro en w' ⟨v,g',rfl,hE⟩;exact⟨v,rfl,I _ w' v hE.w⟩
  cases hr
theorem Fp: ∀{xs:List Operand}{ts:List TypeId},LO xs ts=true->xs.length=ts.length
  |[],[],_=>rfl
  |_::xs,_::ts,h=>by simp only[LO] at h;simp [Fp h]
  |[],_::_,h=>by cases h
  |_::_,[],h=>by cases h
theorem pi {op:Op}(j:o.op=op) {ρ:Operand->qK}(hρ: ∀x∈sQ op,rY g w (ρ x) (a.eval x)) {base:Nat}{e:r9}(hr:uL T Γ o.type ρ base H op=some e) (D: ∀p∈e.side,p) (hf:yU g base e):rS P o a g w H e:=by
  unfold uL at hr;split at hr
  · rename_i x
    exact Di hT hH (.inl j) (hρ x aPf) hr hf
  · rename_i x
    exact Di hT hH (.inr j) (hρ x aPf) hr hf
  .exact a6F hT hH j hr hf
  · rename_i t x
    exact a6G hT hH j (hρ x aPf) (λ_=>oa hT hΓ hH (hρ x aPf)) hr hf
  · rename_i t ps
    exact a6l hT hH j (ρ:=ρ) (λq F=>hρ q.2 (by
      simp only[sQ];generalize ps.toList=l at F
      induction l with
      |nil=>cases F
      |cons p l ih=>rcases aNk.1 F with rfl|h<;>simp_all [sQ.parts])) hr
  · rename_i t n ps
    exact a6L hT hH j (ρ:=ρ) (λq F=>hρ q.2 (by
      simp only[sQ];generalize ps.toList=l at F
      induction l with
      |nil=>cases F
      |cons p l ih=>rcases aNk.1 F with rfl|h<;>simp_all [sQ.parts])) hr hf
  · rename_i t x
    exact a6x hT hH j (hρ x aPf) hr D
  · rename_i t x y
    exact a6K hT hH j (hρ x aPf) (oa hT hΓ hH (hρ y aPf)) hr D hf
  · rename_i x
    exact a6e hT hH j (hρ x aPf) hr
  · rename_i op t x y t'
    cases I:YB op (s0 T t) (ρ x) (ρ y) with
    | some r=>
      rw[I] at hr;exact a55 hH j (hρ x aPf) (hρ y aPf) (by rw[I];exact hr)
    |none=>
    rw[I] at hr;cases hb:YA op (ρ x) (ρ y) with
    | some r=>
      rw[hb] at hr;exact a54 hH j (hρ x aPf) (hρ y aPf) (by rw[hb];exact hr) D
    | none=>
      rw[hb] at hr;exact a7r hT hH j (hρ x aPf) (hρ y aPf) hr
  · rename_i op t x
    exact a56 hH j (hρ x aPf) hr D
  · rename_i t t' x
    cases hb:YD (s0 T t) (s0 T t') (ρ x) with
    | some r=>
      rw[hb] at hr;exact a57 hT hH j (hρ x aPf) (by rw[hb];exact hr)
    | none=>
      rw[hb] at hr;exact a7v hT hH j (hρ x aPf) hr
  · rename_i f first caps
    have K:first= #[]:=by
      cases M:first.toList with
      |nil=>apply aOe.1;simpa using M
      |cons x l=>rw[M] at hr;cases hr
    subst K;exact a6p hT hH j (ρ:=ρ) (λx z=>hρ x aPg) hr
  · rename_i t x lo hi
    refine a6N hT hH j (ρ:=ρ) (hρ x aPf) (λy E=>hρ y ?_) (λy E=>hρ y ?_) hr D hf
    · cases lo with
      |none=>simp at E
      |some l=>simp at E;subst E;simp [sQ,sQ.opt,rJ]
    cases hi with
    |none=>simp at E
    |some l=>simp at E;subst E;cases lo<;>simp [sQ,sQ.opt,rJ]
  · rename_i t x f
    exact a6c hT hH j (hρ x aPf) hr
  · rename_i t x f
    exact a6b hT hH j (hρ x aPf) hr
  · rename_i t x ix
    exact a6h hT hH j (hρ x aPf) (hρ ix aPf) hr D
  · rename_i t x ix
    exact a6f hT hH j (hρ x aPf) (hρ ix aPf) hr D
  · rename_i x i
    exact a6d hT hH j (hρ x aPf) hr D
  · rename_i t r
    exact a6V hT hH j hr hf
  · rename_i t x
    exact a60 hT hH j (hρ x aPf) hr hf
  · rename_i x b
    exact a61 hT hH j (hρ x aPf) hr
  · rename_i t x i ok
    exact a6Y hT hH j (hρ x aPf) (hρ i aPf) hr
  · rename_i t m k x
    exact Eb hT hH (.inl j) (hρ m aPf) (hρ k aPf) (Ea (hρ x aPf)) hr
  · rename_i t m k x
    exact Eb hT hH (.inr j) (hρ m aPf) (hρ k aPf) (Ea (hρ x aPf)) hr
  · rename_i c
    obtain⟨cal,args,tys⟩:=c;simp only at hr;unfold LP at hr;split at hr
    .exact a6o hT hH j (ρ:=ρ) (λx z=>hρ x aPg) hr
    .exact a7w hT hH j (ρ:=ρ) (λx z=>hρ x aPg) hr D
    .exact Cw (mx:=true) hT hH j (ρ:=ρ) (λx z=>hρ x aPg) hr
    .exact Cw (mx:=false) hT hH j (ρ:=ρ) (λx z=>hρ x aPg) hr
    · rename_i f
      cases G:LO args.toList tys.toList with
      |false=>rw[G] at hr;cases hr
      | true=>
        rw[G] at hr;simp only[lm] at hr;exact a7A hT hΓ hH j (hρ f aPf) (λx z=>hρ x (by simp [sQ];right;simpa using z)) hr D hf (by simpa using Fp hT hΓ hH G)
    cases hr
  cases hr
end
def DU (g:Gh) (w:pY) (env:List (Nat×qK)) (tmps:Array pZ):Prop:= ∀t,rY g w (lk env t) (tmps.getD t undef)
def zT (B:Nat) (w:pY) (ds:List Deferred):Prop:=ds.Nodup/\∀d∈ds,∃D,d={target:= .collected D,args:= #[]}/\B<=D/\NG<=D/\w.heap[D]? =some (.deferred (some []))
theorem a7B (B:Nat) (w:pY):zT B w []:=⟨List.nodup_nil,λd j=>by cases j⟩
theorem zT.same {B:Nat}{w w':pY}{ds:List Deferred}(h:zT B w ds) (hb: ∀D:Nat,w.heap[D]? =some (Obj.deferred (some []))->w'.heap[D]? =some (Obj.deferred (some []))):zT B w' ds:=
 ⟨h.1,λd j=>by obtain⟨D,F,E,h0,z⟩:=h.2 d j;exact⟨D,F,E,h0,hb D z⟩⟩
def JC:Obj->Bool
 | .deferred _=>true
 | .loop _=>true
 | .mapIter _ _ _ _=>true
 |_=>false
theorem pj {w:pY}{b:Nat}{ob:Obj}(j:w.heap[b]? =some ob) (hm:JC ob=true) (o:Nat):w.cell? ⟨b,o,none⟩=none:=by
 unfold World.cell?;simp only[j];cases ob<;>first|rfl|cases hm
theorem bf {g:Gh}{w:pY}{i:Nat}{blk:qP}(h:A9 g w i blk) {b o:Nat}(F:sB g i blk b o) {ob:Obj}(D:w.heap[b]? =some ob) (hm:JC ob=true):False:=by
 have E: ∀{e:TypeId}{c n:Nat}{v:pZ}{xs:pU},w.ownsRow 0 e c v n xs->v.ownBlock=some b->False:=by
  intro e c n v xs hr hb;rcases hr.2 with⟨rfl,_⟩ |⟨g',cap,cur,rfl,_,K,_⟩
  .cases hb
  simp only[Value.ownBlock,aM6] at hb;subst hb;rw[D] at K;cases K;cases hm
 cases blk with
 |cells t x toks=>
  obtain⟨p,cs,hp,_,_,M,_⟩:=h;obtain⟨q,z,rfl,I,G⟩:=F;rw[hp] at z;obtain rfl:=aNa z;have:=(M.1 (o-p.2) pM).1;rw[pj D hm] at this;cases this
 |grow e c n=>
  obtain⟨v,xs,hv,hr,_⟩:=h;obtain⟨v',j,hb⟩:=F;rw[hv] at j;obtain rfl:=aNa j;exact E hr hb
 |row e t l n=>
  obtain⟨_,v,xs,hv,hr,_⟩:=h;obtain⟨v',j,hb⟩:=F;rw[hv] at j;obtain rfl:=aNa j;exact E hr hb
 |map k v l=>
  obtain⟨p,es,cl,hp,h0,G,_⟩:=h;obtain⟨q,z,I⟩:=F;rw[hp] at z;obtain rfl:=aNa z;rw[show b=p.1 from I] at D;rw[G] at D;cases D;cases hm
 |iter s n=>
  obtain⟨p,hp,h0,G,_⟩:=h;obtain⟨q,z,I⟩:=F;rw[hp] at z;obtain rfl:=aNa z;rw[show b=p.1 from I] at D;rw[G] at D;cases D;cases hm
 |dead=>exact F.elim
theorem zT.eff {B:Nat}{g g':Gh}{w w':pY}{H:sA}{e:r9}{v:pZ}{ds:List Deferred}(h:zT B w ds) (hH:sL g w H) (k:zR g w H e g' w' v):zT B w' ds:=
 h.same λD j=>by
  rw[k.fr.blk D (aNr.1 j).1 (λo ⟨i,blk,_,E,z⟩=>bf (hH.blk i blk E) z j rfl)];exact j
structure tZ (B:Nat) (g:Gh) (w:pY) (s:St) (a:Act):Prop where
 env:DU g w s.env a.tmps
 heap:sL g w s.H
 size:a.tmps.size=s.N
 nb: ∀i,s.nb<=i->g.J i=none/\∀n,g.cur i n=none
 def_:zT B w a.defers
 np:s.np<=s.nb
theorem a7C (g:Gh) (w:pY) (v:pZ):zA g w (je v) v:=by
 unfold je;split
 .exact w5 _ _ _
 .exact wO _ _ _ _
 .rename_i s;have:=BR g w s.data.toList;rw[aOk] at this;exact this
 .exact rfl
 .exact .inr ⟨rfl,rfl⟩
 .exact .inr ⟨rfl,rfl⟩
 .exact .inr ⟨rfl,rfl⟩
 exact trivial
theorem yW {g:Gh}{w:pY}{env:List (Nat×qK)}{a:Act}(h:DU g w env a.tmps) (x:Operand):rY g w (tC env x) (a.eval x):=by
 cases x with
 |tmp t=>exact h t
 |const v=>exact⟨a7C g w v,trivial⟩
 |func f=>exact⟨.inr ⟨rfl,[],rfl,rfl⟩,trivial⟩
 |global i=>exact⟨trivial,trivial⟩
theorem R4 {g:Gh}{w:pY}{G:Bool}(K:G=true): ∀{ss:List qK}{s:qK}{v:pZ},s∈ss->(∀p∈z8 G ss,p)->rY g w s v->rY g w (xZ s) v
 |x::ss,s,v,hm,F,E=>by
  have D: ∀{s:qK},(∀p∈z8 G [s],p)->rY g w s v->rY g w (xZ s) v:=by
   intro s F E;obtain⟨d,k⟩:=s;cases d with
   |cond p d=>
    refine⟨E.1.1 (F (G=true->p=true) (by simp [z8]) K),?_⟩;simp only[xZ]
   |_=>exact E
  have z: ∀p,p∈z8 G [x]->p∈z8 G (x::ss):=by
   intro p hp;unfold z8 at hp|-;split at hp
   .cases hp
   .rename_i heq;simp only[aNW] at heq;obtain⟨rfl,rfl⟩:=heq;rcases aNk.1 hp with h|h
    .exact h▸aNq
    cases h
   rename_i h0 heq;simp only[aNW] at heq;obtain⟨_,rfl⟩:=heq;cases hp
  have j: ∀p,p∈z8 G ss->p∈z8 G (x::ss):=by
   intro p hp;generalize I:z8 G ss=L at hp;unfold z8;split
   .rename_i h;cases h
   .rename_i heq;simp only[aNW] at heq;obtain⟨_,rfl⟩:=heq;rw[I];exact aNp _ hp
   rename_i heq;simp only[aNW] at heq;obtain⟨_,rfl⟩:=heq;rw[I];exact hp
  rcases aNk.1 hm with rfl|hm
  .exact D (λp hp=>F p (z p hp)) E
  exact R4 K hm (λp hp=>F p (j p hp)) E
theorem bg {env:List (Nat×qK)}: ∀{xs:List Operand}{x:Operand},x∈xs->tC env x∈CS env xs
 |y::xs,x,h=>by
  simp only[CS];rcases aNk.1 h with rfl|h
  .exact aNq
  exact aNp _ (bg h)
theorem VR: ∀(ops:List Oper) (j:Nat),A7 ops j=(ops[j]?).bind (·.dst)
 |[],j=>by simp [A7]
 |o::_,0=>rfl
 |_::r,j+1=>by simpa[A7] using VR r j
section
variable {P:Program}{g:Gh}{w:pY}{T:sH}{Γ:tS}(hT:vX P T) (hΓ:DT P Γ)
include hT hΓ
theorem a7D {ops:List Oper}{o:Oper}{a:Act}{env:List (Nat×qK)}(D:DU g w env a.tmps) {j:Nat}{b:Bool}(M:o.guard=some (j,b)) {G:Bool}(h:GZ env b (A7 ops j)=some G):Region.wanted o (yielded ops.toArray a.tmps)=G:=by
 rw[VR] at h;unfold Region.wanted;rw[M];simp only;cases I:(ops[j]?).bind (·.dst) with
 |none=>rw[I] at h;cases h
 |some t=>
  rw[I] at h;simp only[GZ] at h;have F:yielded ops.toArray a.tmps j=match a.tmps[t]? with|some (.bool b)=>some b|_=>none:=by
   unfold yielded;have:(ops.toArray[j]?).bind (·.dst)=some t:=by simpa using I
   rw[this];rfl
  have hv:=D t;generalize O:lk env t=s at h hv;unfold Bq at h;have hb: ∀c,a.tmps.getD t undef= .bool c->a.tmps[t]? =some (.bool c):=by
   intro c z;rw[aNw] at z;cases E:a.tmps[t]? with
   |none=>rw[E] at z;simp [undef] at z
   |some v=>rw[E] at z;simp at z;rw[z]
  split at h
  .rename_i c k;simp only[aM6] at h;have:=hb _ (vO hv.1);rw[F,this,<-h];cases c<;>cases b<;>rfl
  .rename_i p c k;simp only[aM6] at h;subst h;cases p with
   |true=>
    have:=hb _ (vO (hv.1.1 rfl));rw[F,this];cases c<;>cases b<;>rfl
   |false=>
    have K:=hv.1.2 rfl;have: ∀c,a.tmps[t]? ≠some (.bool c):=by
     intro c z;rw[aNw,z] at K;simp [undef] at K
    rw[F];cases E:a.tmps[t]? with
    |none=>cases b<;>rfl
    |some v=>cases v<;>first|(exact absurd E (this _)) |(cases b<;>rfl)
  cases h
theorem a7E {ops:List Oper}{o:Oper}{a:Act}{env:List (Nat×qK)}(E:DU g w env a.tmps) {j:Nat}{b:Bool}(M:o.guard=some (j,b)) (h:LQ env b (A7 ops j)=false):Region.wanted o (yielded ops.toArray a.tmps)=false:=by
 rw[VR] at h;unfold Region.wanted;rw[M];simp only;cases I:(ops[j]?).bind (·.dst) with
 |none=>rw[I] at h;cases h
 |some t=>
  rw[I] at h;simp only[LQ] at h;have G:yielded ops.toArray a.tmps j=match a.tmps[t]? with|some (.bool b)=>some b|_=>none:=by
   unfold yielded;have:(ops.toArray[j]?).bind (·.dst)=some t:=by simpa using I
   rw[this];rfl
  have hv:=E t;generalize O:lk env t=s at h hv;have hb: ∀c,a.tmps.getD t undef= .bool c->a.tmps[t]? =some (.bool c):=by
   intro c z;rw[aNw] at z;cases F:a.tmps[t]? with
   |none=>rw[F] at z;simp [undef] at z
   |some v=>rw[F] at z;simp at z;rw[z]
  have D:a.tmps.getD t undef=undef->(yielded ops.toArray a.tmps j==some b)=false:=by
   intro K;have: ∀c,a.tmps[t]? ≠some (.bool c):=by
    intro c z;rw[aNw,z] at K;simp [undef] at K
   rw[G];cases F:a.tmps[t]? with
   |none=>cases b<;>rfl
   |some v=>cases v<;>first|(exact absurd F (this _)) |(cases b<;>rfl)
  unfold Br at h;split at h
  .rename_i c k;have:=hb _ (vO hv.1);rw[G,this];cases c<;>cases b<;>first|rfl|cases h
  .rename_i p c k;cases p with
   |true=>
    have:=hb _ (vO (hv.1.1 rfl));rw[G,this];cases c<;>cases b<;>first|rfl|cases h
   |false=>exact D (hv.1.2 rfl)
  .rename_i p k;subst h;exact D (hv.1.2 rfl)
  cases h
theorem VS {G:Bool}{p:Prop}: ∀{l:List Prop},p∈l->(G=true->p)∈V4 G l
 |q::l,h=>by
  simp only[V4];rcases aNk.1 h with rfl|h
  .exact aNq
  exact aNp _ (VS h)
theorem pl {o:Oper}{a:Act}{H:sA}(hH:sL g w H) {c x y:Operand}(G:o.op= .pick c x y) {sc sx sy:qK}(O:rY g w sc (a.eval c)) (F:rY g w sx (a.eval x)) (E:rY g w sy (a.eval y)) {e:r9}(hr:V3 sc sx sy=some e) (D: ∀p∈e.side,p):rS P o a g w H e:=by
 intro K Q R;unfold V3 at hr;split at hr
 .rename_i z k;have I:=vO O.1;have run:(execOp a.eval o).run P w= .ok (.value (if z then a.eval x else a.eval y)) w:=by
   unfold execOp;rw[G];simp [I,asBool]
  have tO: ∀{v:Bool}{side:List Prop},(if z then a.eval x else a.eval y)= .bool v->e=⟨side,(.val .bool v,none),[],[]⟩->o.wp P a w K Q:=by
   intro v side hv M;subst M;refine rS.value (v:= .bool v) (g':=g) (w':=w) (H:=H) (by rw[run,hv]) (.pure hH (s:=(.val .bool v,none)) ⟨(w5 g w v:zA g w (.val .bool v) (.bool v)),trivial⟩) K Q R
  unfold Bs at hr;split at hr
  .rename_i m1 _ m2 _;simp only[aM6] at hr;refine tO (v:=cond z m1 m2) ?_ hr.symm;cases z
   .exact vO E.1
   exact vO F.1
  .rename_i p m1 _ m2 _;simp only[aM6] at hr;refine tO (v:=cond z m1 m2) ?_ hr.symm;cases z
   .exact vO E.1
   exact vO (F.1.1 (D (true=true->p=true) aPh rfl))
  .rename_i m1 _ p m2 _;simp only[aM6] at hr;refine tO (v:=cond z m1 m2) ?_ hr.symm;cases z
   .exact vO (E.1.1 (D (false=false->p=true) aPh rfl))
   exact vO F.1
  .rename_i q m1 _ p m2 _;simp only[aM6] at hr;refine tO (v:=cond z m1 m2) ?_ hr.symm;cases z
   .exact vO (E.1.1 (D (false=false->p=true) aPh rfl))
   exact vO (F.1.1 (D (true=true->q=true) aPh rfl))
  .rename_i m1 _ p _;simp only[aM6] at hr;have j:z=true:=D _ aPh;refine tO (v:=m1) ?_ hr.symm;rw[j];exact vO F.1
  .rename_i q m1 _ p _;simp only[aM6] at hr;have j:z=true:=D (z=true) aPh;refine tO (v:=m1) ?_ hr.symm;rw[j];exact vO (F.1.1 (D (q=true) aPh))
  .rename_i p _ m2 _;simp only[aM6] at hr;have j:z=false:=D _ aPh;refine tO (v:=m2) ?_ hr.symm;rw[j];exact vO E.1
  .rename_i p _ q m2 _;simp only[aM6] at hr;have j:z=false:=D (z=false) aPh;refine tO (v:=m2) ?_ hr.symm;rw[j];exact vO (E.1.1 (D (q=true) aPh))
  cases hr
 cases hr
omit hT hΓ in
theorem R5 {np:Nat}{x:Option r9}{e:r9}(h:lx np x=some e):x=some e/\(IU e.rds=true->J3 np e.upd=true):=by
 cases x with
 |none=>cases h
 |some q=>
  simp only[lx] at h;cases j:IU q.rds with
  |false=>
   rw[j] at h;cases h;exact⟨rfl,λh=>by rw[j] at h;cases h⟩
  |true=>
   rw[j] at h;simp only[Bv] at h;split at h
   .rename_i z;cases h;exact⟨rfl,λ_=>z⟩
   cases h
omit hT hΓ in
theorem Fq {np:Nat}{H:sA}: ∀{U:List (Nat×qP)},J3 np U=true->∀{i:Nat}{u:Ty}{y:u.den}{us:pS},i<np->qT (rJ U H) i=some (.cells u y us)->qT H i=some (.cells u y us)
 |[],_,i,u,y,us,_,h=>h
 |(j,b)::U,h,i,u,y,us,hi,z=>by
  simp only[rJ,qT] at z;split at z
  .rename_i e;subst e;simp only[aM6] at z;subst z;simp only[J3] at h;split at h
   .omega
   cases h
  refine Fq ?_ hi z;unfold J3 at h;split at h
  .rename_i heq;cases heq
  .rename_i heq;cases heq;split at h
   .exact h
   cases h
  rename_i heq;cases heq;exact h
theorem pm {ops:List Oper}{o:Oper}{a:Act}{s:St}{e:r9}(z:DU g w s.env a.tmps) (hH:sL g w s.H) (hr:zO T Γ ops o s=some e) (I: ∀p∈e.side,p) (hf:yU g s.nb e) {K:Act->pY->Prop}{Q:Exit->Act->pY->Prop}
  (R: ∀g' w' v,zR g w s.H e g' w' v->K (a.put o.dst v) w'):
  if Region.wanted o (yielded ops.toArray a.tmps) then o.wp P a w K Q else K (a.put o.dst undef) w:=by
 replace hr:=(R5 hr).1;unfold QM at hr;cases O:o.guard with
 |none=>
  rw[O] at hr;simp only at hr;have Z:Region.wanted o (yielded ops.toArray a.tmps)=true:=by unfold Region.wanted;rw[O]
  rw[aM4 Z];cases E:o.op with
  |pick c x y=>
   rw[E] at hr;simp only[QL] at hr;exact pl hT hΓ hH E (yW z c) (yW z x) (yW z y) hr I K Q R
  |_=>
   rw[E] at hr;simp only[QL] at hr;rw[<-E] at hr;generalize F:uL T Γ o.type (λx=>xZ (tC s.env x)) s.nb s.H o.op=op at hr;cases op with
   |none=>cases hr
   |some e0=>
    simp only[QJ,aM6] at hr;subst hr;refine pi hT hΓ hH rfl (ρ:=λx=>xZ (tC s.env x)) (λx U=>?_) F (λp hp=>I p (wS.2 (.inr hp))) hf K Q (λg' w' v h=>R g' w' v ⟨h.le,h.slot,h.heap,h.fr,h.perm,h.gho,h.ty⟩);exact R4 rfl (bg U) (λp hp=>I p (wS.2 (.inl hp))) (yW z x)
 |some jb=>
  obtain⟨j,b⟩:=jb;rw[O] at hr;simp only at hr;cases V:Γ (ZO j b) with
  |some sg=>
   rw[V] at hr;simp only[V5] at hr;cases Y:Bt o.op with
   |true=>rw[Y] at hr;cases hr
   |false=>
   rw[Y] at hr;simp only[Bu,aM6] at hr;subst hr;have ha:LQ s.env b (A7 ops j)=false:=I _ aNq;rw[a7E hT hΓ z O ha,aM9 pN];exact R g w undef (zR.pure hH ⟨⟨λM=>(by cases M),λ_=>rfl⟩,trivial⟩)
  |none=>
  rw[V] at hr;simp only[V5] at hr;generalize hG:GZ s.env b (A7 ops j)=oG at hr;cases oG with
  |none=>cases hr
  |some G=>
   have Z:=a7D hT hΓ z O hG;rw[Z];by_cases X: ∃c x y,o.op= .pick c x y
   .obtain⟨c,x,y,E⟩:=X;rw[E] at hr;simp only[QK] at hr;generalize F:V3 (xZ (tC s.env c)) (tC s.env x) (tC s.env y)=op at hr;cases op with
    |none=>cases hr
    |some e0=>
     unfold J2 at hr;split at hr
     .rename_i side d k rds heq;simp only[aM6] at hr heq;subst hr;subst heq;by_cases D:G=true
      .rw[aM4 D];refine pl hT hΓ hH E (R4 D (ss:=[tC s.env c]) pO (λp hp=>I p (wS.2 (.inl hp))) (yW z c)) (yW z x) (yW z y) F (λp hp=>I (G=true->p) (wS.2 (.inr (VS hT hΓ hp))) D) K Q (λg' w' v h=>R g' w' v ⟨h.le,⟨⟨λ_=>h.slot.1,λM=>by rw[D] at M;cases M⟩,trivial⟩,h.heap,h.fr,h.perm,h.gho,h.ty⟩)
      rw[aM9 D];exact R g w undef (zR.pure hH ⟨⟨λM=>absurd M D,λ_=>rfl⟩,trivial⟩)
     .rename_i side sl u us rds heq;simp only[aM6] at hr heq;subst hr;subst heq;have D:G=true:=I _ aNq;rw[aM4 D];exact pl hT hΓ hH E (R4 D (ss:=[tC s.env c]) pO (λp hp=>I p (aNp _ (wS.2 (.inl hp)))) (yW z c)) (yW z x) (yW z y) F (λp hp=>I (G=true->p) (aNp _ (wS.2 (.inr (VS hT hΓ hp)))) D) K Q (λg' w' v h=>R g' w' v ⟨h.le,h.slot,h.heap,h.fr,h.perm,h.gho,h.ty⟩)
     cases hr
   have e1:QK T Γ o s (some G) o.op=J2 G (z8 G (CS s.env (sQ o.op))) (uL T Γ o.type (λx=>xZ (tC s.env x)) s.nb s.H o.op):=by
    cases ho:o.op<;>first|rfl|(exact absurd ⟨_,_,_,ho⟩ X)
   rw[e1] at hr;generalize F:uL T Γ o.type (λx=>xZ (tC s.env x)) s.nb s.H o.op=op at hr;cases op with
   |none=>cases hr
   |some e0=>
    unfold J2 at hr;split at hr
    .rename_i side d k rds heq;simp only[aM6] at hr heq;subst hr;subst heq;by_cases D:G=true
     .rw[aM4 D];refine pi hT hΓ hH rfl (ρ:=λx=>xZ (tC s.env x)) (λx U=>?_) F (λp hp=>I (G=true->p) (wS.2 (.inr (VS hT hΓ hp))) D) (λi hi=>by cases hi) K Q (λg' w' v h=>R g' w' v ⟨h.le,⟨⟨λ_=>h.slot.1,λM=>by rw[D] at M;cases M⟩,trivial⟩,h.heap,h.fr,h.perm,h.gho,h.ty⟩);exact R4 D (bg U) (λp hp=>I p (wS.2 (.inl hp))) (yW z x)
     rw[aM9 D];exact R g w undef (zR.pure hH ⟨⟨λM=>absurd M D,λ_=>rfl⟩,trivial⟩)
    .rename_i side sl u us rds heq;simp only[aM6] at hr heq;subst hr;subst heq;have D:G=true:=I _ aNq;rw[aM4 D];refine pi hT hΓ hH rfl (ρ:=λx=>xZ (tC s.env x)) (λx U=>?_) F (λp hp=>I (G=true->p) (aNp _ (wS.2 (.inr (VS hT hΓ hp)))) D) hf K Q (λg' w' v h=>R g' w' v ⟨h.le,h.slot,h.heap,h.fr,h.perm,h.gho,h.ty⟩);exact R4 D (bg U) (λp hp=>I p (aNp _ (wS.2 (.inl hp)))) (yW z x)
    cases hr
end
structure tE (A:Nat->Nat->Prop) (L:List qP) (g0:Gh) (w0:pY) (g:Gh) (w:pY) (H:sA):Prop where
 shut: ∀b o,g0.S b o->g.S b o/\w.cell? ⟨b,o,none⟩=w0.cell? ⟨b,o,none⟩
 fr:Fr A w0 w g0.S g.S
 perm: ∀i blk b o,qT H i=some blk->sB g i blk b o->w0.heap.size<=b\/A b o
 J: ∀i p,i<L.length->g0.J i=some p->g.J i=some p
 live: ∀i,i<L.length->(∃p,g.J i=some p)\/(∃n v,g.cur i n=some v)
 ty: ∀i u y us,i<L.length->qT H i=some (.cells u y us)->∃x ts,L[i]? =some (.cells u x ts)
 cur: ∀i n v,i<L.length->g0.cur i n=some v->g.cur i n=some v
def tE.eff {A:Nat->Nat->Prop}{L:List qP}{g0 g g':Gh}{w0 w w':pY}{H:sA}{e:r9}{v:pZ}(h:tE A L g0 w0 g w H) (k:zR g w H e g' w' v) (M:IU e.rds=true->J3 L.length e.upd=true):tE A L g0 w0 g' w' (rJ e.upd H):=by
 have z: ∀b o,sX g H (qV e.upd) b o->w0.heap.size<=b\/A b o:=λb o ⟨i,blk,_,F,O⟩=>h.perm i blk b o F O;refine⟨λb o K=>?_,h.fr.trans k.fr z,λi blk b o E I=>?_,λi p hi hp=>k.le.J _ _ (h.J i p hi hp),λi hi=>?_,λi u y us hi E=>?_,λi n u hi D=>k.le.cur _ _ _ (h.cur i n u hi D)⟩
 .obtain⟨j,F⟩:=h.shut b o K;exact⟨k.le.S b o j,(k.le.cell b o j).trans F⟩
 .by_cases hi:i∈qV e.upd
  .rcases k.perm i blk b o hi E I with j|j
   .exact .inl (aNK h.fr.size j)
   exact z b o j
  exact h.perm i blk b o ((CW hi).symm.trans E) ((zS (k.gho i hi).1 (k.gho i hi).2).1 I)
 .rcases h.live i hi with⟨p,hp⟩ |⟨n,u,D⟩
  .exact .inl ⟨p,k.le.J _ _ hp⟩
  exact .inr ⟨n,u,k.le.cur _ _ _ D⟩
 cases G:IU e.rds with
 |true=>exact h.ty i u y us hi (Fq (M G) hi E)
 |false=>
  rcases k.ty G i u y us E with⟨x,ts,j⟩ |⟨j,F⟩
  .exact h.ty i u x ts hi j
  rcases h.live i hi with⟨p,hp⟩ |⟨n,u,D⟩
  .rw[j] at hp;cases hp
  rw[F] at D;cases D
def zU:pS->Nat->pW
 |[],_=>none
 |(n,o)::r,k=>if n=k then some o else zU r k
def uI (g:Gh) (np:Nat) (m:pS):Gh:=
 ⟨g.S,λi=>if i<np then g.J i else(zU m i).bind g.J,λi n=>if i<np then g.cur i n else(zU m i).bind λo=>g.cur o n⟩
def bh {n o:Nat}: ∀{m:pS},QN n o m=false->∀n' o',(n',o')∈m->n'≠n/\o'≠o
 |[],_,_,_,h=>by cases h
 |(a,b)::m,h,n',o',hm=>by
  simp only[QN,aOZ,aN5] at h;rcases aNk.1 hm with j|j
  .cases j;exact h.1
  exact bh h.2 n' o' j
def pn {np:Nat}: ∀{m:pS},vI np m=true->∀{n o:Nat},(n,o)∈m->zU m n=some o/\(n<np->o=n)
 |[],_,_,_,h=>by cases h
 |(a,b)::m,hk,n,o,h=>by
  simp only[vI,aNf,aNS,aOt,aNj] at hk;obtain⟨⟨z,F⟩,E⟩:=hk;simp only[zU];rcases aNk.1 h with j|j
  .cases j;rw[aM4 rfl];exact⟨rfl,λD=>by rcases z with z|z<;>omega⟩
  have D:=bh F n o j;rw[aM9 (Ne.symm D.1)];exact pn E j
def DW: ∀{m:pS}{k j:Nat},xD m k=some j->(j,k)∈m
 |[],_,_,h=>by cases h
 |(a,b)::m,k,j,h=>by
  simp only[xD] at h;split at h
  .rename_i e;subst e;simp only[aM6] at h;subst h;exact aNq
  exact aNp _ (DW h)
def B3 {g:Gh}{np:Nat}{m:pS}(hk:vI np m=true) {n o:Nat}(h:(n,o)∈m):(uI g np m).J n=g.J o/\(uI g np m).cur n=g.cur o:=by
 obtain⟨D,z⟩:=pn hk h;refine⟨?_,?_⟩
 .show (if n<np then g.J n else(zU m n).bind g.J)=_;by_cases j:n<np
  .rw[aM4 j,z j]
  rw[aM9 j,D];rfl
 funext q;show (if n<np then g.cur n q else(zU m n).bind λo=>g.cur o q)=_;by_cases j:n<np
 .rw[aM4 j,z j]
 rw[aM9 j,D];rfl
def po {g:Gh}{np:Nat}{m:pS}(hk:vI np m=true): ∀(l l':pS) (vs:pU),yI g l vs->CU m l=some l'->yI (uI g np m) l' vs
 |[],l',vs,h,hr=>by simp only[CU,aM6] at hr;subst hr;exact h
 |(i,o)::l,l',vs,⟨p,vs',F,E,D⟩,hr=>by
  simp only[CU] at hr;cases hi:xD m i with
  |none=>rw[hi] at hr;cases z:CU m l<;>rw[z] at hr<;>cases hr
  |some j=>
   rw[hi] at hr;cases z:CU m l with
   |none=>rw[z] at hr;cases hr
   |some l2=>
    rw[z] at hr;simp only[CU.renCons,aM6] at hr;subst hr;exact⟨p,vs',by rw[(B3 hk (DW hi)).1];exact F,E,po hk l l2 vs' D z⟩
def a7F {m:pS}{u t:Ty}{x y:t.den}{o:Nat}{l:List u.den}(h:zQ m t x=some y) (j:rR (.list u) t x o=some l):rR (.list u) t y o=some l:=
 oh (zQ m) (λ_ _ _=>rfl) (λ_ _=>rfl) h j
def VT {g:Gh}{w:pY}{np:Nat}{m:pS}(hk:vI np m=true): ∀{t:Ty}{x y:t.den}{cs:pU},Rd g w t x cs->zQ m t x=some y->Rd (uI g np m) w t y cs
 | .bool,_,_,_,r,h=>by cases h;exact r
 | .int _,_,_,_,r,h=>by cases h;exact r
 | .str,_,_,_,r,h=>by cases h;exact r
 | .unit,_,_,_,r,h=>by cases h;exact r
 | .list t,x,y,_,r,h=>by
  simp only[zQ] at h;split at h
  .rename_i hp;cases h;exact vE (g:=g) (g':=uI g np m) rfl (t:= .list t) (by simpa[Ty.pure] using hp) r
  .cases h
 | .ref,none,y,_,r,h=>by cases h;exact r
 | .ref,some (i,o),y,_,⟨p,D,z⟩,h=>by
  simp only[zQ,ZU] at h;cases hi:xD m i with
  |none=>rw[hi] at h;cases h
  |some j=>
   rw[hi] at h;cases h;exact⟨p,by rw[(B3 hk (DW hi)).1];exact D,z⟩
 | .clo,none,y,_,r,h=>by cases h;exact r
 | .clo,some (f,l),y,_,⟨vs,D,z⟩,h=>by
  simp only[zQ,Bz] at h;cases hi:CU m l with
  |none=>rw[hi] at h;cases h
  |some l'=>
   rw[hi] at h;cases h;exact⟨vs,po hk l l' vs D hi,z⟩
 | .fn,_,_,_,r,h=>by cases h;exact r
 | .rl _ _,none,y,_,r,h=>by cases h;exact r
 | .rl _ _,some (k,n),y,_,⟨v,D,z⟩,h=>by
  simp only[zQ,Cb] at h;cases hi:xD m k with
  |none=>rw[hi] at h;cases h
  |some j=>
   rw[hi] at h;cases h;exact⟨v,by rw[(B3 hk (DW hi)).2];exact D,z⟩
 | .part,_,_,_,r,h=>by cases h;exact vE (g:=g) (g':=uI g np m) rfl (t:= .part) rfl r
 | .mref,none,y,_,r,h=>by cases h;exact r
 | .mref,some (i,o),y,_,⟨p,D,z⟩,h=>by
  simp only[zQ,ZU] at h;cases hi:xD m i with
  |none=>rw[hi] at h;cases h
  |some j=>
   rw[hi] at h;cases h;exact⟨p,by rw[(B3 hk (DW hi)).1];exact D,z⟩
 | .mp,none,y,_,r,h=>by cases h;exact r
 | .mp,some i,y,_,⟨p,D,z⟩,h=>by
  simp only[zQ,Ca] at h;cases hi:xD m i with
  |none=>rw[hi] at h;cases h
  |some j=>
   rw[hi] at h;cases h;exact⟨p,by rw[(B3 hk (DW hi)).1];exact D,z⟩
 | .pair a b,x,y,_,⟨c1,c2,e,r1,r2⟩,h=>by
  simp only[zQ] at h;obtain⟨D,z⟩:=og h;refine⟨c1,c2,e,?_,?_⟩
  .split at D
   .rename_i hp;exact(aNa D)▸vE (g:=g) (g':=uI g np m) rfl hp r1
   exact VT hk r1 D
  split at z
  .rename_i hp;exact(aNa z)▸vE (g:=g) (g':=uI g np m) rfl hp r2
  exact VT hk r2 z
def bk {g:Gh}{w:pY}{np:Nat}{m:pS}(hk:vI np m=true) {s:qK}{v:pZ}(h:rY g w s v):rY (uI g np m) w (A8 m s) v:=by
 have caps: ∀(l l':pS) (vs:pU),yI g l vs->CU m l=some l'->yI (uI g np m) l' vs:=po hk;unfold A8;split
 .rename_i k n k';cases hi:xD m k with
  |none=>exact⟨trivial,trivial⟩
  |some j=>
   obtain⟨D,z⟩:=h.1;exact⟨⟨by rw[(B3 hk (DW hi)).2];exact D,z⟩,trivial⟩
 .obtain D:=h.1;refine⟨?_,trivial⟩;rcases D with⟨D,_⟩ |⟨_,z⟩
  .cases D
  exact .inr ⟨rfl,z⟩
 .rename_i p k;obtain⟨i,o⟩:=p;simp only[Bx];cases hi:xD m i with
  |none=>exact⟨trivial,trivial⟩
  |some j=>
   simp only[Option.map_some,A8.refSlot];obtain⟨q,I,hv⟩:=zB h.1;exact⟨.inr ⟨rfl,q,by rw[(B3 hk (DW hi)).1];exact I,by rw[hv]⟩,trivial⟩
 .rename_i f l k;cases K:CU m l with
  |none=>exact⟨trivial,trivial⟩
  |some l'=>
   simp only[A8.cloSlot];rcases h.1 with⟨D,_⟩ |⟨_,vs,z,E⟩
   .cases D
   exact⟨.inr ⟨rfl,vs,caps l l' vs z K,E⟩,trivial⟩
 .rename_i i k;cases hi:xD m i with
  |none=>exact⟨trivial,trivial⟩
  |some j=>
   simp only[A8.mpSlot];rcases h.1 with⟨D,_⟩ |⟨_,p,z,E⟩
   .cases D
   exact⟨.inr ⟨rfl,p,by rw[(B3 hk (DW hi)).1];exact z,E⟩,trivial⟩
 .rename_i t x k _ _ _ _;split
  .rename_i hp;have hv:sR (uI g np m) w t x v:=h.1.imp (λ⟨a,cs,e,q⟩=>⟨a,cs,e,vE (g:=g) (g':=uI g np m) rfl hp q⟩) (λ⟨a,q⟩=>⟨a,vE (g:=g) (g':=uI g np m) rfl hp q⟩);refine⟨hv,?_⟩;replace h:=Ed h;generalize F:FL t k=k' at h|-;cases k' with
   |none=>trivial
   |some k=>
    simp only[By];cases M:xD m k with
    |none=>trivial
    |some j=>
     have z:=h.2;cases t with
     |list u=>
      show (uI g np m).cur j _=_;rw[(B3 hk (DW M)).2];exact z
     |pair a b=>cases F
     |_=>exact z.elim
  cases G:zQ m t x with
  |none=>exact⟨trivial,trivial⟩
  |some y=>
   simp only[A8.valSlot];exact⟨h.1.imp (λ⟨a,cs,e,q⟩=>⟨a,cs,e,VT hk q G⟩) (λ⟨a,q⟩=>⟨a,VT hk q G⟩),trivial⟩
 .rename_i t x k;split
  .rename_i hp;obtain⟨b,o,cs,D,z,E,O⟩:=h.1;exact⟨⟨b,o,cs,D,z,E,vE (g:=g) (g':=uI g np m) rfl hp O⟩,trivial⟩
  exact⟨trivial,trivial⟩
 .exact⟨h.1,trivial⟩
 .exact⟨h.1,trivial⟩
 exact⟨trivial,trivial⟩
def Fs {q j:Nat}{x:Nat×Nat}: ∀{r:pS},x∈ZV q j r->x=(q,j)\/x∈r
 |[],h=> .inl (aNn.1 h)
 |(a,b)::r,h=>by
  simp only[ZV] at h;split at h
  .exact aNk.1 h
  rcases aNk.1 h with h|h
  .exact .inr (by rw[h];exact aNq)
  exact(Fs h).imp id (aNp _)
def bn {m:pS}: ∀{ts:pS}{q j:Nat},(q,j)∈LT m ts->∃k,(q,k)∈ts/\xD m k=some j
 |[],_,_,h=>by cases h
 |(a,b)::ts,q,j,h=>by
  simp only[LT] at h;cases hb:xD m b with
  |none=>
   rw[hb] at h;obtain⟨k,z,D⟩:=bn h;exact⟨k,aNp _ z,D⟩
  |some j'=>
   rw[hb] at h;simp only[LT.renTok1] at h;rcases Fs h with z|z
   .cases z;exact⟨b,aNq,hb⟩
   obtain⟨k,z,D⟩:=bn z;exact⟨k,aNp _ z,D⟩
def JD {g:Gh}{w:pY}{np:Nat}{m:pS}(hk:vI np m=true) {n o:Nat}(hm:(n,o)∈m) {b:Option qP}(h: ∀c,b=some c->A9 g w o c):
  A9 (uI g np m) w n (J7 m b)/\∀bb oo,sB (uI g np m) n (J7 m b) bb oo->∃c,b=some c/\sB g o c bb oo:=by
 obtain⟨K,z⟩:=B3 (g:=g) hk hm;unfold J7;split
 .rename_i t x toks;split
  .rename_i hp;obtain⟨p,cs,F,E,I,D,M,Q⟩:=h _ rfl;refine⟨⟨p,cs,by rw[K];exact F,vE (g:=g) (g':=uI g np m) rfl hp E,I,D,M,λq j G=>?_⟩,λbb oo ⟨pp,e1,e2⟩=>⟨_,rfl,pp,by rw[K] at e1;exact e1,e2⟩⟩;obtain⟨k,k1,k2⟩:=bn G;obtain⟨u,l,v,g1,g2,g3⟩:=Q q k k1;exact⟨u,l,v,g1,g2,by rw[(B3 hk (DW k2)).2];exact g3⟩
  cases R:zQ m t x with
  |none=>exact⟨trivial,λ_ _ h=>h.elim⟩
  |some y=>
   obtain⟨p,cs,F,E,I,D,M,Q⟩:=h _ rfl;simp only[ly];refine⟨⟨p,cs,by rw[K];exact F,VT hk E R,I,D,M,λq j G=>?_⟩,λbb oo ⟨pp,e1,e2⟩=>⟨_,rfl,pp,by rw[K] at e1;exact e1,e2⟩⟩;obtain⟨k,k1,k2⟩:=bn G;obtain⟨u,l,v,g1,g2,g3⟩:=Q q k k1;exact⟨u,l,v,a7F R g1,g2,by rw[(B3 hk (DW k2)).2];exact g3⟩
 .rename_i e c k;obtain⟨v,xs,F,E,I,D⟩:=h _ rfl;exact⟨⟨v,xs,by rw[z];exact F,E,λq O=>by rw[z];exact I q O,D⟩,λbb oo ⟨v',e1,e2⟩=>⟨_,rfl,v',by rw[z] at e1;exact e1,e2⟩⟩
 .rename_i e t l n;split
  .rename_i hp;obtain⟨h0,v,xs,F,E,M,I,D⟩:=h _ rfl;exact⟨⟨h0,v,xs,by rw[z];exact F,E,CV (λ_ _ h=>vE (g:=g) (g':=uI g np m) rfl hp h) M,λq O=>by rw[z];exact I q O,D⟩,λbb oo ⟨v',e1,e2⟩=>⟨_,rfl,v',by rw[z] at e1;exact e1,e2⟩⟩
  exact⟨trivial,λ_ _ h=>h.elim⟩
 .rename_i k v l;split
  .rename_i hp;rw[aNf] at hp;obtain⟨p,es,cl,F,h0,E,I,D⟩:=h _ rfl;exact⟨⟨p,es,cl,by rw[K];exact F,h0,E,LX (g:=g) (g':=uI g np m) rfl hp.1 hp.2 I,D⟩,λbb oo ⟨pp,e1,e2⟩=>⟨_,rfl,pp,by rw[K] at e1;exact e1,e2⟩⟩
  exact⟨trivial,λ_ _ h=>h.elim⟩
 .obtain⟨p,F,h0,E,D⟩:=h _ rfl;exact⟨⟨p,by rw[K];exact F,h0,E,D⟩,λbb oo ⟨pp,e1,e2⟩=>⟨_,rfl,pp,by rw[K] at e1;exact e1,e2⟩⟩
 exact⟨trivial,λ_ _ h=>h.elim⟩
def H8 {m:pS}{H:sA}: ∀{l:pS}{n:Nat}{b:qP},qT (ZW m H l) n=some b->∃o,(n,o)∈l/\b=J7 m (qT H o)
 |[],_,_,h=>by cases h
 |(a,c)::l,n,b,h=>by
  simp only[ZW,qT] at h;split at h
  .rename_i e;subst e;exact⟨c,aNq,(aNa h).symm⟩
  obtain⟨o,z,j⟩:=H8 h;exact⟨o,aNp _ z,j⟩
def Ft {m:pS}{env:List (Nat×qK)}: ∀(l:pX) (t:Nat),lk (V8 m env l) t=(.any,none)\/lk (V8 m env l) t=A8 m (lk env t)
 |[],_=> .inl rfl
 |a::l,t=>by
  simp only[V8,lk];split
  .rename_i e;subst e;exact .inr rfl
  exact Ft l t
def Fu: ∀{m:pS}{n o:Nat},(n,o)∈m->n<ZX m
 |(a,b)::m,n,o,h=>by
  simp only[ZX];rcases aNk.1 h with j|j
  .cases j;omega
  have:=Fu j;omega
def pq: ∀{m:pS}{n o:Nat},zU m n=some o->(n,o)∈m
 |[],_,_,h=>by cases h
 |(a,b)::m,n,o,h=>by
  simp only[zU] at h;split at h
  .rename_i e;subst e;simp only[aM6] at h;subst h;exact aNq
  exact aNp _ (pq h)
def bo {B:Nat}{A:Nat->Nat->Prop}{L:List qP}{g0 g:Gh}{w0 w:pY}{s:St}{a:Act}(h:tZ B g w s a) (G:tE A L g0 w0 g w s.H) (O:s.np=L.length) (k:tX) (hk:vI s.np k.ids=true):
  tZ B (uI g s.np k.ids) w (s.keep k) a/\tE A L g0 w0 (uI g s.np k.ids) w (s.keep k).H/\(s.keep k).np=L.length/\(s.keep k).N=s.N:=by
 unfold St.keep;rw[hk];refine⟨⟨λt=>?_,⟨λi b hb=>?_,λi j bi bj b o Q E D o1 o2=>?_,h.heap.sl,h.heap.tab.1,λi b bb oo hb K=>by
   obtain⟨o,E,rfl⟩:=H8 hb;obtain⟨c1,e1,o1'⟩:=(JD hk E λc F=>h.heap.blk o c F).2 bb oo K;exact h.heap.tab.2 o c1 bb oo e1 o1'⟩,h.size,λi hi=>?_,h.def_,Nat.le_max_left _ _⟩,⟨G.shut,G.fr,λi blk b o hb K=>?_,λi p hi hp=>?_,λi hi=>?_,λi u y us hi hb=>?_,λi n u hi U=>(by
   show (if i<s.np then g.cur i n else _)=_;rw[aM4 pM];exact G.cur i n u hi U)⟩,O,rfl⟩
 .rcases Ft (m:=k.ids) (env:=s.env) k.slots t with e|e
  .exact⟨by rw[show lk (QO s k true).env t=_ from e];trivial,by rw[show lk (QO s k true).env t=_ from e];trivial⟩
  have:=bk hk (h.env t);rw[show lk (QO s k true).env t=_ from e];exact this
 .obtain⟨o,E,rfl⟩:=H8 hb;exact(JD hk E λc F=>h.heap.blk o c F).1
 .obtain⟨p,k1,rfl⟩:=H8 E;obtain⟨q,k2,rfl⟩:=H8 D;obtain⟨c1,e1,o1'⟩:=(JD hk k1 λc F=>h.heap.blk p c F).2 b o o1;obtain⟨c2,e2,o2'⟩:=(JD hk k2 λc F=>h.heap.blk q c F).2 b o o2;refine h.heap.dis p q c1 c2 b o (λe=>?_) e1 e2 o1' o2';subst e;have inj: ∀{m:pS},vI s.np m=true->∀{i j o:Nat},(i,o)∈m->(j,o)∈m->i=j:=by
   intro m
   induction m with
   |nil=>intro _ _ _ _ h;cases h
   |cons z m ih=>
    obtain⟨z1,z2⟩:=z;intro hk i j o E D;simp only[vI,aNf,aNS] at hk;rcases aNk.1 E with E|E<;>rcases aNk.1 D with D|D
    .cases E;cases D;rfl
    .cases E;exact absurd rfl (bh hk.1.2 _ _ D).2
    .cases D;exact absurd rfl (bh hk.1.2 _ _ E).2
    exact ih hk.2 E D
  exact Q (inj hk k1 k2)
 .have M: ¬i<s.np:=by have:=aNK (Nat.le_max_left _ _) hi;omega
  have I:zU k.ids i=none:=by
   cases K:zU k.ids i with
   |none=>rfl
   |some o=>
    have:=Fu (pq K);have:=aNK (Nat.le_max_right _ _) hi;omega
  refine⟨?_,λn=>?_⟩
  .show (if i<s.np then g.J i else(zU k.ids i).bind g.J)=none;rw[aM9 M,I];rfl
  show (if i<s.np then g.cur i n else(zU k.ids i).bind λo=>g.cur o n)=none;rw[aM9 M,I];rfl
 .obtain⟨p,E,rfl⟩:=H8 hb;obtain⟨c,e1,e2⟩:=(JD hk E λc F=>h.heap.blk p c F).2 b o K;exact G.perm p c b o e1 e2
 .show (if i<s.np then g.J i else _)=_;rw[aM4 pM];exact G.J i p hi hp
 .rcases G.live i hi with⟨p,hp⟩ |⟨n,v,hv⟩
  .left;refine⟨p,?_⟩;show (if i<s.np then g.J i else _)=_;rw[aM4 pM];exact hp
  right;refine⟨n,v,?_⟩;show (if i<s.np then g.cur i n else _)=_;rw[aM4 pM];exact hv
 obtain⟨o,E,D⟩:=H8 hb;have K:=(pn hk E).2 pM;subst K;unfold J7 at D;split at D
 .rename_i t x toks heq;split at D
  .simp only[qP.cells.injEq] at D;obtain⟨rfl,_⟩:=D;exact G.ty o u x toks hi heq
  cases R:zQ k.ids t x with
  |none=>rw[R] at D;cases D
  |some y=>
   rw[R] at D;simp only[ly,qP.cells.injEq] at D;obtain⟨rfl,_⟩:=D;exact G.ty o u x toks hi heq
 .cases D
 .split at D<;>cases D
 .split at D<;>cases D
 .cases D
 cases D
def M7 {B:Nat}{A:Nat->Nat->Prop}{L:List qP}{g0 g:Gh}{w0 w:pY}{s:St}{a:Act}(h:tZ B g w s a) (z:tE A L g0 w0 g w s.H) (D:s.np=L.length) (k:tX):
  ∃g',tZ B g' w (s.keep k) a/\tE A L g0 w0 g' w (s.keep k).H/\(s.keep k).np=L.length/\(s.keep k).N=s.N:=by
 unfold St.keep;cases hk:vI s.np k.ids with
 |false=>
  refine⟨g,⟨λt=>⟨trivial,trivial⟩,⟨(λi b h=>by cases h),(λi j bi bj b o _ h=>by cases h),h.heap.sl,h.heap.tab.1,(λi b bb oo h=>by cases h)⟩,h.size,h.nb,h.def_,h.np⟩,⟨z.shut,z.fr,(λi blk b o h=>by cases h),z.J,z.live,(λi u y us _ h=>by cases h),z.cur⟩,D,rfl⟩
 |true=>
  have:=bo h z D k hk;unfold St.keep at this;rw[hk] at this;exact⟨_,this⟩
theorem pr {g g':Gh}{w w':pY}{env:List (Nat×qK)}{a:Act}{o:Oper}{sl:qK}{v:pZ}(h:DU g w env a.tmps) (le:Le g w g' w') (E:rY g' w' sl v) {N:Nat}(G:a.tmps.size=N) (z:zP N o.dst=true):DU g' w' (tH o.dst sl env) (a.put o.dst v).tmps:=by
  intro t;cases F:o.dst with
  |none=>exact DQ le (h t)
  | some d=>
    rw[F] at z;simp only[zP,aNj] at z;simp only[tH,lk,Act.put];by_cases j:d=t
    · subst j
      rw[aM4 rfl];have D:d<a.tmps.size:=by rw[G];exact z
      have:(a.tmps.setIfInBounds d v).getD d undef=v:=by
        rw[aNw,Array.getElem?_setIfInBounds_self_of_lt D];rfl
      rw[this];exact E
    rw[aM9 j]
    have:(a.tmps.setIfInBounds d v).getD t undef=a.tmps.getD t undef:=by
      rw[aNw,aNY j,<-aNw]
    rw[this];exact DQ le (h t)
theorem VU {n:Nat}: ∀{u:List (Nat×qP)},J4 n u=true->∀{i:Nat},i∈qV u->i<n
  | (k,b)::u,h,i,hi=>by
    simp only[J4,aNf,aNj] at h;simp only[qV,aNk] at hi;rcases hi with rfl|hi
    .exact h.1
    exact VU h.2 hi
theorem pu (a:Act) (d:Option Tmp) (v:pZ):(a.put d v).tmps.size=a.tmps.size:=by
  cases d<;>simp [Act.put]
theorem pv (a:Act) (d:Option Tmp) (v:pZ):(a.put d v).defers=a.defers:=by
  cases d<;>simp [Act.put]
theorem tZ.step {B:Nat}{g g':Gh}{w w':pY}{s:St}{a:Act}{o:Oper}{e:r9}{v:pZ}(h:tZ B g w s a) (k:zR g w s.H e g' w' v) (z:zP s.N o.dst=true) (hi:J4 (s.nb+32) e.upd=true):
    tZ B g' w' ⟨tH o.dst e.slot s.env,rJ e.upd s.H,s.nb+32,s.N,s.np⟩ (a.put o.dst v):=by
  refine⟨pr h.env k.le k.slot h.size z,k.heap,(pu _ _ _).trans h.size,λi j=>?_,by rw[pv];exact h.def_.eff h.heap k,aNK h.np (Nat.le_add_right _ _)⟩;have:i∉qV e.upd:=λhm=>by have:=VU hi hm;simp only at j;omega
  have hk:=k.gho i this;have hb:=h.nb i (by simp only at j;omega);exact⟨hk.1.trans hb.1,λn=>by rw[hk.2];exact hb.2 n⟩
theorem Fv {T:sH}{Γ:tS}{ops:List Oper}: ∀(l:List Oper),tP T Γ ops l none=none
  |[]=>rfl
  |_::_=>rfl
theorem bp {T:sH}{Γ:tS}{ops:List Oper}{o:Oper}{l:List Oper}{x y:uM}(h:tP T Γ ops (o::l) (some x)=some y):
    ∃ e,zO T Γ ops o x.s=some e/\zP x.s.N o.dst=true/\J4 (x.s.nb+32) e.upd=true/\
      tP T Γ ops l (some ⟨⟨tH o.dst e.slot x.s.env,rJ e.upd x.s.H,x.s.nb+32,x.s.N,x.s.np⟩,rJ x.side (rJ (LR x.s.H e.upd e.rds e.upd) e.side),e::x.es⟩)=some y:=by
  simp only[tP] at h;cases z:zO T Γ ops o x.s with
  |none=>rw[z] at h;simp only[ZP] at h;rw[Fv] at h;cases h
  | some e=>
    rw[z] at h;simp only[ZP] at h;by_cases j:(zP x.s.N o.dst&&J4 (x.s.nb+32) e.upd)=true
    · rw[aM4 j] at h
      simp only[aNf] at j;exact⟨e,rfl,j.1,j.2,h⟩
    rw[aM9 j,Fv] at h;cases h
theorem BU {T:sH}{Γ:tS}{ops:List Oper}: ∀{l:List Oper}{x y:uM},tP T Γ ops l (some x)=some y->(∀p∈x.side,p∈y.side)/\y.s.N=x.s.N/\y.s.np=x.s.np
  | [],x,y,h=>by
    simp only[tP,aM6] at h;subst h;exact⟨λ_ h=>h,rfl,rfl⟩
  | o::l,x,y,h=>by
    obtain⟨e,_,_,_,E⟩:=bp h;obtain⟨D,z,j⟩:=BU E;exact⟨λp hp=>D p (wS.2 (.inl hp)),z,j⟩
def yX (ro:pW):Fence:={Fence.wide with round:=ro}
theorem a7G {ro:pW}{n:Nat}{P:Program}{f:FuncId}{args:Array pZ}{w:pY}{R:Ending->pY->Prop}(h:Calls P f args w R):CallsIn (yX ro) n P f args w R:=callsIn_wide.2 h
section
variable {B:Nat}{P:Program}{T:sH}{Γ:tS}(hT:vX P T) (hΓ:DT P Γ) {A:Nat->Nat->Prop}{L:List qP}{g0:Gh}{w0:pY}{Q:Exit->Act->pY->Prop}
include hT hΓ
theorem Fw {g:Gh}{w:pY}{s:St}{a:Act}(h:tZ B g w s a) (e:r9):yU g s.nb e:=λi _ hb=>h.nb i hb
omit hT hΓ in
theorem pw {ops:List Oper}{o:Oper}{s:St}{e:r9}(h:zO T Γ ops o s=some e): ∀c,o.op≠.defer c:=by
  intro c z;replace h:=(R5 h).1;unfold QM at h;cases j:o.guard with
  |none=>rw[j,z] at h;simp [QL,uL,QJ] at h
  | some jb=>
    rw[j,z] at h;simp only at h;cases hk:Γ (ZO jb.1 jb.2) with
    |some _=>rw[hk] at h;cases h
    | none=>
      rw[hk] at h;simp only[V5] at h;cases D:GZ s.env jb.2 (A7 ops jb.1)<;>rw[D] at h<;>simp [QK,uL,J2] at h
omit hT hΓ in
theorem bq {ro:pW}{o:Oper}{a:Act}{w:pY}{K:Act->pY->Prop}(j: ∀c,o.op≠.defer c) (h:o.wp P a w K Q):o.wpIn (yX ro) 0 P a w K Q:=by
  refine⟨λ_ _=>trivial,?_⟩;rw[Oper.semAt_eq _ _ _ j];unfold Oper.wp at h;generalize (execOp a.eval o).run P w=r at h|-;unfold Oper.upon at h;unfold Oper.uponIn;split at h
  .exact h
  .exact h
  .exact h
  .exact⟨λh0=>(by cases h0),a7G h⟩
  .exact⟨λh0=>(by cases h0),λc cs _=>let ⟨v,w',r,s⟩:=h c cs;⟨v,w',r,stepsIn_wide.2 s⟩⟩
  .exact h
  exact h.elim
theorem pz {ro:pW}{ops:Array Oper}: ∀{l:List Oper}{x y:uM}{a:Act}{w:pY}{g:Gh},tP T Γ ops.toList l (some x)=some y->(∀p∈y.side,p)->tZ B g w x.s a->tE A L g0 w0 g w x.s.H->L.length=x.s.np->
    (∀g' a' w',tZ B g' w' y.s a'->tE A L g0 w0 g' w' y.s.H->Q .normal a' w')->wpListIn (yX ro) 0 P ops Q l a w
  | [],x,y,a,w,g,h,D,hr,F,E,G=>by
    simp only[tP,aM6] at h;subst h;exact G g a w hr F
  | o::l,x,y,a,w,g,h,D,hr,F,E,G=>by
    obtain⟨e,I,R,O,M⟩:=bp h;have j: ∀p∈e.side,p:=λp hp=>D p ((BU M).1 p (wS.2 (.inr (wS.2 (.inr hp)))));have key:=pm hT hΓ (ops:=ops.toList) (o:=o) (a:=a) (K:=wpListIn (yX ro) 0 P ops Q l) (Q:=Q) hr.env hr.heap I j (Fw hT hΓ hr e) (λg' w' v k=>pz M D (hr.step k R O) (F.eff k (E▸(R5 I).2)) E G);simp only[aOk] at key;unfold wpListIn;split at key
    .rename_i z;rw[aM4 z];exact bq (pw I) key
    rename_i z;rw[aM9 z];exact⟨λ_ _=>trivial,key⟩
theorem a7H {ro:pW}{id:Nat}{ops:Array Oper}{s:St}{y:uM}{a:Act}{w:pY}{g:Gh}(h:tP T Γ ops.toList ops.toList (some ⟨s,[],[]⟩)=some y) (j: ∀p∈y.side,p) (hr:tZ B g w s a) (D:tE A L g0 w0 g w s.H) (z:L.length=s.np)
    (E: ∀g' a' w',tZ B g' w' y.s a'->tE A L g0 w0 g' w' y.s.H->Q .normal a' w'):(Code.region id ops false).wpIn (yX ro) 0 P Q a w:=
  wpIn_region_list (pz hT hΓ h j hr D z E)
end
theorem a7I {H H':List (Nat×qP)}{t:Ty}{i off:Nat}{e:r9}(h:J0 H t i off (qT H i)=some e) (D: ∀id∈e.rds,qT H' id=qT H id):i∈e.rds/\J0 H' t i off (qT H' i)=some e:=by
  have key: ∃k n v x ts,qT H i=some (.cells v x ts)/\BO v x=some (k,n)/\YW t i off k n v x (qT H k)=some e/\e.rds=[1000000000,i,k]:=by
    unfold J0 at h;split at h
    case h_2=>cases h
    rename_i v x ts hb;cases hf:BO v x with
    |none=>rw[hf] at h;cases h
    | some q=>
      obtain⟨k,n⟩:=q;rw[hf] at h;refine⟨k,n,v,x,ts,hb,hf,h,?_⟩;simp only[YX] at h;unfold YW at h;split at h
      case h_2=>cases h
      generalize zN _ _ _ _=z at h;cases z with
      |none=>cases h
      | some z=>
        obtain⟨v',x'⟩:=z;simp only[kl] at h;unfold kj at h;split at h
        .simp only[aM6] at h;rw[<-h]
        cases h
  obtain⟨k,n,v,x,ts,G,F,E,j⟩:=key;refine⟨by rw[j];simp,?_⟩;rw[D i (by rw[j];simp),G];simp only[J0,F,YX];rw[D k (by rw[j];simp)];exact E
theorem qa {ρ ρ':Operand->qK}: ∀{xs:List Operand},(∀x∈xs,ρ' x=ρ x)->vW ρ' xs=vW ρ xs
  |[],_=>rfl
  |x::xs,h=>by simp only[vW,h x pO,qa (λy j=>h y (aNp _ j))]
theorem qb {ρ ρ':Operand->qK}: ∀{xs:List (Nat×Operand)},(∀x∈xs,ρ' x.2=ρ x.2)->uQ ρ' xs=uQ ρ xs
  |[],_=>rfl
  |(i,x)::xs,h=>by simp only[uQ,h (i,x) pO,qb (λy j=>h y (aNp _ j))]
theorem Fx {T:sH}{ρ ρ':Operand->qK}: ∀{xs:List Operand}{ts:List TypeId},(∀x∈xs,ρ' x=ρ x)->GY T ρ' xs ts=GY T ρ xs ts
  |[],_,_=>by simp [GY]
  |_::_,[],_=>by simp [GY]
  |x::xs,t::ts,h=>by simp only[GY,h x pO,Fx (λy j=>h y (aNp _ j))]
theorem a7J {T:sH}{Γ:tS}{ty:TypeId}{ρ ρ':Operand->qK}{base:Nat}{H:List (Nat×qP)}(op:Op) (h: ∀x∈op.operands,ρ' x=ρ x):uL T Γ ty ρ' base H op=uL T Γ ty ρ base H op:=by
  cases op
  case slice t x lo hi mx=>
    cases mx with
    |some m=>rfl
    | none=>
      have G:=h x (by simp [Op.operands])
      have F:wM ρ' lo=wM ρ lo:=by
        cases lo with
        |none=>rfl
        |some l=>simp only[wM,h l (by simp [Op.operands])]
      have E:wM ρ' hi=wM ρ hi:=by
        cases hi with
        |none=>rfl
        |some l=>simp only[wM,h l (by simp [Op.operands])]
      simp only[uL,G,F,E]
  case call c=>
    obtain⟨callee,args,tys⟩:=c
    have z: ∀x∈args.toList,ρ' x=ρ x:=λx j=>h x (by
      have:x∈args:=by simpa using j
      simp only[Op.operands,Call.operands];split<;>simp [this])
    cases callee with
    |builtin b=>cases b<;>simp only[uL,LP,qa z]
    | value f=>
      have hf:=h f (by simp [Op.operands,Call.operands]);simp only[uL,LP,hf];cases LO args.toList tys.toList with
      |false=>rfl
      |true=>simp only[lm,Fx z]
    |_=>rfl
  case build t ps=>simp only[uL,qb (λx j=>h x.2 aPi)]
  case buildSlice t n ps=>simp only[uL,qb (λx j=>h x.2 aPi)]
  case makeFunc f first caps=>
    cases f with
    | func f=>
      have D: ∀x∈caps.toList,ρ' x=ρ x:=λx j=>h x (by
        have:x∈caps:=by simpa using j
        simp [Op.operands,this])
      simp only[uL,qa D]
    |_=>rfl
  all_goals first
    |rfl
    |(simp only[Op.operands,aOO,aNk,aOq,or_false,forall_eq,forall_eq_or_imp] at h;simp only[uL,h])
    |(simp [Op.operands] at h;simp only[uL,h])
theorem qc: ∀{l acc:List rW}{i:Nat},i∈sD (zL l acc)↔i∈sD l\/i∈sD acc
  |[],_,_=>by simp [zL,sD]
  | w::l,acc,i=>by
    simp only[zL,qc,sD,aNk];constructor
    · rintro(h|h|h)
      .exact .inl (.inr h)
      .exact .inl (.inl h)
      exact .inr h
    rintro((h|h) |h)
    .exact .inr (.inl h)
    .exact .inl h
    exact .inr (.inr h)
section
variable {H H':List (Nat×qP)}
theorem a7K {k:pW}{a b:tD}(h:zM H k (some a)=some b):(∀i,i∈sD a.ws->i∈sD b.ws)/\((∀i,i∈sD b.ws->qT H' i=qT H i)->zM H' k (some a)=some b):=by
  cases k with
  | none=>
    have h:none=some b:=h;cases h
  | some k=>
    simp only[zM] at h|-
    have:(∃e c m,qT H k=some (.grow e c m)):=by
      cases j:qT H k with
      |none=>rw[j] at h;cases h
      | some bl=>cases bl with
        |grow e c m=>exact⟨_,_,_,rfl⟩
        |_=>rw[j] at h;cases h
    obtain⟨e,c,m,j⟩:=this;rw[j] at h;simp only[CI] at h;split at h
    .cases h
    rename_i hm
    simp only[aM6] at h;subst h;refine⟨λi hi=>by simp only[sD,aNk];exact .inr hi,λz=>?_⟩;rw[z k aPj,j];simp only[CI];rw[aM9 hm]
theorem a7L (H:List (Nat×qP)) (k:pW):zM H k none=none:=by
  cases k with
  |none=>rfl
  | some k=>
    simp only[zM];cases qT H k with
    |none=>rfl
    |some bl=>cases bl<;>rfl
theorem Fy (H:List (Nat×qP)) (toks:pS) (o:Nat): ∀(qs:pX),yS H toks o qs none=none
  |[]=>rfl
  |q::qs=>by simp only[yS,a7L,Fy H toks o qs]
theorem Fz {H H':List (Nat×qP)}{toks:pS}{o:Nat}: ∀{qs:pX}{a b:tD},yS H toks o qs (some a)=some b->(∀i,i∈sD a.ws->i∈sD b.ws)/\((∀i,i∈sD b.ws->qT H' i=qT H i)->yS H' toks o qs (some a)=some b)
  |[],a,b,h=>by simp only[yS,aM6] at h;subst h;exact⟨λ_ h=>h,λ_=>rfl⟩
  | q::qs,a,b,h=>by
    simp only[yS] at h|-;cases hm:zM H (xC toks (o+q)) (some a) with
    |none=>rw[hm,Fy] at h;cases h
    | some m=>
      rw[hm] at h;obtain⟨F,E⟩:=a7K (H':=H') hm;obtain⟨z,D⟩:=Fz (H':=H') h;exact⟨λi hi=>z i (F i hi),λj=>by rw[E (λi hi=>j i (z i hi))];exact D j⟩
theorem a7M (H H':List (Nat×qP)) (a:tD) (s:qK):xV H' a .v s=xV H a .v s:=by
  obtain⟨d,k⟩:=s;cases d with
  | val t x=>
    cases t with
    | clo=>
      cases x with
      |none=>rfl
      |some q=>obtain⟨f,l⟩:=q;cases l<;>rfl
    |_=>rfl
  |_=>rfl
theorem Ga {H H':List (Nat×qP)}{t:Ty}{os:pX}{i o:Nat}{a b:tD}(h:vZ H t os i o a (qT H i)=some b):(∀i,i∈sD a.ws->i∈sD b.ws)/\((∀i,i∈sD b.ws->qT H' i=qT H i)->vZ H' t os i o a (qT H' i)=some b):=by
  cases D:qT H i with
  |none=>rw[D] at h;simp [vZ] at h
  | some bl=>
    rw[D] at h;cases bl with
    | cells u x toks=>
      simp only[vZ] at h;cases z:rR t u x o with
      |none=>rw[z] at h;simp [FM] at h
      | some y=>
        rw[z] at h;simp only[FM] at h;split at h
        · rename_i I
          obtain⟨F,K⟩:=Fz (H':=H') h;refine⟨λj G=>F j (by simp only[sD,aNk];exact .inr G),λE=>?_⟩;rw[E i (F i aPj),D];simp only[vZ,z,FM];rw[aM4 I];exact K E
        .cases h
    |_=>simp [vZ] at h
theorem a7N (H:List (Nat×qP)) (f:FuncId) (args:List qK) (ks:List (Ty×pX)) (cs ids:pS):xU H f args ks cs ids none=none:=by cases ks<;>cases cs<;>rfl
theorem Gb {H H':List (Nat×qP)}{f:FuncId}{args:List qK}: ∀{ks:List (Ty×pX)}{cs ids:pS}{a b:tD},xU H f args ks cs ids (some a)=some b->(∀i,i∈sD a.ws->i∈sD b.ws)/\((∀i,i∈sD b.ws->qT H' i=qT H i)->xU H' f args ks cs ids (some a)=some b)
  | [],[],ids,a,b,h=>by
    simp only[xU,aM6] at h|-;subst h;exact⟨λ_ h=>h,λ_=>rfl⟩
  |[],_::_,_,_,_,h=>by simp [xU] at h
  |_::_,[],_,_,_,h=>by simp [xU] at h
  | (t,os)::ks,(i,o)::cs,ids,a,b,h=>by
    simp only[xU] at h|-;cases hb:vZ H t os i o a (qT H i) with
    |none=>rw[hb,a7N] at h;cases h
    | some m=>
      rw[hb] at h;obtain⟨F,E⟩:=Ga (H':=H') hb;obtain⟨z,D⟩:=Gb (H':=H') h;exact⟨λi hi=>z i (F i hi),λj=>by rw[E (λi hi=>j i (z i hi))];exact D j⟩
theorem Gc {p:PK}{s:qK}{a b:tD}(h:xV H a p s=some b):(∀i,i∈sD a.ws->i∈sD b.ws)/\((∀i,i∈sD b.ws->qT H' i=qT H i)->xV H' a p s=some b):=by
  by_cases E:p= .v
  · subst E
    refine⟨?_,λ_=>by rw[a7M H H'];exact h⟩;unfold xV at h;split at h
    .simp only[YH,aM6] at h;subst h;exact λ_ h=>h
    · simp only[YG] at h
      split at h
      .simp only[aM6] at h;subst h;exact λ_ h=>h
      cases h
    .simp only[YI,aM6] at h;subst h;exact λ_ h=>h
    .rename_i D;cases D
    .rename_i D;cases D
    .rename_i D;cases D
    .rename_i D;cases D
    .rename_i D;cases D
    .rename_i D;cases D
    cases h
  unfold xV at h;split at h
  .exact absurd rfl E
  .exact absurd rfl E
  .exact absurd rfl E
  · rename_i t x k
    simp only[xV];cases z:qT H k with
    |none=>rw[z] at h;simp [CK] at h
    | some bl=>
      rw[z] at h;cases bl with
      | grow e c m=>
        simp only[CK] at h;split at h
        · rename_i G
          simp only[aM6] at h;subst h;refine⟨λi hi=>by simp only[sD,aNk];exact .inr hi,λF=>?_⟩;rw[F k aPj,z];simp only[CK];rw[aM4 G]
        .cases h
      |_=>simp [CK] at h
  · rename_i t os i o k
    simp only[xV];exact Ga h
  · rename_i i k
    simp only[xV];cases z:qT H i with
    |none=>rw[z] at h;simp [CL] at h
    | some bl=>
      rw[z] at h;cases bl with
      | map s t l=>
        simp only[CL] at h;split at h
        · rename_i G
          simp only[aM6] at h;subst h;refine⟨λj I=>by simp only[sD,aNk];exact .inr I,λF=>?_⟩;rw[F i aPj,z];simp only[CL];rw[aM4 G]
        .cases h
      |_=>simp [CL] at h
  · rename_i i k
    simp only[xV];cases z:qT H i with
    |none=>rw[z] at h;simp [CM] at h
    | some bl=>
      rw[z] at h;cases bl with
      | map s t l=>
        simp only[CM] at h;split at h
        · rename_i G
          simp only[aM6] at h;subst h;refine⟨λj I=>by simp only[sD,aNk];exact .inr I,λF=>?_⟩;rw[F i aPj,z];simp only[CM];rw[aM4 G]
        .cases h
      |_=>simp [CM] at h
  · rename_i k n k'
    simp only[xV];cases z:qT H k with
    |none=>rw[z] at h;simp [CN] at h
    | some bl=>
      rw[z] at h;cases bl with
      | row e t l m=>
        simp only[CN] at h;split at h
        · rename_i G
          simp only[aM6] at h;subst h;refine⟨λj I=>by simp only[sD,aNk];exact .inr I,λF=>?_⟩;rw[F k aPj,z];simp only[CN];rw[aM4 G]
        .cases h
      |_=>simp [CN] at h
  · simp only[xV]
    exact Gb h
  cases h
theorem Gd (H:List (Nat×qP)) (gs:List (Nat×Nat×PK)):BM H gs none=none:=by cases gs<;>rfl
theorem Ge {H H':List (Nat×qP)}: ∀{gs:List (Nat×Nat×PK)}{a b:tD},BM H gs (some a)=some b->(∀i,i∈sD a.ws->i∈sD b.ws)/\((∀i,i∈sD b.ws->qT H' i=qT H i)->BM H' gs (some a)=some b)
  |[],a,b,h=>by simp only[BM,aM6] at h;subst h;exact⟨λ_ h=>h,λ_=>rfl⟩
  | (c,q,pk)::gs,a,b,h=>by
    simp only[BM] at h|-;cases hm:xV H a pk (LC q pk (IW a.H (a.n-1-c))) with
    |none=>rw[hm] at h;simp only[Q9,Gd] at h;cases h
    | some m=>
      rw[hm] at h;simp only[Q9] at h;obtain⟨F,E⟩:=Gc (H':=H') hm;obtain⟨z,D⟩:=Ge (H':=H') h;exact⟨λi hi=>z i (F i hi),λj=>by rw[E (λi hi=>j i (z i hi))];simp only[Q9];exact D j⟩
theorem a7O (H:List (Nat×qP)): ∀(ps:List PK) (ss:List qK),xW H ps ss none=none
  |[],[]=>rfl
  |[],_::_=>rfl
  |_::_,[]=>rfl
  |_::_,_::_=>rfl
theorem Gf {H H':List (Nat×qP)}: ∀{ps:List PK}{ss:List qK}{a b:tD},xW H ps ss (some a)=some b->(∀i,i∈sD a.ws->i∈sD b.ws)/\((∀i,i∈sD b.ws->qT H' i=qT H i)->xW H' ps ss (some a)=some b)
  |[],[],a,b,h=>by simp only[xW,aM6] at h;subst h;exact⟨λ_ h=>h,λ_=>rfl⟩
  |[],_::_,a,b,h=>by simp [xW] at h
  |_::_,[],a,b,h=>by simp [xW] at h
  | p::ps,s::ss,a,b,h=>by
    simp only[xW] at h|-;cases hm:xV H a p s with
    |none=>rw[hm,a7O] at h;cases h
    | some m=>
      rw[hm] at h;obtain⟨F,E⟩:=Gc (H':=H') hm;obtain⟨z,D⟩:=Gf (H':=H') h;exact⟨λi hi=>z i (F i hi),λj=>by rw[E (λi hi=>j i (z i hi))];exact D j⟩
theorem Gg {H H':List (Nat×qP)}{base:Nat}{args:List qK}{s:r7}{e:r9}(h:GW H base args (some s)=some e) (E: ∀i∈e.rds,qT H' i=qT H i):GW H' base args (some s)=some e:=by
  simp only[GW] at h|-;cases j:xW H s.ps args (some ⟨[],[],[],0⟩) with
  |none=>rw[j,Gd] at h;cases h
  |some a0=>
   rw[j] at h;cases hp:BM H s.gs (some a0) with
   |none=>rw[hp] at h;cases h
   |some a=>
    rw[hp] at h
    have z: ∀i,i∈sD (zL a.ws [])->i∈e.rds:=by
      simp only[UU] at h;cases D:IX (zL a.ws []) (zL a.H []) with
      |none=>rw[D] at h;cases h
      |some L=>
      rw[D] at h;simp only[YO] at h;cases F:s.C (zL a.args []) L with
      |none=>rw[F] at h;cases h
      | some r=>
        rw[F] at h;simp only[YN] at h;unfold US at h;split at h
        · simp only[aM6] at h
          rw[<-h];exact λi hi=>wS.2 (.inl hi)
        cases h
    obtain⟨g1,g2⟩:=Ge (H':=H') hp;rw[(Gf (H':=H') j).2 (λi hi=>E i (z i (qc.2 (.inl (g1 i hi))))),g2 (λi hi=>E i (z i (qc.2 (.inl hi))))];exact h
theorem Gi {H H':List (Nat×qP)}{base:Nat}{args:List qK}{s:Option r7}{e:r9}(h:LN H base args s=some e) (z: ∀i∈e.rds,qT H' i=qT H i):LN H' base args s=some e:=by
  cases s with
  |none=>cases h
  | some s=>
    simp only[LN] at h|-;cases hr:s.row with
    | some F=>
      rw[hr] at h;simp only[ZE] at h|-;unfold YP at h|-;split at h
      · rename_i k n x
        cases j:qT H k with
        |none=>rw[j] at h;cases h
        | some b=>
          have hk:k∈e.rds:=by
            rw[j] at h;cases b with
            | row e0 t l m=>
              simp only[js] at h;unfold Aw at h;split at h
              .simp only[aM6] at h;rw[<-h];simp
              .cases h
            |_=>cases h
          rw[z k hk];exact h
      .cases h
    | none=>
      rw[hr] at h;simp only[ZE] at h|-;cases E:UV s.ps args with
      |none=>rw[E] at h;exact Gg h z
      | some k=>
        rw[E] at h;simp only[Av] at h|-;cases j:qT H k with
        |none=>rw[j] at h;cases h
        | some b=>
          rw[j] at h;cases b with
          | row e0 t l m=>
            simp only[UX] at h;cases hi:GW ((k,.dead)::H) base (UW k t l args) (some s) with
            |none=>rw[hi] at h;cases h
            | some e1=>
              rw[hi] at h
              have hk:k∈e.rds/\∀i∈e1.rds,i∈e.rds:=by
                unfold jr at h;split at h
                · rename_i heq
                  simp only[aM6] at heq;subst heq;split at h
                  · simp only[aM6] at h
                    rw[<-h];exact⟨by simp,λi hi=>aNp _ hi⟩
                  cases h
                cases h
              rw[z k hk.1,j];simp only[UX]
              rw[Gg hi (λi D=>by
                simp only[qT];split
                .rfl
                exact z i (hk.2 i D))]
              exact h
          |_=>cases h
theorem a7P {Γ:tS}{base:Nat}{args:List qK}{f:qK}{e:r9}(h:QG Γ H base args f=some e) (j: ∀i∈e.rds,qT H' i=qT H i):QG Γ H' base args f=some e:=by
  unfold QG at h|-;split at h
  .exact Gi h j
  .exact Gi h j
  cases h
theorem a7Q {T:sH}{Γ:tS}{ty:TypeId}{ρ:Operand->qK}{base:Nat}{op:Op}{e:r9}(h:uL T Γ ty ρ base H op=some e) (z: ∀i∈e.rds,qT H' i=qT H i):uL T Γ ty ρ base H' op=some e:=by
  cases op
  case load t x=>
    simp only[uL] at h|-;unfold YZ at h|-;split at h
    · rename_i ti k n c i o' _ e1 e2
      unfold V1 at h;split at h
      · rename_i e' t' l m j
        split at h
        · rename_i F
          have:e.rds=[k]:=by
            unfold Bc at h;split at h
            .simp only[aM6] at h;rw[<-h]
            cases h
          rw[z k aPk,j];simp only[V1];rw[aM4 F];exact h
        cases h
      cases h
    · rename_i ti i off t m ix _ e1 e2
      split at h
      · rename_i O
        unfold km at h;split at h
        · rename_i u x tk j
          have:e.rds=[i]:=by
            unfold Bf at h;split at h
            .simp only[aM6] at h;rw[<-h]
            cases h
          rw[aM4 O,z i aPk,j];exact h
        cases h
      cases h
    .exact h
    · rename_i ti i off k e1 e2
      rcases Dc h with I|⟨h0,I⟩
      · have hi:i∈e.rds:=by
          rcases Db I with h|h
          · unfold V0 at h
            split at h
            · unfold Bb at h;split at h
              .simp only[aM6] at h;rw[<-h];simp
              cases h
            cases h
          unfold YV at h
          split at h
          · unfold kf at h;split at h
            .simp only[aM6] at h;rw[<-h];simp
            cases h
          cases h
        rw[z i hi,I];rfl
      obtain⟨hi,V⟩:=a7I I z
      rw[z i hi,h0];rw[z i hi] at V;exact V
    cases h
  case store t x y=>
    simp only[uL] at h|-;unfold Z5 at h|-;split at h
    · rename_i ti i off k kk n k' e1 e2 e3
      have hi:i∈e.rds:=by
        unfold kw at h;split at h
        · rcases Dt h with h|h
          · unfold Z0 at h;split at h
            .simp only[aM6] at h;rw[<-h];simp
            cases h
          unfold kv at h;split at h
          .simp only[aM6] at h;rw[<-h];simp
          cases h
        cases h
      rw[z i hi];exact h
    · rename_i ti k n c i o' _ t y k' e1 e2 e3
      split at h
      · rename_i M
        rw[aM4 M];unfold Z4 at h;split at h
        · rename_i e' t' l m j
          split at h
          · rename_i F
            have:e.rds=[k]:=by
              unfold Bh at h;split at h
              .simp only[aM6] at h;rw[<-h]
              cases h
            rw[z k aPk,j];simp only[Z4];rw[aM4 F];exact h
          cases h
        cases h
      cases h
    · rename_i ti i off k t y k' e1 e2 e3
      split at h
      · rename_i M
        have hi:e.rds=[i]:=by
          unfold Z3 at h;split at h
          · unfold Z2 at h
            split at h
            · unfold Bg at h;split at h
              .simp only[aM6] at h;rw[<-h]
              cases h
            cases h
          unfold Z1 at h
          split at h
          · unfold Z0 at h;split at h
            .simp only[aM6] at h;rw[<-h]
            cases h
          cases h
        rw[z i (by rw[hi];simp)];simp only[aM4 M];exact h
      cases h
    cases h
  case call c=>
    obtain⟨callee,args,tys⟩:=c;cases callee with
    | builtin b=>
      cases b
      case append=>
        simp only[uL,LP] at h|-;unfold ZH at h|-;split at h
        · split at h
          · rename_i K
            rw[aM4 K];unfold ZC at h|-;split at h
            · split at h
              · rename_i Q
                rw[aM4 Q];unfold ZB at h;split at h
                · rename_i j
                  split at h
                  · rename_i R
                    split at h
                    · rename_i F
                      simp only[aM6] at h;subst h;rw[z _ (aNq),j];simp only[ZB];rw[aOS R,aM4 F]
                    cases h
                  cases h
                cases h
              cases h
            · split at h
              · rename_i U
                rw[aOS U];unfold ZA at h;split at h
                · rename_i j
                  split at h
                  · rename_i F
                    simp only[aM6] at h;subst h;rw[z _ (aNq),j];simp only[ZA];rw[aM4 F]
                  cases h
                cases h
              cases h
            cases h
          rename_i K
          rw[aM9 K];unfold ll at h|-;split at h
          · unfold ZG at h
            split at h
            · rename_i j
              split at h
              · rename_i F
                simp only[aM6] at h;subst h;rw[z _ (aNq),j];simp only[ZG];rw[aM4 F]
              cases h
            cases h
          cases h
        cases h
      case len=>
        simp only[uL,LP] at h|-;unfold ZF at h|-;split at h
        · unfold li at h|-
          split at h
          · unfold Z9 at h
            split at h
            · rename_i j
              simp only[aM6] at h;subst h;rw[z _ (aNq),j];simp only[Z9]
            cases h
          all_goals exact h
        cases h
      all_goals exact h
    | value f=>
      simp only[uL,LP] at h|-;cases G:LO args.toList tys.toList with
      |false=>rw[G] at h;cases h
      |true=>rw[G] at h;exact a7P h z
    |_=>exact h
  case makeFunc f first caps=>
    cases f with
    |func f=>exact h
    |_=>exact h
  case slice t x lo hi mx=>
    cases mx with
    | none=>
      simp only[uL] at h|-;unfold ZN at h|-;split at h
      · rename_i u el by' ar ls k n _ e1 e2
        generalize wM ρ lo=x1 at h|-;generalize wM ρ hi=x2 at h|-;generalize hb:qT H k=ob at h;unfold lw at h;split at h
        · rename_i e3
          have:e.rds=[k]:=by simp only[aM6] at h;rw[<-h]
          rw[z k aPk,hb];exact h
        cases h
      .exact h
    |some m=>exact h
  case next x b=>
    simp only[uL] at h|-;unfold ZM at h|-;split at h
    · rename_i i k e1
      unfold lv at h;split at h
      · rename_i j
        have:e.rds=[i]:=by
          simp only[aM6] at h;rw[<-h]
        rw[z i aPk,j];exact h
      cases h
    cases h
  case lookup xt x ix ok=>
    simp only[uL] at h|-;unfold ZJ at h|-;split at h
    · rename_i el fl ar ls_ i kk e1 e2
      unfold lq at h|-;split at h
      · rename_i kt vt k a _
        split at h
        · rename_i hk
          rw[aM4 hk];unfold ZI at h;split at h
          · rename_i j
            split at h
            · rename_i E
              split at h
              · rename_i D
                have:e.rds=[i]:=by
                  cases ok<;>(simp only[aM6] at h;rw[<-h])
                rw[z i aPk,j];simp only[ZI];rw[aOS E,aM4 D];exact h
              cases h
            cases h
          cases h
        cases h
      cases h
    .exact h
    cases h
  case mapUpdate mt m x y=>
    simp only[uL] at h|-;unfold QI at h|-;split at h
    · rename_i el fl ar ls_ i kk e1 e2
      unfold ZK at h|-;split at h
      · rename_i kt k a _ u b _
        split at h
        · rename_i hk
          rw[aM4 hk];unfold QH at h;split at h
          · rename_i j
            split at h
            · rename_i E
              split at h
              · rename_i D
                have:e.rds=[i]:=by
                  simp only[aM6] at h;rw[<-h]
                rw[z i aPk,j];simp only[QH];rw[aOS E,aM4 D];exact h
              cases h
            cases h
          cases h
        cases h
      cases h
    cases h
  case insert mt m x y=>
    simp only[uL] at h|-;unfold QI at h|-;split at h
    · rename_i el fl ar ls_ i kk e1 e2
      unfold ZK at h|-;split at h
      · rename_i kt k a _ u b _
        split at h
        · rename_i hk
          rw[aM4 hk];unfold QH at h;split at h
          · rename_i j
            split at h
            · rename_i E
              split at h
              · rename_i D
                have:e.rds=[i]:=by
                  simp only[aM6] at h;rw[<-h]
                rw[z i aPk,j];simp only[QH];rw[aOS E,aM4 D];exact h
              cases h
            cases h
          cases h
        cases h
      cases h
    cases h
  all_goals exact h
end
def a7R {T:sH}{Γ:tS}{ops:Array Oper}{o:Oper}{s s':St}{e:r9}(h:QM T Γ ops.toList o s=some e) (U: ∀t∈o.looksAt ops,lk s'.env t=lk s.env t) (hH: ∀i∈e.rds,qT s'.H i=qT s.H i) (hn:s'.nb=s.nb):QM T Γ ops.toList o s'=some e:=by
 have z: ∀x∈o.op.operands,tC s'.env x=tC s.env x:=λx D=>by
  cases x with
  |tmp t=>exact U t (by simp only[Oper.looksAt,aNU,List.mem_filterMap];exact .inl ⟨.tmp t,by simpa using D,rfl⟩)
  |_=>rfl
 have I:CS s'.env (sQ o.op)=CS s.env (sQ o.op):=by
  have Q: ∀x∈sQ o.op,x∈o.op.operands:=by
   have hp: ∀(l:List (Nat×Operand)) x,x∈sQ.parts l->x∈l.map (·.2):=by
    intro l
    induction l with
    |nil=>intro x h;exact h
    |cons q l ih=>
     intro x h;obtain⟨i,y⟩:=q;simp only[sQ.parts,aNk] at h;rcases h with rfl|h
     .simp
     simp only[aN8,aNk];exact .inr (ih x h)
   have K: ∀(y:Option Operand) x,x∈sQ.opt y->y=some x:=by
    intro y x h;cases y with
    |none=>cases h
    |some y=>simp only[sQ.opt,aNn] at h;rw[h]
   intro x D;cases z:o.op
   case call c=>
    rw[z] at D;obtain⟨callee,args,tys⟩:=c;cases callee<;>simp_all [sQ,Op.operands,Call.operands]
   case slice t y lo hi mx=>
    rw[z] at D;simp only[sQ,aNk,wS] at D;simp only[Op.operands,Array.mem_append];rcases D with rfl|D|D
    .simp
    .have:=K _ _ D;subst this;simp
    have:=K _ _ D;subst this;simp
   case build t ps=>rw[z] at D;simp only[Op.operands,aOO];exact hp _ _ D
   case buildSlice t n ps=>rw[z] at D;simp only[Op.operands,aOO];exact hp _ _ D
   all_goals (rw[z] at D;simp_all [sQ,Op.operands])
  have: ∀(l:List Operand),(∀x∈l,x∈o.op.operands)->CS s'.env l=CS s.env l:=by
   intro l
   induction l with
   |nil=>intro _;rfl
   |cons x l ih=>intro h;simp only[CS,z x (h x pO),ih (λy hy=>h y (aNp _ hy))]
  exact this _ Q
 have O: ∀{e0:r9},uL T Γ o.type (λx=>xZ (tC s.env x)) s.nb s.H o.op=some e0->e0.rds=e.rds->uL T Γ o.type (λx=>xZ (tC s'.env x)) s'.nb s'.H o.op=some e0:=by
  intro e0 h1 h2;rw[a7J (ρ:=λx=>xZ (tC s.env x)) (ρ':=λx=>xZ (tC s'.env x)) o.op (λx D=>by simp only[z x D]),hn];exact a7Q h1 (by rw[h2];exact hH)
 unfold QM at h|-;cases R:o.guard with
 |none=>
  rw[R] at h;simp only at h|-;by_cases F: ∃c x y,o.op= .pick c x y
  .obtain⟨c,x,y,hp⟩:=F;rw[hp] at h|-;simp only[QL] at h|-;rw[z c aPl,z x aPl,z y aPl];exact h
  .have e1: ∀s,QL T Γ o s o.op=QJ (z8 true (CS s.env (sQ o.op))) (uL T Γ o.type (λx=>xZ (tC s.env x)) s.nb s.H o.op):=by
    intro s;cases K:o.op<;>first|rfl|(exact absurd ⟨_,_,_,K⟩ F)
   rw[e1] at h|-;rw[I];cases E:uL T Γ o.type (λx=>xZ (tC s.env x)) s.nb s.H o.op with
   |none=>rw[E] at h;cases h
   |some e0=>
    rw[E] at h;simp only[QJ,aM6] at h;rw[O E (by rw[<-h])];simp only[QJ,h]
 |some jb=>
  obtain⟨j,b⟩:=jb;rw[R] at h;simp only at h|-;have Z:GZ s'.env b (A7 ops.toList j)=GZ s.env b (A7 ops.toList j):=by
   rw[VR];cases V:(ops.toList[j]?).bind (·.dst) with
   |none=>rfl
   |some t=>
    simp only[GZ];rw[U t (by
     simp only[Oper.looksAt,R,aNU];right;have:(ops[j]?).bind (·.dst)=some t:=by simpa using V
     rw[this];simp)]
  have X:LQ s'.env b (A7 ops.toList j)=LQ s.env b (A7 ops.toList j):=by
   rw[VR];cases V:(ops.toList[j]?).bind (·.dst) with
   |none=>rfl
   |some t=>
    simp only[LQ];rw[U t (by
     simp only[Oper.looksAt,R,aNU];right;have:(ops[j]?).bind (·.dst)=some t:=by simpa using V
     rw[this];simp)]
  rw[Z,X];cases M:Γ (ZO j b) with
  |some sg=>rw[M] at h;exact h
  |none=>
  rw[M] at h;simp only[V5] at h|-;cases hG:GZ s.env b (A7 ops.toList j) with
  |none=>rw[hG] at h;cases h
  |some G=>
   rw[hG] at h;by_cases F: ∃c x y,o.op= .pick c x y
   .obtain⟨c,x,y,hp⟩:=F;rw[hp] at h|-;simp only[QK] at h|-;rw[z c aPl,z x aPl,z y aPl];exact h
   have e1: ∀s,QK T Γ o s (some G) o.op=J2 G (z8 G (CS s.env (sQ o.op))) (uL T Γ o.type (λx=>xZ (tC s.env x)) s.nb s.H o.op):=by
    intro s;cases K:o.op<;>first|rfl|(exact absurd ⟨_,_,_,K⟩ F)
   rw[e1] at h|-;rw[I];cases E:uL T Γ o.type (λx=>xZ (tC s.env x)) s.nb s.H o.op with
   |none=>rw[E] at h;cases h
   |some e0=>
    rw[E] at h;have Y:e0.rds=e.rds:=by
     unfold J2 at h;split at h
     .rename_i heq;simp only[aM6] at h heq;subst heq;rw[<-h]
     .rename_i heq;simp only[aM6] at h heq;subst heq;rw[<-h]
     cases h
    rw[O E Y];exact h
def qd {T:sH}{Γ:tS}{ops:Array Oper}{o:Oper}{s s':St}{e:r9}(h:zO T Γ ops.toList o s=some e) (z: ∀t∈o.looksAt ops,lk s'.env t=lk s.env t) (hH: ∀i∈e.rds,qT s'.H i=qT s.H i) (D:s'.nb=s.nb) (hp:s'.np=s.np):zO T Γ ops.toList o s'=some e:=by
 obtain⟨j,E⟩:=R5 h;unfold zO at h|-;rw[j] at h;rw[a7R j z hH D,hp];exact h
def uV {α:Type}(p:Nat->Bool) (wr:Nat->Option α) (b:α):Nat->α
 |0=>b
 |k+1=>if p k=true then(wr k).getD (uV p wr b k) else uV p wr b k
def M8 {α:Type}{p q:Nat->Bool}{wr:Nat->Option α}{b:α}: ∀{n:Nat},(∀j,j<n->wr j≠none->p j=q j)->uV p wr b n=uV q wr b n
 |0,_=>rfl
 |n+1,h=>by
  simp only[uV];have ih:=M8 (p:=p) (q:=q) (wr:=wr) (b:=b) (n:=n) (λj D=>h j pM);cases z:wr n with
  |none=>simp [ih]
  |some v=>rw[h n pM (by rw[z];simp),ih]
def qe {α:Type}{wr:Nat->Option α}{b:α}{i:Nat}: ∀{n:Nat},i<=n->uV (λj=>decide (j<i)) wr b n=uV (λ_=>true) wr b i
 |0,h=>by
  have:i=0:=by omega
  subst this;rfl
 |n+1,h=>by
  by_cases hi:i=n+1
  .subst hi;exact M8 (λj z _=>by simp [z])
  have: ¬n<i:=by omega
  simp only[uV];rw[aM9 (by simp [this])];exact qe pM
def br {α:Type}{p q:Nat->Bool}{wr:Nat->Option α}{b:α}{i:Nat}(hi:p i=false) (D: ∀j,q j=if j=i then true else p j): ∀{n:Nat},i<n->(∀j,i<j->j<n->p j=true->wr j=none\/wr i=none)->uV q wr b n=(wr i).getD (uV p wr b n)
 |0,h,_=>by omega
 |n+1,h,F=>by
  simp only[uV];by_cases E:n=i
  .subst E;rw[aM4 (by rw[D];simp),aM9 (by simp [hi])];rw[M8 (p:=q) (q:=p) (λj G _=>by rw[D,aM9 pM])]
  have ih:=br (b:=b) hi D (n:=n) pM (λj z I=>F j z pM);rw[D,aM9 E,ih];by_cases hp:p n=true
  .rw[aM4 hp,aM4 hp];rcases F n pM pM hp with z|z
   .rw[z];rfl
   rw[z];rfl
  rw[aM9 hp,aM9 hp]
def qf {α:Type}{p:Nat->Bool}{wr:Nat->Option α}{b:α}: ∀(k:Nat),uV p wr b (k+1)=uV (λj=>p (j+1)) (λj=>wr (j+1)) (if p 0=true then(wr 0).getD b else b) k
 |0=>rfl
 |k+1=>by
  rw[uV,qf k];rfl
def qg {rds:pX}{i:Nat}: ∀{u:List (Nat×qP)},i∈qV (J5 rds u)↔i∈qV u/\CT i rds=false
 |[]=>by simp [J5,qV]
 |(j,b)::u=>by
  simp only[J5];cases h:CT j rds with
  |true=>
   rw[aM4 rfl,qg (u:=u)];simp only[qV,aNk];constructor
   .rintro⟨D,z⟩;exact⟨.inr D,z⟩
   .rintro⟨rfl|D,z⟩
    .rw[h] at z;cases z
    .exact⟨D,z⟩
  |false=>
   rw[aM9 pO];simp only[qV,aNk,qg (u:=u)];constructor
   .rintro(rfl|⟨D,z⟩)
    .exact⟨.inl rfl,h⟩
    exact⟨.inr D,z⟩
   rintro⟨rfl|D,z⟩
   .exact .inl rfl
   exact .inr ⟨D,z⟩
def R6 {e:r9}{i:Nat}:i∈qV (y4 e)↔i∈qV e.upd/\CT i e.rds=false:=qg
def Gj {i:Nat}: ∀{l:pX},CT i l=true->i∈l
 |[],h=>by cases h
 |j::l,h=>by
  simp only[CT] at h;split at h
  .rename_i e;subst e;exact aNq
  exact aNp _ (Gj h)
def Gk {H U:List (Nat×qP)}{rds:pX}{i:Nat}(h:CT i rds=true): ∀{u:List (Nat×qP)},i∈qV u->(qT U i=qT H i)∈LR H U rds u
 |[],hi=>by cases hi
 |(j,b)::u,hi=>by
  simp only[LR];simp only[qV,aNk] at hi;rcases hi with rfl|hi
  .rw[aM4 h];exact aNq
  have:=Gk (H:=H) (U:=U) h hi;split
  .exact aNp _ this
  exact this
def a7S {H:List (Nat×qP)}{e:r9}(z: ∀p∈LR H e.upd e.rds e.upd,p) {i:Nat}(j:i∈qV e.upd) (E:i∉qV (y4 e)):qT e.upd i=qT H i/\i∈e.rds:=by
 have h:CT i e.rds=true:=by
  cases D:CT i e.rds with
  |true=>rfl
  |false=>exact absurd (R6.2 ⟨j,D⟩) E
 exact⟨z _ (Gk h j),Gj h⟩
def B4 (os:List Oper) (es:List r9) (t j:Nat):Option qK:=
 match os[j]?,es[j]? with
 |some o,some e=>if o.dst=some t then some e.slot else none
 |_,_=>none
def y7 (es:List r9) (id j:Nat):Option (Option qP):=
 match es[j]? with
 |some e=>if id∈qV (y4 e) then some (qT e.upd id) else none
 |none=>none
def R7 {id:Nat}{H:sA}: ∀{u:List (Nat×qP)},qT (rJ u H) id=if id∈qV u then qT u id else qT H id
 |[]=>by simp [rJ,qV]
 |(k,b)::u=>by
  simp only[rJ,qT,qV,aNk];by_cases h:k=id
  .subst h;simp
  rw[aM9 h,aM9 h,R7 (u:=u)];have:(id=k\/id∈qV u)↔id∈qV u:=⟨λj=>j.resolve_left (Ne.symm h),.inr⟩;simp only[this]
def Gm {d:Option Tmp}{s:qK}{env:List (Nat×qK)}{t:Nat}:lk (tH d s env) t=if d=some t then s else lk env t:=by
 cases d with
 |none=>simp [tH]
 |some d=>simp only[tH,lk,aM6]
structure qh (T:sH) (Γ:tS) (ops:List Oper) (os:List Oper) (es:List r9) (s:St) (y:uM) (k:Nat) (o:Oper) (e:r9) (sk:St):Prop where
 ev:zO T Γ ops o sk=some e
 nb:sk.nb=s.nb+32*k
 dst:zP s.N o.dst=true
 ids:J4 (s.nb+32*k+32) e.upd=true
 np:sk.np=s.np
 side: ∀p∈e.side,p∈y.side
 env: ∀t,lk sk.env t=uV (λ_=>true) (B4 os es t) (lk s.env t) k
 heap: ∀id,qT sk.H id=uV (λ_=>true) (y7 es id) (qT s.H id) k
 same: ∀id,id∈qV e.upd->id∉qV (y4 e)->qT e.upd id=qT sk.H id/\id∈e.rds
structure qi (T:sH) (Γ:tS) (ops:List Oper) (os:List Oper) (es:List r9) (s:St) (y:uM):Prop where
 len:es.length=os.length
 nb:y.s.nb=s.nb+32*os.length
 step: ∀k o e,os[k]? =some o->es[k]? =some e->∃sk,qh T Γ ops os es s y k o e sk
 env: ∀t,lk y.s.env t=uV (λ_=>true) (B4 os es t) (lk s.env t) os.length
 heap: ∀id,qT y.s.H id=uV (λ_=>true) (y7 es id) (qT s.H id) os.length
def bt {T:sH}{Γ:tS}{ops:List Oper}: ∀{l:List Oper}{x y:uM},tP T Γ ops l (some x)=some y->(∀p∈y.side,p)->∃es:List r9,y.es=es.reverse++x.es/\qi T Γ ops l es x.s y
 |[],x,y,h,_=>by
  simp only[tP,aM6] at h;subst h;exact⟨[],rfl,rfl,rfl,λk o e h=>by simp at h,λ_=>rfl,λ_=>rfl⟩
 |o::l,x,y,h,E=>by
  obtain⟨e,O,M,R,K⟩:=bp h;obtain⟨es,Q,D⟩:=bt K E;have j: ∀{i:Nat},i∈qV e.upd->i∉qV (y4 e)->qT e.upd i=qT x.s.H i/\i∈e.rds:=λO M=>a7S (λp hp=>E p ((BU K).1 p (wS.2 (.inr (wS.2 (.inl hp)))))) O M;have envs: ∀t k,uV (λ_=>true) (B4 (o::l) (e::es) t) (lk x.s.env t) (k+1)=uV (λ_=>true) (B4 l es t) (lk (tH o.dst e.slot x.s.env) t) k:=λt k=>by
   rw[qf,aM4 rfl,Gm];have:(B4 (o::l) (e::es) t 0).getD (lk x.s.env t)=if o.dst=some t then e.slot else lk x.s.env t:=by
    simp only[B4,aNC];split<;>rfl
   rw[this];rfl
  have z: ∀id k,uV (λ_=>true) (y7 (e::es) id) (qT x.s.H id) (k+1)=uV (λ_=>true) (y7 es id) (qT (rJ e.upd x.s.H) id) k:=λid k=>by
   rw[qf,aM4 rfl,R7];have:(y7 (e::es) id 0).getD (qT x.s.H id)=if id∈qV e.upd then qT e.upd id else qT x.s.H id:=by
    simp only[y7,aNC];by_cases I:id∈qV (y4 e)
    .rw[aM4 I,aM4 (R6.1 I).1];rfl
    rw[aM9 I];by_cases h8:id∈qV e.upd
    .rw[aM4 h8,(j h8 I).1];rfl
    rw[aM9 h8];rfl
   rw[this];rfl
  refine⟨e::es,by rw[Q];simp,by simp [D.len],?_,?_,λt=>?_,λid=>?_⟩
  .have:=D.nb;simp only at this;rw[this];simp only[aM5];omega
  .intro k o' e' F G;cases k with
   |zero=>
    simp only[aNC,aM6] at F G;subst F;subst G;exact⟨x.s,O,rfl,M,R,rfl,λp hp=>(BU K).1 p (wS.2 (.inr (wS.2 (.inr hp)))),λ_=>rfl,λ_=>rfl,λid=>j⟩
   |succ k=>
    simp only[aNP] at F G;obtain⟨sk,q⟩:=D.step k o' e' F G;refine⟨sk,q.ev,by rw[q.nb];simp only;omega,q.dst,?_,q.np,q.side,λt=>by rw[q.env t,envs],λid=>by rw[q.heap id,z],q.same⟩;have:=q.ids;simp only at this;rw[show x.s.nb+32*(k+1)+32=x.s.nb+32+32*k+32 by omega];exact this
  .rw[aM5,envs];exact D.env t
  rw[aM5,z];exact D.heap id
def Gn {i0 j0:Nat}{ops:Array Oper}{bs:pX}{nb i:Nat}{o:Oper}{e:r9}: ∀{ps:List Oper}{fs:List r9}{j:Nat},ZQ i0 j0 ops bs nb i o e ps fs j=true->∀k p f,ps[k]? =some p->fs[k]? =some f->
  (bs.getD (j+k) 0).testBit i=true\/(o.apart ops p=true/\(H0 e f=true\/(i=i0/\j+k=j0))/\LS (nb+32*i) f.upd=true)
 |p::ps,f::fs,j,h,k,p',f',hp,hf=>by
  simp only[ZQ,aNf,aOt,aNj] at h;cases k with
  |zero=>
   simp only[aNC,aM6] at hp hf;subst hp;subst hf;exact h.1.imp id (λh=>⟨h.1.1,h.1.2,h.2⟩)
  |succ k=>
   simp only[aNP] at hp hf;have:=Gn h.2 k p' f' hp hf;rw[show j+(k+1)=j+1+k by omega];exact this
 |[],_,_,_,_,_,_,hp,_=>by simp at hp
 |_::_,[],_,_,_,_,_,_,hf=>by simp at hf
def qj {i0 j0:Nat}{ops:Array Oper}{bs:pX}{nb:Nat}: ∀{os:List Oper}{es:List r9}{m:Nat},ZR i0 j0 ops bs nb os es m=true->∀i j o e p f,i<j->os[i]? =some o->es[i]? =some e->os[j]? =some p->es[j]? =some f->
  (bs.getD (m+j) 0).testBit (m+i)=true\/(o.apart ops p=true/\(H0 e f=true\/(m+i=i0/\m+j=j0))/\LS (nb+32*(m+i)) f.upd=true)
 |o'::os,e'::es,m,h,i,j,o,e,p,f,E,z,D,hp,hf=>by
  simp only[ZR,aNf] at h;obtain⟨j,rfl⟩: ∃k,j=k+1:=⟨j-1,pM⟩;simp only[aNP] at hp hf;cases i with
  |zero=>
   simp only[aNC,aM6] at z D;subst z;subst D;have:=Gn h.1 j p f hp hf;rw[show m+(j+1)=m+1+j by omega];exact this
  |succ i=>
   simp only[aNP] at z D;have:=qj h.2 i j o e p f pM z D hp hf;rw[show m+(j+1)=m+1+j by omega,show m+(i+1)=m+1+i by omega];exact this
 |[],_,_,_,_,_,_,_,_,_,_,z,_,_,_=>by simp at z
 |_::_,[],_,_,_,_,_,_,_,_,_,_,D,_,_=>by simp at D
def Gp: ∀{os:List Oper}{m:Nat},ZS os m=true->∀i o,os[i]? =some o->∀e∈o.after,Region.binds .any e=true->e.on<m+i
 |o'::os,m,h,i,o,j,e,z,hb=>by
  simp only[ZS,aNf] at h;cases i with
  |zero=>
   simp only[aNC,aM6] at j;subst j;have:=aN4.1 h.1 e aO6;simpa[hb] using this
  |succ i=>
   simp only[aNP] at j;have:=Gp h.2 i o j e z hb;omega
 |[],_,_,_,_,j,_,_,_=>by simp at j
def bu {l:pX}: ∀{u:List (Nat×qP)},V6 u l=false->∀i,i∈qV u->i∉l
 |(k,b)::u,h,i,hi=>by
  simp only[V6,aOZ] at h;simp only[qV,aNk] at hi;rcases hi with rfl|hi
  .simpa using h.1
  exact bu h.2 i hi
def R8 {a b:r9}(h:H0 a b=true):(∀i∈qV (y4 a),i∉b.rds/\i∉qV b.upd)/\(∀i∈qV (y4 b),i∉a.rds):=by
 simp only[H0,aNf,aNS] at h;exact⟨λi hi=>⟨λj=>bu h.1 i hi (wS.2 (.inl j)),λj=>bu h.1 i hi (wS.2 (.inr j))⟩,λi hi=>bu h.2 i hi⟩
def Gq {lo:Nat}: ∀{u:List (Nat×qP)},LS lo u=true->∀i∈qV u,i<lo\/lo+32<=i
 |(k,b)::u,h,i,hi=>by
  simp only[LS,aNf,aOt,aNj] at h;simp only[qV,aNk] at hi;rcases hi with rfl|hi
  .exact h.1
  exact Gq h.2 i hi
def qk (os:List Oper) (p:Nat->Bool):Prop:= ∀j o,os[j]? =some o->p j=true->∀e∈o.after,Region.binds .any e=true->p e.on=true
def Gr {p:Nat->Bool}{acc:Array Nat}(D: ∀i j,(acc.getD i 0).testBit j=true->p i=true->p j=true) {i:Nat}: ∀{es:List Edge}{s:Nat},(s.testBit i=true->p i=true)->(∀e∈es,Region.binds .any e=true->p e.on=true)->
  (es.foldl (λs e=>if Region.binds .any e then s|||2^e.on|||acc.getD e.on 0 else s) s).testBit i=true->p i=true
 |[],s,E,_,h=>E h
 |e::es,s,E,F,h=>by
  simp only[List.foldl_cons] at h;refine Gr D (es:=es) (λz=>?_) (λe' G=>F e' (aNp _ G)) h;split at z
  .rename_i hb;simp only[Nat.testBit_or,aOt,Nat.testBit_two_pow,aNj] at z;rcases z with(z|z) |z
   .exact E z
   .rw[<-z];exact F e pO hb
   exact D _ _ z (F e pO hb)
  exact E z
def Gs {p:Nat->Bool}: ∀{os:List Oper}{acc:Array Nat},(∀i j,(acc.getD i 0).testBit j=true->p i=true->p j=true)->(∀j o,os[j]? =some o->p (acc.size+j)=true->∀e∈o.after,Region.binds .any e=true->p e.on=true)->
  ∀i j,((os.foldl (λacc o=>acc.push (o.after.foldl (λs e=>if Region.binds .any e then s|||2^e.on|||acc.getD e.on 0 else s) 0)) acc).getD i 0).testBit j=true->p i=true->p j=true
 |[],acc,z,_,i,j,h,hp=>z i j h hp
 |o::os,acc,z,D,i,j,h,hp=>by
  simp only[List.foldl_cons] at h;refine Gs (os:=os) (λi j h hp=>?_) (λk o' E hk=>?_) i j h hp
  .rw[aNw,Array.getElem?_push] at h;split at h
   .rename_i hi;simp only[aOW] at h;rw[<-aO0] at h;refine Gr z (es:=o.after.toList) (s:=0) (λh=>by simp at h) (λe F hb=>D 0 o rfl (by rw[hi] at hp;exact hp) e aPd hb) h
   rw[<-aNw] at h;exact z i j h hp
  refine D (k+1) o' E ?_;rw[Array.size_push] at hk;rw[show acc.size+(k+1)=acc.size+1+k by omega];exact hk
def Gt {ops:Array Oper}{p:Nat->Bool}(hp:qk ops.toList p) {i j:Nat}(h:((Region.before ops).toList.getD i 0).testBit j=true) (hi:p i=true):p j=true:=by
 refine Gs (os:=ops.toList) (acc:= #[]) (p:=p) (λi j h=>by simp at h) (λj o z D=>hp j o z aPm) i j ?_ hi;unfold Region.before at h;rw[<-aO0] at h;rw[aNw,<-aOx,<-aNy];exact h
def DX (l:Array Bool):Nat->Nat
 |0=>0
 |k+1=>DX l k+if l.getD k false=true then 0 else 1
theorem Gu {l l':Array Bool}: ∀{n:Nat},(∀j,j<n->l'.getD j false=l.getD j false)->DX l' n=DX l n
 |0,_=>rfl
 |n+1,h=>by simp only[DX];rw[Gu (λj z=>h j pM),h n pM]
theorem Gv {l:Array Bool}: ∀{n:Nat},DX l n=0->∀j,j<n->l.getD j false=true
 |n+1,h,j,E=>by
  simp only[DX] at h;by_cases D:l.getD n false=true
  .by_cases z:j=n
   .subst z;exact D
   exact Gv (n:=n) pM j pM
  rw[aM9 D] at h;omega
theorem H9 {l:Array Bool}{i j:Nat}(hi:i<l.size):(l.setIfInBounds i true).getD j false=if j=i then true else l.getD j false:=by
 by_cases h:j=i
 .subst h;rw[aM4 rfl,aNw,Array.getElem?_setIfInBounds_self_of_lt hi];rfl
 rw[aM9 h,aNw,aNY (Ne.symm h),<-aNw]
theorem Gw {l:Array Bool}{i:Nat}(hi:i<l.size) (hf:l.getD i false=false): ∀{n:Nat},i<n->DX (l.setIfInBounds i true) n+1=DX l n
 |n+1,h=>by
  simp only[DX];by_cases z:n=i
  .subst z;rw[H9 hi,aM4 rfl,aM4 rfl,hf,Gu (l:=l) (λj D=>by rw[H9 hi,aM9 pM])];simp
  rw[H9 hi,aM9 z];have:=Gw hi hf (n:=n) pM;omega
theorem Gx {p:Nat->Bool}: ∀{n:Nat},(∃j,j<n/\p j=false)->∃j,j<n/\p j=false/\∀k,k<j->p k=true
 |0,⟨j,h,_⟩=>by omega
 |n+1,⟨j,h,D⟩=>by
  by_cases z: ∃j,j<n/\p j=false
  .obtain⟨k,G,F,E⟩:=Gx z;exact⟨k,pM,F,E⟩
  refine⟨j,h,D,λk hk=>?_⟩;cases hp:p k with
  |true=>rfl
  |false=>exact absurd ⟨k,pM,hp⟩ z
theorem sL.ext {g:Gh}{w:pY}{H H':sA}(h:sL g w H) (e: ∀i,qT H' i=qT H i):sL g w H':=
 ⟨λi b hb=>h.blk i b aPn,λi j bi bj b o z F E=>h.dis i j bi bj b o z (by rw[<-e];exact F) (by rw[<-e];exact E),h.sl,h.tab.1,λi b bb oo hb D=>h.tab.2 i b bb oo aPn D⟩
theorem tE.ext {A:Nat->Nat->Prop}{L:List qP}{g0 g:Gh}{w0 w:pY}{H H':sA}(h:tE A L g0 w0 g w H) (e: ∀i,qT H' i=qT H i):tE A L g0 w0 g w H':=
 ⟨h.shut,h.fr,λi blk b o hb=>h.perm i blk b o aPn,h.J,h.live,λi u y us hi hb=>h.ty i u y us hi aPn,h.cur⟩
theorem Gy (g:Gh) (w:pY) (d:Nat):Le g w g {w with drawn:=d}:=⟨λ_ _ h=>h,λ_ _ _=>rfl,λ_ _ h=>h,λ_ _ _ h=>h⟩
theorem sL.drawn {g:Gh}{w:pY}{H:sA}(h:sL g w H) (d:Nat):sL g {w with drawn:=d} H:=
 ⟨λi b hb=>QR (h.blk i b hb) (Gy g w d) rfl rfl (λ_ _ _=>⟨rfl,rfl⟩) (λ_ _=>rfl) (λ_ _ _ h=>h) (λ_ _ _ _ h=>h),h.dis,h.sl,UP h.tab.1 (aNt _) (λ_ _=>rfl),h.tab.2⟩
theorem tE.drawn {A:Nat->Nat->Prop}{L:List qP}{g0 g:Gh}{w0 w:pY}{H:sA}(h:tE A L g0 w0 g w H) (d:Nat):tE A L g0 w0 g {w with drawn:=d} H:=
 ⟨h.shut,⟨h.fr.os,h.fr.tape,h.fr.output,h.fr.size,h.fr.blk,h.fr.cell,h.fr.new,h.fr.shape⟩,h.perm,h.J,h.live,h.ty,h.cur⟩
theorem ql {rds:pX}{id:Nat}(h:CT id rds=false): ∀{u:List (Nat×qP)},qT (J5 rds u) id=qT u id
 |[]=>rfl
 |(k,b)::u=>by
  simp only[J5,qT];by_cases hk:k=id
  .subst hk;rw[aM9 (by rw[h];simp)];simp [qT]
  split
  .exact ql h
  simp only[qT,aM9 hk];exact ql h
theorem a7T {e:r9}{id:Nat}(h:CT id e.rds=false):qT (y4 e) id=qT e.upd id:=ql h
theorem Gz {T:sH}{Γ:tS}{ops:List Oper}: ∀{k:Nat}{l:List Oper}{x y:uM},tP T Γ ops l (some x)=some y->∃a,tP T Γ ops (l.take k) (some x)=some a/\tP T Γ ops (l.drop k) (some a)=some y
 |0,l,x,y,h=>⟨x,rfl,h⟩
 |k+1,[],x,y,h=>⟨x,rfl,h⟩
 |k+1,o::l,x,y,h=>by
  simp only[List.take_succ_cons,aOD,tP] at h|-;cases j:ZP o x (zO T Γ ops o x.s) with
  |none=>
   rw[j] at h;cases l with
   |nil=>cases h
   |cons p l=>cases h
  |some z=>rw[j] at h;exact Gz h
theorem qm {α:Type}{p:Nat->Bool}{wr wr':Nat->Option α}{b:α}: ∀{n:Nat},(∀j,j<n->wr j=wr' j)->uV p wr b n=uV p wr' b n
 |0,_=>rfl
 |n+1,h=>by
  simp only[uV];rw[h n pM,qm (wr:=wr) (wr':=wr') (λj z=>h j pM)]
theorem a7U {T:sH}{Γ:tS}{ops:Array Oper}{es:List r9}{s:St}{y a1:uM}{i0:Nat}{o1:Oper}{ex fx:r9}(run:qi T Γ ops.toList ops.toList es s y) (M: ∀p∈y.side,p) (F:ops.toList[i0]? =some o1) (D:tP T Γ ops.toList (ops.toList.take i0) (some ⟨s,[],[]⟩)=some a1)
  (K:y.es.reverse=es) (h:tP T Γ ops.toList ops.toList (some ⟨s,[],[]⟩)=some y) (G:zO T Γ ops.toList o1 ⟨a1.s.env,rJ (y4 fx) a1.s.H,a1.s.nb,a1.s.N,a1.s.np⟩=some ex):
  ∀sk oi,ops.toList[i0]? =some oi->qh T Γ ops.toList ops.toList es s y i0 oi ex sk->zO T Γ ops.toList oi ⟨sk.env,rJ (y4 fx) sk.H,sk.nb,sk.N,sk.np⟩=some ex:=by
 intro sk oi E st;rw[F] at E;cases E;obtain⟨a2,U,R⟩:=Gz (k:=i0) h;rw[D] at U;cases U;have X:i0<ops.toList.length:=(aNl.1 F).1;have z:(ops.toList.take i0).length=i0:=by rw[aNR];omega
 obtain⟨es2,e2,r2⟩:=bt R M;obtain⟨es1,e1,r1⟩:=bt D (λp hp=>M p ((BU R).1 p hp));have Q:es=es1++es2:=by rw[<-K,e2,e1];simp
 have V:es1.length=i0:=by rw[r1.len,z]
 have I:=BU D;refine qd G (λt _=>?_) (λid _=>?_) ?_ ?_
 .show lk sk.env t=lk a1.s.env t;rw[st.env t,r1.env t,z];refine qm (λj O=>?_);unfold B4;rw[Q,aNo pM,List.getElem?_take_of_lt O]
 .show qT (rJ (y4 fx) sk.H) id=qT (rJ (y4 fx) a1.s.H) id;rw[R7,R7,st.heap id,r1.heap id,z];have:uV (λ_=>true) (y7 es id) (qT s.H id) i0=uV (λ_=>true) (y7 es1 id) (qT s.H id) i0:=qm (λj O=>by
   unfold y7;rw[Q,aNo pM])
  rw[this]
 .show sk.nb=a1.s.nb;rw[st.nb,r1.nb,z]
 show sk.np=a1.s.np;rw[st.np,I.2.2]
section
variable {B:Nat}{P:Program}{T:sH}{Γ:tS}(hT:vX P T) (hΓ:DT P Γ) {A:Nat->Nat->Prop}{L:List qP}{g0:Gh}{w0:pY}{Q:Exit->Act->pY->Prop}
structure Ha (B:Nat) (A:Nat->Nat->Prop) (L:List qP) (g0:Gh) (w0:pY) (ops:Array Oper) (es:List r9) (s:St) (listed:Array Bool) (g:Gh) (w:pY) (a:Act) (env:List (Nat×qK)) (H:sA):Prop where
 size:listed.size=ops.size
 closed:qk ops.toList (λj=>listed.getD j false)
 eok:DU g w env a.tmps
 look: ∀t,lk env t=uV (λj=>listed.getD j false) (B4 ops.toList es t) (lk s.env t) ops.size
 heap:sL g w H
 get: ∀id,qT H id=uV (λj=>listed.getD j false) (y7 es id) (qT s.H id) ops.size
 tmps:a.tmps.size=s.N
 def_:zT B w a.defers
 good:tE A L g0 w0 g w H
 len:L.length=s.np
 free: ∀j,j<ops.size->listed.getD j false=false->∀id,s.nb+32*j<=id->id<s.nb+32*j+32->g.J id=none/\∀n,g.cur id n=none
 top: ∀id,s.nb+32*ops.size<=id->g.J id=none/\∀n,g.cur id n=none
include hT hΓ
theorem a7V {i0 j0:Nat}{ro:pW}{ops:Array Oper}{es:List r9}{s:St}{y:uM}(run:qi T Γ ops.toList ops.toList es s y) (hs: ∀p∈y.side,p) (hG:ZT i0 j0 ops s.nb es=true) (hE:i0<ops.size->i0<j0/\∃ex fx,es[i0]? =some ex/\ex.upd=[]/\es[j0]? =some fx/\∀sk oi,ops.toList[i0]? =some oi->qh T Γ ops.toList ops.toList es s y i0 oi ex sk->zO T Γ ops.toList oi ⟨sk.env,rJ (y4 fx) sk.H,sk.nb,sk.N,sk.np⟩=some ex)
  (hQ: ∀g a w env H,DU g w env a.tmps->(∀t,lk env t=lk y.s.env t)->sL g w H->(∀id,qT H id=qT y.s.H id)->a.tmps.size=s.N->zT B w a.defers->tE A L g0 w0 g w H->(∀id,s.nb+32*ops.size<=id->g.J id=none/\∀n,g.cur id n=none)->Q .normal a w):
  ∀(fuel:Nat) (listed:Array Bool) (g:Gh) (w:pY) (a:Act) (env:List (Nat×qK)) (H:sA),DX listed ops.size<=fuel->Ha B A L g0 w0 ops es s listed g w a env H->wpAnyIn (yX ro) 0 P .any ops Q fuel listed a w:=by
 simp only[ZT,aNf] at hG;obtain⟨ki,hR⟩:=hG;have U:ops.toList.length=ops.size:=aN7;have done: ∀(listed:Array Bool) (g:Gh) (w:pY) (a:Act) (env:List (Nat×qK)) (H:sA),Ha B A L g0 w0 ops es s listed g w a env H->(∀j,j<ops.size->listed.getD j false=true)->Q .normal a w:=by
  intro listed g w a env H m O;refine hQ g a w env H m.eok (λt=>?_) m.heap (λid=>?_) m.tmps m.def_ m.good m.top
  .rw[m.look t,run.env t,U];exact M8 (λj F _=>O j F)
  rw[m.get id,run.heap id,U];exact M8 (λj F _=>O j F)
 have stuck: ∀(listed:Array Bool),listed.size=ops.size->Region.ready .any ops listed=[]->∀j,j<ops.size->listed.getD j false=true:=by
  intro listed ko hr j F;cases hp:listed.getD j false with
  |true=>rfl
  |false=>
   obtain⟨k,z,M,I⟩:=Gx (p:=λj=>listed.getD j false) ⟨j,F,hp⟩;have:k∈Region.ready .any ops listed:=by
    rw[mem_ready];refine⟨?_,ops[k],by simp [z],λe he hb=>?_⟩
    .have M:listed.getD k false=false:=M;rw[aNw] at M|-;rw[aON pM] at M|-;exact M
    have:=Gp ki k ops[k] (by simp [z]) e he hb;exact I e.on pM
   rw[hr] at this;cases this
 intro fuel
 induction fuel with
 |zero=>
  intro listed g w a env H hu m;have O:=Gv (l:=listed) (n:=ops.size) pM;refine⟨?_,done listed g w a env H m O⟩;cases hr:Region.ready .any ops listed with
  |nil=>rfl
  |cons i r=>
   have:i∈Region.ready .any ops listed:=by rw[hr];simp
   obtain⟨h0,o,ho,_⟩:=mem_ready.1 this;have hi:i<ops.size:=(aNr.1 ho).1;have:=O i hi;rw[aNw] at this h0;rw[aON (by rw[m.size];exact hi)] at this h0;simp at this h0;rw[this] at h0;cases h0
 |succ fuel ih=>
  intro listed g w a env H hu m;refine⟨λhr=>done listed g w a env H m (stuck listed m.size hr),λi hi=>?_⟩;obtain⟨h0,o,ho,O⟩:=mem_ready.1 hi;have V:i<ops.size:=(aNr.1 ho).1;have X:i<listed.size:=by rw[m.size];exact V
  have hq:listed.getD i false=false:=by
   rw[aNw] at h0|-;rw[aON X] at h0|-;exact h0
  have hc:ops.toList[i]? =some o:=by simpa using ho
  obtain⟨e,he⟩: ∃e,es[i]? =some e:=⟨es[i]'(by rw[run.len,U];exact V),by simp⟩;obtain⟨sk,st⟩:=run.step i o e hc he;have hF:qk ops.toList (λj=>(listed.setIfInBounds i true).getD j false):=by
   intro j o' hI F ed hS hb;simp only[H9 X] at F|-;by_cases hh:j=i
   .subst hh;rw[hc] at hI;obtain rfl:=aNa hI;have:=O ed hS hb;split
    .rfl
    exact this
   rw[aM9 hh] at F;have:=m.closed j o' hI F ed hS hb;split
   .rfl
   exact this
  have hU: ∀j,((Region.before ops).toList.getD i 0).testBit j=true->j≠i->listed.getD j false=true:=by
   intro j F hY;have:=Gt hF F (by simp only[H9 X];simp);simp only[H9 X,aM9 hY] at this;exact this
  have hV: ∀j,((Region.before ops).toList.getD j 0).testBit i=true->listed.getD j false=true->False:=by
   intro j F Y;have:=Gt m.closed F Y;rw[hq] at this;cases this
  have pairLt: ∀j p f,j<i->ops.toList[j]? =some p->es[j]? =some f->listed.getD j false=true\/(p.apart ops o=true/\(H0 f e=true\/(j=i0/\i=j0))/\LS (s.nb+32*j) e.upd=true):=by
   intro j p f hh hp hf;rcases qj hR j i p f o e hh hp hf hc he with z|z
   .rw[aNF,aNF] at z;exact .inl (hU j z pM)
   rw[aNF,aNF] at z;exact .inr z
  have pairGt: ∀j p f,i<j->ops.toList[j]? =some p->es[j]? =some f->listed.getD j false=true->o.apart ops p=true/\(H0 e f=true\/(i=i0/\j=j0)):=by
   intro j p f hy hp hf Y;rcases qj hR i j o e p f hy hc he hp hf with z|z
   .rw[aNF,aNF] at z;exact(hV j z Y).elim
   rw[aNF,aNF] at z;exact⟨z.1,z.2.1⟩
  have same: ∀{α:Type}(wr:Nat->Option α) (b:α),(∀j p f,j<i->ops.toList[j]? =some p->es[j]? =some f->wr j≠none->p.apart ops o=true->(H0 f e=true\/(j=i0/\i=j0))->False)->
    (∀j p f,i<j->ops.toList[j]? =some p->es[j]? =some f->wr j≠none->listed.getD j false=true->o.apart ops p=true->(H0 e f=true\/(i=i0/\j=j0))->False)->(∀j,wr j≠none->∃f,es[j]? =some f)->
    uV (λj=>listed.getD j false) wr b ops.size=uV (λ_=>true) wr b i:=by
   intro α wr b hM kd R;rw[<-qe (n:=ops.size) pM];refine M8 (λj F D=>?_);obtain⟨f,hf⟩:=R j D;have G:ops.toList[j]? =some ops[j]:=by simp [F]
   rcases Nat.lt_trichotomy j i with z|z|z
   .rw[aN6 z];rcases pairLt j _ f z G hf with M|M
    .exact M
    exact(hM j _ f z G hf D M.1 M.2.1).elim
   .subst z;simp [hq]
   have: ¬j<i:=by omega
   rw[decide_eq_false this];cases Y:listed.getD j false with
   |false=>rfl
   |true=>
    obtain⟨M,I⟩:=pairGt j _ f z G hf Y;exact(kd j _ f z G hf D Y M I).elim
  have exS: ∀t j,B4 ops.toList es t j≠none->∃f,es[j]? =some f:=by
   intro t j h;unfold B4 at h;cases hf:es[j]? with
   |none=>rw[hf] at h;exact absurd (by split<;>first|rfl|(rename_i z;cases z)) h
   |some f=>exact⟨f,rfl⟩
  have exH: ∀t j,y7 es t j≠none->∃f,es[j]? =some f:=by
   intro t j h;unfold y7 at h;cases hf:es[j]? with
   |none=>rw[hf] at h;exact absurd rfl h
   |some f=>exact⟨f,rfl⟩
  have dS: ∀t j p f,ops.toList[j]? =some p->es[j]? =some f->B4 ops.toList es t j≠none->p.dst=some t:=by
   intro t j p f hp hf h;unfold B4 at h;rw[hp,hf] at h;simp only at h;split at h
   .assumption
   exact absurd rfl h
  have dH: ∀id j f,es[j]? =some f->y7 es id j≠none->id∈qV (y4 f):=by
   intro id j f hf h;unfold y7 at h;rw[hf] at h;simp only at h;split at h
   .assumption
   exact absurd rfl h
  have noW: ∀id j f,es[j]? =some f->y7 es id j≠none->j=i0->False:=λid j f hf D F=>by
   subst F;obtain⟨_,ex,fx,R,hA,_⟩:=hE (by have:=(aNl.1 hf).1;rw[run.len,U] at this;exact this);have:=(R6.1 (dH id j _ R D)).1;rw[hA] at this;cases this
  have hD: ∀id∈e.rds,¬(i=i0/\listed.getD j0 false=true)->qT H id=qT sk.H id:=λid E hX=>by
   rw[m.get id,st.heap id];refine same _ _ (λj p f _ hp hf D _ Z=>?_) (λj p f _ hp hf D Y _ Z=>?_) (exH id)
   .rcases Z with Z|Z
    .exact((R8 Z).1 id (dH id j f hf D)).1 E
    exact noW id j f hf D Z.1
   rcases Z with Z|Z
   .exact(R8 Z).2 id (dH id j f hf D) E
   exact hX ⟨Z.1,Z.2▸Y⟩
  have hC: ∀t∈o.looksAt ops,lk env t=lk sk.env t:=λt ht=>by
   rw[m.look t,st.env t];refine same _ _ (λj p f _ hp hf D Z _=>?_) (λj p f _ hp hf D _ Z _=>?_) (exS t)
   .exact(Oper.apart_spec Z).1 t (dS t j p f hp hf D) ht
   exact(Oper.apart_spec Z).2.2 t (dS t j p f hp hf D) ht
  have kp: ∀(s':St) (N':Nat),zO T Γ ops.toList o ⟨s'.env,s'.H,s'.nb,N',s'.np⟩=zO T Γ ops.toList o s':=λ_ _=>rfl;have hJ:zO T Γ ops.toList o ⟨env,H,s.nb+32*i,s.N,s.np⟩=some e:=by
   by_cases hX:i=i0/\listed.getD j0 false=true
   .obtain⟨z,h6⟩:=hX;subst z;obtain⟨kn,ex,fx,R,hA,hN,hW⟩:=hE V;rw[he] at R;cases R;refine qd (hW sk o hc st) (λt ht=>hC t ht) (λid E=>?_) st.nb.symm st.np.symm;show qT H id=qT (rJ (y4 fx) sk.H) id;have kb:j0<ops.size:=by
     have:=(aNl.1 hN).1;rw[run.len,U] at this;exact this
    rw[m.get id,br (p:=λj=>listed.getD j false&& !decide (j=j0)) (i:=j0) pO (λj=>by
     by_cases h:j=j0
     .subst h;rw[aM4 rfl];exact h6
     rw[aM9 h];simp [h]) kb (λj z M I=>?_)]
    .have hL:uV (λj=>listed.getD j false&& !decide (j=j0)) (y7 es id) (qT s.H id) ops.size=qT sk.H id:=by
      rw[st.heap id,<-qe (n:=ops.size) pM];refine M8 (λj F D=>?_);obtain⟨f,hf⟩:=exH id j D;have G:ops.toList[j]? =some ops[j]:=by simp [F]
      rcases Nat.lt_trichotomy j i with z|z|z
      .rw[aN6 z];rcases pairLt j _ f z G hf with M|M
       .rw[M,decide_eq_false pM];rfl
       rcases M.2.1 with M|M
       .exact(((R8 M).1 id (dH id j f hf D)).1 E).elim
       omega
      .exact(noW id j f hf D z).elim
      have h9: ¬j<i:=by omega
      rw[decide_eq_false h9];cases Y:listed.getD j false with
      |false=>rfl
      |true=>
       obtain⟨_,I⟩:=pairGt j _ f z G hf Y;rcases I with I|I
       .exact((R8 I).2 id (dH id j f hf D) E).elim
       rw[aN6 I.2];rfl
     rw[hL,R7];unfold y7;rw[hN];simp only;by_cases h7:id∈qV (y4 fx)
     .rw[aM4 h7,aM4 h7,a7T (R6.1 h7).2];rfl
     rw[aM9 h7,aM9 h7];rfl
    left;have Y:listed.getD j false=true:=by
     cases h:listed.getD j false with
     |true=>rfl
     |false=>rw[h] at I;cases I
    cases D:y7 es id j with
    |none=>rfl
    |some v=>
     obtain⟨f,hf⟩:=exH id j (by rw[D];simp);have G:ops.toList[j]? =some ops[j]:=by simp [M]
     obtain⟨_,h4⟩:=pairGt j _ f pM G hf Y;rcases h4 with h4|h4
     .exact((R8 h4).2 id (dH id j f hf (by rw[D];simp)) E).elim
     omega
   exact qd st.ev (λt ht=>hC t ht) (λid E=>hD id E hX) st.nb.symm st.np.symm
  have kk: ∀id,id∈qV e.upd->¬(i=i0/\listed.getD j0 false=true):=λid E hX=>by
   obtain⟨z,_⟩:=hX;subst z;obtain⟨_,ex,fx,R,hA,_⟩:=hE V;rw[he] at R;cases R;rw[hA] at E;cases E
  have hB:yU g (s.nb+32*i) e:=λid E h5=>m.free i V hq id h5 (VU st.ids E);have key:=pm hT hΓ (ops:=ops.toList) (o:=o) (a:=a) (s:=⟨env,H,s.nb+32*i,s.N,s.np⟩) (K:=wpAnyIn (yX ro) 0 P .any ops Q fuel (listed.setIfInBounds i true)) (Q:=Q) m.eok m.heap hJ (λp hp=>hs p (st.side p hp)) hB (λg' w' v k=>by
   refine ih (listed.setIfInBounds i true) g' w' (a.put o.dst v) (tH o.dst e.slot env) (rJ e.upd H) ?_ ⟨by rw[Array.size_setIfInBounds];exact m.size,hF,pr m.eok k.le k.slot m.tmps st.dst,λt=>?_,k.heap,λid=>?_,(pu _ _ _).trans m.tmps,by rw[pv];exact m.def_.eff m.heap k,m.good.eff k (m.len▸(R5 hJ).2),m.len,λj F hx id z M=>?_,λid E=>?_⟩
   .have:=Gw X hq V;omega
   .rw[Gm,br (p:=λj=>listed.getD j false) (i:=i) hq (λj=>by simp only[H9 X]) V (λj hy F Y=>?_),<-m.look t]
    .unfold B4;rw[hc,he];simp only;split<;>rfl
    have G:ops.toList[j]? =some ops[j]:=by simp [F]
    obtain⟨f,hf⟩: ∃f,es[j]? =some f:=⟨es[j]'(by rw[run.len,U];exact F),by simp⟩;obtain⟨I,_⟩:=pairGt j _ f hy G hf Y;by_cases D:B4 ops.toList es t j=none
    .exact .inl D
    right;have hd:=dS t j _ f G hf D;by_cases hn:B4 ops.toList es t i=none
    .exact hn
    have hK:=dS t i _ e hc he hn;exact absurd hd ((Oper.apart_spec I).2.1 t hK)
   .rw[R7,br (p:=λj=>listed.getD j false) (i:=i) hq (λj=>by simp only[H9 X]) V (λj hy F Y=>?_),<-m.get id]
    .unfold y7;rw[he];simp only;by_cases h7:id∈qV (y4 e)
     .rw[aM4 h7,aM4 (R6.1 h7).1];rfl
     rw[aM9 h7];by_cases h8:id∈qV e.upd
     .obtain⟨q1,q2⟩:=st.same id h8 h7;rw[aM4 h8,q1,<-hD id q2 (kk id h8)];rfl
     rw[aM9 h8];rfl
    have G:ops.toList[j]? =some ops[j]:=by simp [F]
    obtain⟨f,hf⟩: ∃f,es[j]? =some f:=⟨es[j]'(by rw[run.len,U];exact F),by simp⟩;obtain⟨_,I⟩:=pairGt j _ f hy G hf Y;by_cases D:y7 es id j=none
    .exact .inl D
    right;have hd:=dH id j f hf D;by_cases hn:y7 es id i=none
    .exact hn
    have hK:=dH id i e he hn;rcases I with I|I
    .exact absurd (R6.1 hd).1 ((R8 I).1 id hK).2
    exact(noW id i e he hn I.1).elim
   .rw[H9 X] at hx;have hh:j≠i:=λh=>by rw[aM4 h] at hx;cases hx
    rw[aM9 hh] at hx;have hz:id∉qV e.upd:=by
     intro hm;have hM:=VU st.ids hm;rcases Nat.lt_or_gt_of_ne hh with I|I
     .obtain⟨f,hf⟩: ∃f,es[j]? =some f:=⟨es[j]'(by rw[run.len,U];exact F),by simp⟩;rcases pairLt j ops[j] f I (by simp [F]) hf with h4|h4
      .rw[hx] at h4;cases h4
      have:=Gq h4.2.2 id hm;omega
     omega
    have hg:=k.gho id hz;have hb:=m.free j F hx id z M;exact⟨hg.1.trans hb.1,λn=>by rw[hg.2];exact hb.2 n⟩
   have hz:id∉qV e.upd:=λhm=>by have:=VU st.ids hm;omega
   have hg:=k.gho id hz;have hb:=m.top id E;exact⟨hg.1.trans hb.1,λn=>by rw[hg.2];exact hb.2 n⟩)
  unfold wpOpIn;rw[ho];simp only[aOk] at key|-;split at key
  .rename_i D;rw[aM4 D];exact bq (pw hJ) key
  rename_i D;rw[aM9 D];exact⟨λ_ _=>trivial,key⟩
theorem a7W {i0 j0:Nat}{ro:pW}(hm:P.follows .mixedOrders=true) {id:Nat}{ops:Array Oper}{s:St}{y:uM}{a:Act}{w:pY}{g:Gh}(h:tP T Γ ops.toList ops.toList (some ⟨s,[],[]⟩)=some y) (D:ZT i0 j0 ops s.nb y.es.reverse=true) (hE:i0<ops.size->i0<j0/\∃ex fx a1 o1,y.es.reverse[i0]? =some ex/\ex.upd=[]/\y.es.reverse[j0]? =some fx/\ops.toList[i0]? =some o1/\tP T Γ ops.toList (ops.toList.take i0) (some ⟨s,[],[]⟩)=some a1/\zO T Γ ops.toList o1 ⟨a1.s.env,rJ (y4 fx) a1.s.H,a1.s.nb,a1.s.N,a1.s.np⟩=some ex) (K: ∀p∈y.side,p) (hr:tZ B g w s a) (hg:tE A L g0 w0 g w s.H) (X:L.length=s.np)
  (hQ: ∀g' a' w',tZ B g' w' y.s a'->tE A L g0 w0 g' w' y.s.H->Q .normal a' w'):(Code.region id ops true).wpIn (yX ro) 0 P Q a w:=by
 obtain⟨es,M,run⟩:=bt h K;have G:y.es.reverse=es:=by rw[M];simp
 simp only at run;rw[G] at D hE;have E:=BU h;have z: ∀j,(Array.replicate ops.size false).getD j false=false:=by
  intro j;rw[aNw,Array.getElem?_replicate];split<;>rfl
 have none: ∀{α:Type}(wr:Nat->Option α) (b:α) n,uV (λj=>(Array.replicate ops.size false).getD j false) wr b n=b:=by
  intro α wr b n
  induction n with
  |zero=>rfl
  |succ n ih=>simp only[uV];rw[aM9 (by rw[z];simp)];exact ih
 have O:ops.toList.length=ops.size:=aN7;refine wpIn_region_any hm (a7V hT hΓ run K D (λhi=>let ⟨c0,ex,fx,a1,o1,c1,c2,c3,c4,c5,c6⟩:=hE hi;⟨c0,ex,fx,c1,c2,c3,a7U run K c4 c5 G h c6⟩) (λg' a' w' env H he Y Z F V hd R I=>?_) _ _ g _ a s.env s.H ?_ ⟨by simp,λj o ho U=>?_,λt=>DQ (Gy g w _) (hr.env t),λt=>?_,hr.heap.drawn _,λid=>?_,hr.size,hr.def_.same (λ_ h=>h),hg.drawn _,X,λj _ _ id M _=>hr.nb id pM,λid M=>hr.nb id pM⟩)
 .refine hQ g' a' w' ⟨λt=>by rw[<-Y t];exact he t,Z.ext (λi=>(F i).symm),by rw[E.2.1];exact V,λi hi=>I i ?_,hd,?_⟩ (R.ext (λi=>(F i).symm))
  .rw[run.nb,O] at hi;exact hi
  rw[E.2.2,run.nb];exact aNK hr.np (Nat.le_add_right _ _)
 .have: ∀n (l:Array Bool),DX l n<=n:=by
   intro n l
   induction n with
   |zero=>exact aNt _
   |succ n ih=>simp only[DX];split<;>omega
  exact this _ _
 .simp only[z] at U;cases U
 .rw[none]
 exact(none _ _ _).symm
end
theorem M9: ∀{l:List Prop},uU l->∀p∈l,p
 |[p],h,q,z=>by simp only[aNn] at z;subst z;exact h
 |p::q::r,h,x,j=>by
  rcases aNk.1 j with rfl|j
  .exact h.1
  exact M9 h.2 x j
theorem Hb {p:Nat->Prop}(h: ∃n,p n): ∃n,p n/\∀m,p m->n<=m:=by
 obtain⟨n,D⟩:=h
 induction n using Nat.strongRecOn with
 |_ n ih=>
  by_cases z: ∃m,m<n/\p m
  .obtain⟨m,hm,hp⟩:=z;exact ih m hm hp
  exact⟨n,D,λm hm=>Nat.le_of_not_lt λj=>z ⟨m,j,hm⟩⟩
noncomputable def R9 (p:Nat->Prop):Nat:=open Classical in if h: ∃n,p n then(Hb h).choose else 0
theorem RB {p:Nat->Prop}(h: ∃n,p n):p (R9 p)/\∀m,p m->R9 p<=m:=by
 unfold R9;rw[aOS h];exact(Hb h).choose_spec
def B5:Exit->Option Ex
 | .normal=>some .normal
 | .exit id=>some (.exit id)
 | .ret=>some .ret
 |_=>none
def qn (B:Nat) (A:Nat->Nat->Prop) (L:List qP) (g0:Gh) (w0:pY) (Q:Ex->St->Prop) (x:Exit) (a:Act) (w:pY):Prop:=
 ∃e g s,B5 x=some e/\Q e s/\tZ B g w s a/\tE A L g0 w0 g w s.H/\s.np=L.length
section
variable {B:Nat}{P:Program}{T:sH}{Γ:tS}(hT:vX P T) (hΓ:DT P Γ) (hm:P.follows .mixedOrders=true) {A:Nat->Nat->Prop}{L:List qP}{g0:Gh}{w0:pY}
include hT hΓ hm
theorem HA {ro:pW}: ∀(c:Code) (s:St) (Q:Ex->St->Prop) (g:Gh) (a:Act) (w:pY),wN T Γ c s Q->tZ B g w s a->tE A L g0 w0 g w s.H->s.np=L.length->c.wpIn (yX ro) 0 P (qn B A L g0 w0 Q) a w
 | .skip,s,Q,g,a,w,h,hr,D,z=>by
  unfold wN at h;exact wpIn_skip ⟨.normal,g,s,rfl,h,hr,D,z⟩
 | .label l,s,Q,g,a,w,h,hr,D,z=>by
  unfold wN at h;exact wpIn_label ⟨.normal,g,s,rfl,h,hr,D,z⟩
 | .exit id,s,Q,g,a,w,h,hr,D,z=>by
  unfold wN at h;exact wpIn_exit ⟨.exit id,g,s,rfl,h,hr,D,z⟩
 | .ret,s,Q,g,a,w,h,hr,D,z=>by
  unfold wN at h;exact wpIn_ret ⟨.ret,g,s,rfl,h,hr,D,z⟩
 | .region id ops draw,s,Q,g,a,w,h,hr,D,z=>by
  unfold wN at h;cases draw with
  |false=>
   simp only[V7] at h;cases O:tP T Γ ops.toList ops.toList (some ⟨s,[],[]⟩) with
   |none=>rw[O] at h;cases h
   |some y=>
    rw[O] at h;refine a7H hT hΓ O (M9 h.1) hr D z.symm (λg' a' w' Y Z=>⟨.normal,g',y.s,rfl,h.2,Y,Z,(BU O).2.2.trans z⟩)
  |true=>
   simp only[V7] at h;cases O:tP T Γ ops.toList ops.toList (some ⟨s,[],[]⟩) with
   |none=>rw[O] at h;cases h
   |some y=>
    rw[O] at h;simp only[Bw] at h;by_cases X:J6 ops s.nb y.es.reverse=true
    .rw[aM4 X] at h;refine a7W (i0:=ops.size) (j0:=0) hT hΓ hm O X (λh=>absurd h (aOB _)) (M9 h.1) hr D z.symm (λg' a' w' Y Z=>⟨.normal,g',y.s,rfl,h.2,Y,Z,(BU O).2.2.trans z⟩)
    .rw[aM9 X] at h;cases h
 | .seq x y,s,Q,g,a,w,h,hr,D,z=>by
  unfold wN at h;refine wpIn_seq (aOl (HA x s _ g a w h hr D z) λe a' w' hp=>?_);obtain⟨e',g',s',E,F,M,K,G⟩:=hp;cases e<;>simp only[B5,aM6] at E
  case normal=>subst E;exact HA y s' Q g' a' w' F M K G
  case exit id=>subst E;exact⟨.exit id,g',s',rfl,F,M,K,G⟩
  case ret=>subst E;exact⟨.ret,g',s',rfl,F,M,K,G⟩
  all_goals cases E
 | .cond c x y,s,Q,g,a,w,h,hr,D,z=>by
  unfold wN at h;have X:=yW hr.env c;generalize tC s.env c=sc at h X;unfold Cd at h;split at h
  .exact wpIn_cond_split (vO X.1) (λV=>HA x s Q g a w (h.1 V) hr D z) (λV=>HA y s Q g a w (h.2 V) hr D z)
  .obtain⟨b,hb,hp,hq⟩:=X.1;exact wpIn_cond_split hb (λV=>HA x s Q g a w (h.1 (hp V)) hr D z) (λV=>HA y s Q g a w (h.2 (hq V)) hr D z)
  .cases h
 | .block id c,s,Q,g,a,w,h,hr,D,z=>by
  unfold wN at h;refine wpIn_block (aOl (HA c s _ g a w h hr D z) λe a' w' hp=>?_);obtain⟨e',g',s',E,F,M,K,G⟩:=hp;cases e<;>simp only[B5,aM6] at E
  case normal=>subst E;exact⟨.normal,g',s',rfl,F,M,K,G⟩
  case exit j=>
   subst E;simp only[DO] at F;simp only[Exit.inBlock];split
   .rename_i hj;rw[aM4 hj] at F;exact⟨.normal,g',s',rfl,F,M,K,G⟩
   rename_i hj;rw[aM9 hj] at F;exact⟨.exit j,g',s',rfl,F,M,K,G⟩
  case ret=>subst E;exact⟨.ret,g',s',rfl,F,M,K,G⟩
  all_goals cases E
 | .loop c,s,Q,g,a,w,h,hr,D,z=>by
  unfold wN at h;obtain⟨k,I,μ,h0,U⟩:=h;obtain⟨g1,k1,k2,k3,_⟩:=M7 hr D z k
  let R:Act->pY->Nat->Prop:=λa w n=> ∃g s,I s/\μ s=n/\tZ B g w s a/\tE A L g0 w0 g w s.H/\s.np=L.length
  refine wpIn_loop (λa w=> ∃n,R a w n) (λa w=>R9 (R a w)) ⟨_,g1,s.keep k,h0,rfl,k1,k2,k3⟩ (λa w hI=>?_);obtain⟨⟨g2,s2,i1,i2,i3,i4,i5⟩,_⟩:=RB hI;refine aOl (HA c s2 _ g2 a w (U s2 i1) i3 i4 i5) λe a' w' hp=>?_;obtain⟨e',g',s',E,F,M,K,G⟩:=hp;cases e<;>simp only[B5,aM6] at E
  case normal=>
   subst E;obtain⟨k',j1,j2⟩:=F;obtain⟨g3,l1,l2,l3,_⟩:=M7 M K G k';have hR:R a' w' (μ (s'.keep k')):=⟨g3,s'.keep k',j1,rfl,l1,l2,l3⟩;refine⟨⟨_,hR⟩,Nat.lt_of_le_of_lt ((RB ⟨_,hR⟩).2 _ hR) (by rw[<-i2];exact j2)⟩
  case exit id=>subst E;exact⟨.exit id,g',s',rfl,F,M,K,G⟩
  case ret=>subst E;exact⟨.ret,g',s',rfl,F,M,K,G⟩
  all_goals cases E
 | .rangeFunc _ _ _ _,_,_,_,_,_,h,_,_,_=>by unfold wN at h;cases h
 | .scope _,_,_,_,_,_,h,_,_,_=>by unfold wN at h;cases h
 | .goto _,_,_,_,_,_,h,_,_,_=>by unfold wN at h;cases h
 | .refuse _,_,_,_,_,_,h,_,_,_=>by unfold wN at h;cases h
end
section
variable {f:St->Prop}{Q:Ex->St->Prop}{s:St}{id j:Nat}{I:St->Prop}{μ:St->Nat}{m:Nat}
theorem sS (h:f s):H1 f Q .normal s:=h
theorem BV (h:Q (.exit j) s):H1 f Q (.exit j) s:=h
theorem VV (h:Q .ret s):H1 f Q .ret s:=h
theorem vG (h:Q .normal s):DO id Q .normal s:=h
theorem B6 (h:Q .normal s):DO id Q (.exit id) s:=by show (if id=id then Q .normal s else Q (.exit id) s);rw[aM4 rfl];exact h
theorem a7X (z:j≠id) (h:Q (.exit j) s):DO id Q (.exit j) s:=by show (if j=id then Q .normal s else Q (.exit j) s);rw[aM9 z];exact h
end
@[go_sem] def BW:Nat->List qK->List (Nat×qK)
 |_,[]=>[]
 |c,s::r=>(c,s)::BW (c+1) r
@[go_sem] def vK:Nat->List qP->pS
 |_,[]=>[]
 |c,_::L=>(c,c)::vK (c+1) L
@[go_sem] def RD (m:pS):List qK->Prop
 |[]=>True
 |s::r=>A8 m s=s/\RD m r
@[go_sem] def RE (m:pS):List qP->Prop
 |[]=>True
 | .dead::_=>False
 |b::r=>J7 m (some b)=b/\RE m r
def BX:List qP->Prop
 |[]=>True
 | .row _ _ l n::r=>n=List.length l/\BX r
 |_::r=>BX r
theorem Hc {g:Gh}{w:pY}: ∀{L:List qP},(∀(i:Nat) b,L[i]? =some b->∃j,A9 g w j b)->BX L
 |[],_=>trivial
 |b::L,h=>by
  have z:=Hc (L:=L) λi b' hb=>h (i+1) b' aPe;obtain⟨j,h0⟩:=h 0 b rfl;cases b with
  |row e t l n=>exact⟨h0.1.symm,z⟩
  |_=>exact z
def qo:pU->pZ
 |[v]=>v
 |l=> .tuple l.toArray
@[go_sem] def Hd (env:List (Nat×qK)):pX->List qK
 |[]=>[]
 |t::r=>lk env t::Hd env r
attribute [go_sem] sZ
@[go_sem] def Fin (ts:pX) (r:r8):Ex->St->Prop
 | .exit _,_=>False
 |_,s=> ∃k:tX,(s.keep k).H=sZ 0 r.H/\Hd (s.keep k).env ts=r.ret
theorem He: ∀(l:List qK) (c t:Nat),lk (BW c l) t=if c<=t then(l[t-c]?).getD (.any,none) else(.any,none)
 |[],c,t=>by simp [BW,lk]
 |s::l,c,t=>by
  simp only[BW,lk];by_cases h:c=t
  .subst h;simp
  rw[aM9 h,He l (c+1) t];by_cases j:c<=t
  .rw[aM4 j,aM4 pM];obtain⟨d,z⟩: ∃d,t-c=d+1:=⟨t-c-1,pM⟩;rw[z,aNP,show t- (c+1)=d by omega]
  rw[aM9 j,aM9 pM]
theorem RF: ∀{L:List qP}{c i j:Nat},(i,j)∈vK c L↔i=j/\c<=i/\i<c+L.length
 |[],c,i,j=>by simp only[vK,aOq,aM8,false_iff];omega
 |b::L,c,i,j=>by
  simp only[vK,aNk,aNA,RF,aM5];omega
theorem bw: ∀{L:List qP}{c:Nat},vI 0 (vK c L)=true
 |[],_=>rfl
 |b::L,c=>by
  simp only[vK,vI,aNf];refine⟨⟨by simp,?_⟩,bw⟩;have: ∀{m:pS},(∀i j,(i,j)∈m->i≠c/\j≠c)->QN c c m=false:=by
   intro m
   induction m with
   |nil=>intro _;rfl
   |cons q m ih=>
    intro h;obtain⟨i,j⟩:=q;have:=h i j pO;simp only[QN,ih (λi j hm=>h i j (aNp _ hm)),decide_eq_false this.1,decide_eq_false this.2];rfl
  rw[this]
  .rfl
  intro i j hm;obtain⟨rfl,z,_⟩:=RF.1 hm;omega
theorem Hf {m:pS}: ∀{l:List qK},RD m l->∀s∈l,A8 m s=s
 |x::l,h,s,j=>by
  rcases aNk.1 j with rfl|j
  .exact h.1
  exact Hf h.2 s j
theorem MA {m:pS}: ∀{l:List qP},RE m l->∀b∈l,J7 m (some b)=b/\b≠.dead
 |x::l,h,b,hb=>by
  cases x with
  |dead=>exact h.elim
  |cells t y ts=>
   rcases aNk.1 hb with rfl|hb
   .exact⟨h.1,λh=>by cases h⟩
   .exact MA h.2 b hb
  |row e t l n=>
   rcases aNk.1 hb with rfl|hb
   .exact⟨h.1,λh=>by cases h⟩
   .exact MA h.2 b hb
  |map k v l=>
   rcases aNk.1 hb with rfl|hb
   .exact⟨h.1,λh=>by cases h⟩
   .exact MA h.2 b hb
  |iter s n=>
   rcases aNk.1 hb with rfl|hb
   .exact⟨h.1,λh=>by cases h⟩
   .exact MA h.2 b hb
  |grow e c n=>
   rcases aNk.1 hb with rfl|hb
   .exact⟨h.1,λh=>by cases h⟩
   exact MA h.2 b hb
theorem qp {g:Gh}{w:pY}: ∀{ss:List qK}{vs:pU},wR g w ss vs->vs.length=ss.length/\∀(i:Nat) s,ss[i]? =some s->∃v,vs[i]? =some v/\rY g w s v
 |[],vs,h=>by rw[show vs=[] from h];exact⟨rfl,λi s h=>by simp at h⟩
 |s::ss,vs,⟨v,vs',e,E,D⟩=>by
  subst e;obtain⟨z,j⟩:=qp D;refine⟨by simp [z],λi s' hi=>?_⟩;cases i with
  |zero=>simp only[aNC,aM6] at hi;subst hi;exact⟨v,rfl,E⟩
  |succ i=>simp only[aNP] at hi|-;exact j i s' hi
theorem qq: ∀(L:List qP),w4 L=L.length
 |[]=>rfl
 |_::L=>by simp only[w4,aM5,qq L]
theorem a7Y {g:Gh}{w:pY}{args:List qK}{vals:pU}{L:List qP}{N:Nat}(hH:sL g w (sZ 0 L)) (Z:wR g w args vals) (Y:RD (vK 0 L) args) (hb:RE (vK 0 L) L) (hN:args.length<=N):
  tZ w.heap.size (uI g 0 (vK 0 L)) w ⟨BW 0 args,sZ 0 L,w4 L,N,w4 L⟩ {tmps:=vals.toArray++Array.replicate (N-vals.toArray.size) undef,defers:=[]}/\
  (∀i blk,L[i]? =some blk->(uI g 0 (vK 0 L)).J i=g.J i/\A9 (uI g 0 (vK 0 L)) w i blk/\∀b o,sB (uI g 0 (vK 0 L)) i blk b o->sB g i blk b o):=by
 have hk:vI 0 (vK 0 L)=true:=bw;have E: ∀i blk,L[i]? =some blk->(i,i)∈vK 0 L:=λi blk h=>RF.2 ⟨rfl,pM,by have:=(aNl.1 h).1;omega⟩;have z: ∀i blk,L[i]? =some blk->A9 (uI g 0 (vK 0 L)) w i blk/\∀b o,sB (uI g 0 (vK 0 L)) i blk b o->sB g i blk b o:=by
  intro i blk h;have hr:=(MA hb blk (List.mem_of_getElem? h)).1;have:=JD (g:=g) (w:=w) hk (E i blk h) (b:=some blk) (λc K=>by cases K;exact hH.blk i blk (by rw[zC];exact h));rw[hr] at this;exact⟨this.1,λb o F=>by obtain⟨c,K,U⟩:=this.2 b o F;cases K;exact U⟩
 obtain⟨hl,hv⟩:=qp Z;refine⟨⟨λt=>?_,⟨λi b h=>?_,λi j bi bj b o R M I o1 o2=>?_,hH.sl,hH.tab.1,λi blk b o X F=>hH.tab.2 i blk b o X ((z i blk (by rw[<-zC];exact X)).2 b o F)⟩,?_,λi hi=>?_,a7B _ _,aNt _⟩,λi blk h=>⟨(B3 hk (E i blk h)).1,z i blk h⟩⟩
 .rw[He,aM4 (aOz _),Nat.sub_zero];cases V:args[t]? with
  |none=>exact⟨trivial,trivial⟩
  |some s=>
   obtain⟨v,G,O⟩:=hv t s V;have Q:t<vals.length:=(aNl.1 G).1;have:(vals.toArray++Array.replicate (N-vals.toArray.size) undef).getD t undef=v:=by
    rw[aNw,Array.getElem?_append_left (by simpa using Q)];simp [G]
   simp only[aOW];rw[this];have:=bk hk O;rw[Hf Y s (List.mem_of_getElem? V)] at this;exact this
 .rw[zC] at h;exact(z i b h).1
 .rw[zC] at M I;exact hH.dis i j bi bj b o R (by rw[zC];exact M) (by rw[zC];exact I) ((z i bi M).2 b o o1) ((z j bj I).2 b o o2)
 .simp only[aOU,Array.size_replicate,aN3];omega
 have D:zU (vK 0 L) i=none:=by
  cases F:zU (vK 0 L) i with
  |none=>rfl
  |some o=>
   obtain⟨rfl,_,I⟩:=RF.1 (pq F);have hi:w4 L<=i:=hi;rw[qq] at hi;omega
 refine⟨?_,λn=>?_⟩
 .show (if i<0 then g.J i else(zU (vK 0 L) i).bind g.J)=none;rw[aM9 pM,D];rfl
 show (if i<0 then g.cur i n else(zU (vK 0 L) i).bind λo=>g.cur o n)=none;rw[aM9 pM,D];rfl
structure wB (B:Nat) (w w':pY):Prop where
 os:w'.os=w.os
 tape:w'.tape=w.tape
 output:w'.output=w.output
 size:w.heap.size<=w'.heap.size
 blk: ∀b,b<w.heap.size->w'.heap[b]? =w.heap[b]? \/(B<=b/\NG<=b/\∃o o',w.heap[b]? =some o/\w'.heap[b]? =some o'/\JC o=true/\JC o'=true)
theorem Hg {w:pY}{b:Nat}{ob:Obj}(j:w.heap[b]? =some ob) (hm:JC ob=true) (o:Nat):w.frozen? ⟨b,o,none⟩=false:=by
 unfold World.frozen?;simp only[j];cases ob<;>first|rfl|cases hm
theorem a7Z {w:pY}{b:Nat}{ob:Obj}(j:w.heap[b]? =some ob) (hm:JC ob=true):w.shape? b=none:=by
 unfold World.shape?;simp only[j];cases ob<;>first|rfl|cases hm
section
variable {B:Nat}{w w' w'':pY}
theorem wB.refl (B:Nat) (w:pY):wB B w w:=⟨rfl,rfl,rfl,aNt _,λ_ _=> .inl rfl⟩
theorem wB.trans (h:wB B w w') (k:wB B w' w''):wB B w w'':=by
 refine⟨k.os.trans h.os,k.tape.trans h.tape,k.output.trans h.output,aNK h.size k.size,λb hb=>?_⟩;rcases k.blk b (aNI hb h.size) with k1|⟨k0,k1,o,o',k2,k3,k4,k5⟩
 .rcases h.blk b hb with j|⟨h0,j,o,o',D,F,z,E⟩
  .exact .inl (k1.trans j)
  exact .inr ⟨h0,j,o,o',D,k1.trans F,z,E⟩
 rcases h.blk b hb with j|⟨h0,j,p,p',D,F,z,E⟩
 .exact .inr ⟨k0,k1,o,o',j▸k2,k3,k4,k5⟩
 exact .inr ⟨h0,j,p,o',D,k3,z,k5⟩
theorem wB.cell (t:wB B w w') {b:Nat}(hb:b<w.heap.size) (o:Nat):w'.cell? ⟨b,o,none⟩=w.cell? ⟨b,o,none⟩/\w'.frozen? ⟨b,o,none⟩=w.frozen? ⟨b,o,none⟩:=by
 rcases t.blk b hb with h|⟨_,_,o1,o2,z,j,m1,m2⟩
 .exact⟨aNx h,by unfold World.frozen?;simp only[h]⟩
 exact⟨by rw[pj z m1,pj j m2],by rw[Hg z m1,Hg j m2]⟩
theorem wB.shape (t:wB B w w') {b:Nat}{s:TypeId×Nat}(h:w.shape? b=some s):w'.shape? b=some s:=by
 have hb:b<w.heap.size:=by
  unfold World.shape? at h;cases j:w.heap[b]? with
  |none=>rw[j] at h;cases h
  |some _=>exact(aNr.1 j).1
 rcases t.blk b hb with k|⟨_,_,o1,o2,z,D,m1,m2⟩
 .unfold World.shape? at h|-;rw[k];exact h
 rw[a7Z z m1] at h;cases h
theorem wB.le (t:wB B w w') {g:Gh}(j: ∀b o,g.S b o->b<w.heap.size):Le g w g w':=⟨λ_ _ h=>h,λb o h=>(t.cell (j b o h) o).1,λ_ _ h=>h,λ_ _ _ h=>h⟩
theorem wB.heapOk (t:wB B w w') {g:Gh}{H:sA}(h:sL g w H):sL g w' H:=by
 have own: ∀{i blk b o},qT H i=some blk->sB g i blk b o->w'.heap[b]? =w.heap[b]? :=λz j=>by
  rcases t.blk _ (VE (h.blk _ _ z) j) with k|⟨_,_,o1,o2,D,_,m1,_⟩
  .exact k
  exact(bf (h.blk _ _ z) j D m1).elim
 refine⟨λi blk hb=>QR (h.blk i blk hb) (t.le h.sl) rfl rfl (λb o j=>t.cell (VE (h.blk i blk hb) j) o) (λb j=>own hb (j 0)) (λ_ _ _ x=>x) (λb o s _ x=>t.shape x),h.dis,λb o x=>aNI (h.sl b o x) t.size,UP h.tab.1 t.size (λb hb=>?_),h.tab.2⟩;rcases t.blk b (aNI hb h.tab.1.1) with k|⟨_,k,_⟩
 .exact k
 omega
theorem tZ.turn {g:Gh}{s:St}{a:Act}{ds:List Deferred}(h:tZ B g w s a) (t:wB B w w') (j:zT B w' ds):tZ B g w' s {a with defers:=ds}:=
 ⟨λx=>DQ (t.le h.heap.sl) (h.env x),t.heapOk h.heap,h.size,h.nb,j,h.np⟩
theorem tE.turn {A:Nat->Nat->Prop}{L:List qP}{g0 g:Gh}{w0:pY}{H:sA}(h:tE A L g0 w0 g w H) (z: ∀b o,g.S b o->b<w.heap.size) (t:wB w0.heap.size w w'):tE A L g0 w0 g w' H:=by
 refine⟨λb o x=>⟨(h.shut b o x).1,(t.cell (z b o (h.shut b o x).1) o).1.trans (h.shut b o x).2⟩,⟨t.os.trans h.fr.os,t.tape.trans h.fr.tape,t.output.trans h.fr.output,aNK h.fr.size t.size,λb hb j=>?_,λb o hb j=>?_,h.fr.new,λb s x=>?_⟩,h.perm,h.J,h.live,h.ty,h.cur⟩
 .rcases t.blk b (aNI hb h.fr.size) with k|⟨k,_⟩
  .exact k.trans (h.fr.blk b hb j)
  omega
 .have:=t.cell (aNI hb h.fr.size) o;have k:=h.fr.cell b o hb j;exact⟨this.1.trans k.1,this.2.trans k.2⟩
 rcases h.fr.shape b s x with k|k
 .exact .inl (t.shape k)
 exact .inr k
end
theorem Hh {P:Program}{fn:Func}{R:Ending->pY->Prop}{A:Nat->Nat->Prop}{L:List qP}{g0 g:Gh}{w0:pY}{s:St}{tmps:Array pZ}: ∀(ds:List Deferred) (w:pY),tZ w0.heap.size g w s {tmps:=tmps,defers:=ds}->tE A L g0 w0 g w s.H->
  (∀w',tZ w0.heap.size g w' s {tmps:=tmps,defers:=[]}->tE A L g0 w0 g w' s.H->∃v,(results fn tmps).run P w'= .ok v w'/\R (.returned v) w')->LeavesInM Fence.wide 0 P fn tmps R ds .returning w
 |[],w,hr,F,h=>h w hr F
 |d::ds,w,hr,F,h=>by
  obtain⟨z,j⟩:=hr.def_;obtain⟨D,rfl,O,M,G⟩:=j d aNq;have I:=(aNr.1 G).1;have t:wB w0.heap.size w (w.putObj D (.deferred none)):=by
   refine⟨rfl,rfl,rfl,by simp [World.putObj],λb hb=>?_⟩;by_cases e:b=D
   .subst e;exact .inr ⟨O,M,_,_,G,World.putObj_heap_same I,rfl,rfl⟩
   exact .inl (World.putObj_heap_other e)
  have K:zT w0.heap.size (w.putObj D (.deferred none)) ds:=by
   refine⟨(List.nodup_cons.1 z).2,λd' E=>?_⟩;obtain⟨D',rfl,k1,k2,k3⟩:=j d' (aNp _ E);refine⟨D',rfl,k1,k2,?_⟩;rw[World.putObj_heap_other (λe:D'=D=>(List.nodup_cons.1 z).1 (by subst e;exact E))];exact k3
  exact⟨by simp,.inl ⟨D,_,rfl,run_takeDeferred G,Hh ds _ (hr.turn t K) (F.turn hr.heap.sl t) h⟩⟩
def Ev (R:Bool) (P:Program) (c:Code) (s:St) (Q:Ex->St->Prop):Prop:=
 ∀(ro:pW),ro.isSome=R->
 ∀(A:Nat->Nat->Prop) (L:List qP) (g0:Gh) (w0:pY) (g:Gh) (a:Act) (w:pY) (B:Nat),B<=w0.heap.size->tZ B g w s a->tE A L g0 w0 g w s.H->s.np=L.length->c.wpIn (yX ro) 0 P (qn B A L g0 w0 Q) a w
variable {R:Bool}
theorem Hi {P:Program}{T:sH}{Γ:tS}(hT:vX P T) (hΓ:DT P Γ) (hm:P.follows .mixedOrders=true) {c:Code}{s:St}{Q:Ex->St->Prop}(h:wN T Γ c s Q):Ev R P c s Q:=
 λro D A L g0 w0 g a w B E hr z j=>HA hT hΓ hm c s Q g a w h hr z j
structure vP (P:Program) (T:sH) (Γ:tS):Prop where
 T:vX P T
 Γ:DT P Γ
 m:P.follows .mixedOrders=true
@[go_sem] def Hj (l:pX) (Γ:tS) (f:Nat):Option r7:=if BL f l=true then some ⟨[],λ_ _=>none,[],[],none⟩ else Γ f
theorem DY {P:Program}{T:sH}{Γ:tS}{l:pX}(h:vP P T Γ) (D:(l.all λk=>decide (1000000000<=k))=true):vP P T (Hj l Γ):=
 ⟨h.T,λf s z j=>by
  unfold Hj at j;split at j
  .rename_i hm;have:=aNV (aN4.1 D f (H7.1 hm));omega
  exact h.Γ f s z j,h.m⟩
theorem MB {P:Program}{c:Code}{s:St}{Q Q':Ex->St->Prop}(h:Ev R P c s Q') (z: ∀e s,Q' e s->Q e s):Ev R P c s Q:=by
 intro ro j A L g0 w0 g a w B F hr E D;refine aOl (h ro j A L g0 w0 g a w B F hr E D) λx a' w' hp=>?_;obtain⟨e,g',s',O,M,K,I,G⟩:=hp;exact⟨e,g',s',O,z e s' M,K,I,G⟩
section
variable {P:Program}{s:St}{Q:Ex->St->Prop}
theorem uW (h:Q .normal s):Ev R P .skip s Q:=λ_ _ _ _ _ _ g _ _ _ _ hr z j=>wpIn_skip ⟨.normal,g,s,rfl,h,hr,z,j⟩
theorem a71 {l:Nat}(h:Q .normal s):Ev R P (.label l) s Q:=λ_ _ _ _ _ _ g _ _ _ _ hr z j=>wpIn_label ⟨.normal,g,s,rfl,h,hr,z,j⟩
theorem B7 {id:Nat}(h:Q (.exit id) s):Ev R P (.exit id) s Q:=λ_ _ _ _ _ _ g _ _ _ _ hr z j=>wpIn_exit ⟨.exit id,g,s,rfl,h,hr,z,j⟩
theorem B8 (h:Q .ret s):Ev R P .ret s Q:=λ_ _ _ _ _ _ g _ _ _ _ hr z j=>wpIn_ret ⟨.ret,g,s,rfl,h,hr,z,j⟩
theorem tF {x y:Code}(h:Ev R P x s (H1 (λs'=>Ev R P y s' Q) Q)):Ev R P (.seq x y) s Q:=by
 intro ro z A L g0 w0 g a w B I hr M K;refine wpIn_seq (aOl (h ro z A L g0 w0 g a w B I hr M K) λe a' w' hp=>?_);obtain⟨e',g',s',j,G,F,E,D⟩:=hp;cases e<;>simp only[B5,aM6] at j
 case normal=>subst j;exact G ro z A L g0 w0 g' a' w' B I F E D
 case exit id=>subst j;exact⟨.exit id,g',s',rfl,G,F,E,D⟩
 case ret=>subst j;exact⟨.ret,g',s',rfl,G,F,E,D⟩
 all_goals cases j
theorem Hk {c:Operand}{x y:Code}{b:Bool}{k:pW}(h:tC s.env c=(.val .bool b,k)) (G:b=true->Ev R P x s Q) (hf:b=false->Ev R P y s Q):Ev R P (.cond c x y) s Q:=by
 intro ro j A L g0 w0 g a w B F hr D z;have E:=yW hr.env c;rw[h] at E;exact wpIn_cond_split (vO E.1) (λe=>G e ro j A L g0 w0 g a w B F hr D z) (λe=>hf e ro j A L g0 w0 g a w B F hr D z)
theorem a73 {c:Operand}{x y:Code}{p q:Prop}{k:pW}(h:tC s.env c=(.flag p q,k)) (G:p->Ev R P x s Q) (hf:q->Ev R P y s Q):Ev R P (.cond c x y) s Q:=by
 intro ro j A L g0 w0 g a w B F hr D z;have E:=yW hr.env c;rw[h] at E;obtain⟨b,hb,hp,I⟩:=E.1;exact wpIn_cond_split hb (λe=>G (hp e) ro j A L g0 w0 g a w B F hr D z) (λe=>hf (I e) ro j A L g0 w0 g a w B F hr D z)
theorem a74 {c:Code}(h:Ev false P c s Q):Ev false P (.scope c) s Q:=by
 intro ro z A L g0 w0 g a w B G hr E D;have F:ro=none:=by cases ro<;>first|rfl|cases z
 subst F;refine(wpIn_wide (n:=0)).2 (wp_scope_straight ((wpIn_wide (n:=0)).1 (aOl (h none rfl A L g0 w0 g a w B G hr E D) λe a' w' hp=>?_)));obtain⟨e',g',s',j,O,M,K,I⟩:=hp;cases e<;>simp only[B5,aM6] at j
 all_goals first|(cases j;done) |exact⟨e',g',s',by simp only[B5];rw[j],O,M,K,I⟩
theorem vL {id:Nat}{c:Code}(h:Ev R P c s (DO id Q)):Ev R P (.block id c) s Q:=by
 intro ro K A L g0 w0 g a w B U hr O M;refine wpIn_block (aOl (h ro K A L g0 w0 g a w B U hr O M) λe a' w' hp=>?_);obtain⟨e',g',s',D,z,G,F,E⟩:=hp;cases e<;>simp only[B5,aM6] at D
 case normal=>subst D;exact⟨.normal,g',s',rfl,z,G,F,E⟩
 case exit j=>
  subst D;simp only[DO] at z;simp only[Exit.inBlock];split
  .rename_i I;rw[aM4 I] at z;exact⟨.normal,g',s',rfl,z,G,F,E⟩
  rename_i I;rw[aM9 I] at z;exact⟨.exit j,g',s',rfl,z,G,F,E⟩
 case ret=>subst D;exact⟨.ret,g',s',rfl,z,G,F,E⟩
 all_goals cases D
end
@[go_sem] def qr (k:Nat) (t:Ty) (l:List t.den):qK->qK
 |(.own j m,x)=>if j=k then(.val (.list t) l,some k) else(.own j m,x)
 |s=>s
@[go_sem] def MC (k:Nat) (t:Ty) (l:List t.den):List (Nat×qK)->List (Nat×qK)
 |[]=>[]
 |(i,s)::r=>(i,qr k t l s)::MC k t l r
@[go_sem] def Hl (k n:Nat):qK->Prop
 |(.own j m,_)=>j=k->m=n
 |_=>True
@[go_sem] def VW (k n:Nat):List (Nat×qK)->Prop
 |[]=>True
 |(_,s)::r=>Hl k n s/\VW k n r
theorem Hm {k:Nat}{t:Ty}{l:List t.den}: ∀{env:List (Nat×qK)}{i:Nat},lk (MC k t l env) i=qr k t l (lk env i)
 |[],i=>rfl
 |(j,s)::r,i=>by
  simp only[MC,lk];split
  .rfl
  exact Hm
theorem Hn {k n:Nat}: ∀{env:List (Nat×qK)}{i:Nat},VW k n env->Hl k n (lk env i)
 |[],i,_=>trivial
 |(j,s)::r,i,⟨D,z⟩=>by
  simp only[lk];split
  .exact D
  exact Hn z
theorem Ho {P:Program}{c:Code}{s:St}{Q:Ex->St->Prop}(k:Nat) {e:TypeId}{t:Ty}{l:List t.den}{n:Nat}(hk:qT s.H k=some (.row e t l n)) (hq:VW k n s.env)
  (h:Ev R P c ⟨MC k t l s.env,(k,.grow e t.cells (List.length l))::s.H,s.nb,s.N,s.np⟩ Q):Ev R P c s Q:=by
 intro ro hh A L g0 w0 g a w B hB hr F hn;obtain⟨M,v,xs,hv,G,hF,X,V⟩:=hr.heap.blk k _ hk
 let g':Gh:={g with S:=λb o=>g.S b o\/(v.ownBlock=some b/\o<n*t.cells)}
 have le:Le g w g' w:=⟨λ_ _ h=> .inl h,λ_ _ _=>rfl,λ_ _ h=>h,λ_ _ _ h=>h⟩;have K: ∀b,v.ownBlock=some b->∀o,sB g k (.row e t l n) b o:=λb hb o=>⟨v,hv,hb⟩;have Y: ∀u,g.cur k n=some u->((u= .slice none 0 0/\n=0)\/∃b cap,u= .slice (some ⟨b,0,none⟩) n cap/\n<=cap)->sR g' w (.list t) l u:=by
  intro u hu O;rw[hv] at hu;obtain rfl:=aNa hu;rcases O with⟨rfl,h0⟩ |⟨b,cap,rfl,hd⟩
  .have:l=[]:=aND (by rw[M,h0]);subst this;exact .inr ⟨rfl,none,0,rfl,aNt _,.inl rfl⟩
  refine .inr ⟨rfl,some ⟨b,0,none⟩,cap,by rw[M],by rw[M];exact hd,.inr ⟨b,0,rfl,QV (CV (λ_ _ h=>xE le h) hF) (λj u hu=>?_) (λj hj=>?_)⟩⟩
  .have:=G.cells (g:=b) rfl j u hu;rwa [aOg] at this
  right;exact⟨rfl,by rw[M] at hj;omega⟩
 have I: ∀i b,qT ((k,qP.grow e t.cells (List.length l))::s.H) i=some b->(i=k/\b= .grow e t.cells (List.length l))\/(i≠k/\qT s.H i=some b):=by
  intro i b hb;simp only[qT] at hb;split at hb
  .rename_i e1;exact .inl ⟨e1.symm,(aNa hb).symm⟩
  rename_i e1;exact .inr ⟨Ne.symm e1,hb⟩
 have D: ∀i b bb o,qT ((k,qP.grow e t.cells (List.length l))::s.H) i=some b->sB g' i b bb o->∃b0,qT s.H i=some b0/\sB g i b0 bb o:=by
  intro i b bb o hb U;rcases I i b hb with⟨rfl,rfl⟩ |⟨_,E⟩
  .obtain⟨u,hu,he⟩:=U;have ha:g.cur i (List.length l)=some u:=hu;rw[M] at ha;exact⟨_,hk,u,ha,he⟩
  exact⟨b,E,(zS (g':=g') (g:=g) rfl rfl).1 U⟩
 have hc:tZ B g' w ⟨MC k t l s.env,(k,.grow e t.cells (List.length l))::s.H,s.nb,s.N,s.np⟩ a:=by
  refine⟨λi=>?_,⟨λi b hb=>?_,λi j bi bj b o ht E h2 o1 o2=>?_,λb o z=>?_,hr.heap.tab.1,λi b bb oo hb U=>by
   obtain⟨c1,k1,k2⟩:=D i b bb oo hb U;exact hr.heap.tab.2 i c1 bb oo k1 k2⟩,hr.size,hr.nb,hr.def_,hr.np⟩
  .rw[Hm];have E:=hr.env i;have h2:=Hn (i:=i) hq;generalize lk s.env i=sl at E h2;obtain⟨d,x⟩:=sl;cases d with
   |own j m=>
    simp only[qr];split
    .rename_i hj;subst hj;have hm:m=n:=h2 rfl;subst hm;refine⟨Y _ E.1.1 E.1.2,?_⟩;show g'.cur j (List.length l)=_;rw[M];exact E.1.1
    .exact DQ le E
   |_=>exact DQ le E
  .rcases I i b hb with⟨rfl,rfl⟩ |⟨hs,E⟩
   .refine⟨v,xs,by rw[M];exact hv,by rw[M];exact G,λm hm=>X m (by rw[M] at hm;exact hm),λb hb o z=>?_⟩;rw[M];rcases z with z|z
    .exact absurd z (V b hb o)
    exact z.2
   exact QR (hr.heap.blk i b E) le rfl rfl (λ_ _ _=>⟨rfl,rfl⟩) (λ_ _=>rfl) (λbb o U z=>by
    rcases z with z|z
    .exact z
    exact absurd (K bb z.1 o) (λh5=>hr.heap.dis i k b _ bb o hs E hk U h5)) (λ_ _ _ _ h=>h)
  .obtain⟨c1,k1,k2⟩:=D i bi b o E o1;obtain⟨c2,k3,k4⟩:=D j bj b o h2 o2;exact hr.heap.dis i j c1 c2 b o ht k1 k3 k2 k4
  rcases z with z|z
  .exact hr.heap.sl b o z
  exact VD G z.1
 have Z:tE A L g0 w0 g' w ((k,.grow e t.cells (List.length l))::s.H):=by
  refine⟨λb o h0=>⟨.inl (F.shut b o h0).1,(F.shut b o h0).2⟩,⟨F.fr.os,F.fr.tape,F.fr.output,F.fr.size,F.fr.blk,F.fr.cell,λb o z=>?_,F.fr.shape⟩,λi b bb o hb U=>?_,F.J,F.live,λi u y us hi hb=>?_,F.cur⟩
  .rcases z with z|z
   .exact F.fr.new b o z
   exact .inr (F.perm k _ b o hk (K b z.1 o))
  .obtain⟨c1,k1,k2⟩:=D i b bb o hb U;exact F.perm i c1 bb o k1 k2
  rcases I i _ hb with⟨_,E⟩ |⟨_,E⟩
  .cases E
  exact F.ty i u y us hi E
 exact h ro hh A L g0 w0 g' a w B hB hc Z hn
def iter {σ ρ:Type}(f:σ->Option (σ⊕ρ)):Nat->σ->Option ρ
 |0,_=>none
 |n+1,x=>match f x with
  |none=>none
  |some (.inl y)=>iter f n y
  |some (.inr r)=>some r
theorem Hp {σ ρ:Type}{f:σ->Option (σ⊕ρ)}{r:ρ}: ∀{n:Nat}{x:σ},iter f n x=some r->iter f (n+1) x=some r
 |0,_,h=>by cases h
 |n+1,x,h=>by
  unfold iter at h|-;split
  .rename_i e;rw[e] at h;cases h
  .rename_i y e;rw[e] at h;exact Hp h
  rename_i r' e;rw[e] at h;exact h
theorem qt {σ ρ:Type}{f:σ->Option (σ⊕ρ)}{r:ρ}{n:Nat}{x:σ}(h:iter f n x=some r): ∀m,iter f (n+m) x=some r
 |0=>h
 |m+1=>Hp (qt h m)
theorem Hq {σ ρ:Type}{f:σ->Option (σ⊕ρ)}{r r':ρ}{n m:Nat}{x:σ}(h:iter f n x=some r) (D:iter f m x=some r'):r=r':=by
 have z:=qt h m;have j:=qt D n;rw[Nat.add_comm] at j;exact aNa (z.symm.trans j)
noncomputable def VX {σ ρ:Type}(f:σ->Option (σ⊕ρ)) (x:σ):Option ρ:=open Classical in if h: ∃n r,iter f n x=some r then some (Classical.choose (aOw h)) else none
def a77 {ρ:Type}:Option ρ->Option ρ->Option ρ
 |some r,_=>some r
 |none,r=>r
noncomputable def rC {σ ρ:Type}(f:σ->Option (σ⊕ρ)) (x:σ):Option ρ:=a77 (iter f 2000 x) (VX f x)
theorem a78 {σ ρ:Type}{f:σ->Option (σ⊕ρ)}{x:σ}{r:ρ}{n:Nat}(h:iter f n x=some r):VX f x=some r:=by
 have j: ∃n r,iter f n x=some r:=⟨n,r,h⟩;unfold VX;rw[aOS j,Hq h (aOw (aOw j))]
theorem qu {σ ρ:Type}{f:σ->Option (σ⊕ρ)}{x:σ}{r:ρ}{n:Nat}(h:iter f n x=some r):rC f x=some r:=by
 unfold rC;cases hi:iter f 2000 x with
 |some r'=>rw[Hq h hi];rfl
 |none=>exact a78 h
theorem bx {σ ρ:Type}{f:σ->Option (σ⊕ρ)}{x:σ}{r:ρ}(h:rC f x=some r): ∃n,iter f n x=some r:=by
 unfold rC at h;cases hi:iter f 2000 x with
 |some r'=>
  rw[hi] at h;cases h;exact⟨_,hi⟩
 |none=>
  rw[hi] at h;have h:VX f x=some r:=h;unfold VX at h;split at h
  .rename_i j;have:=aOw (aOw j);rw[aNa h] at this;exact⟨_,this⟩
  cases h
attribute [irreducible] rC
theorem AB {σ ρ:Type}{f:σ->Option (σ⊕ρ)}{x y:σ}(h:f x=some (.inl y)):rC f x=rC f y:=by
 cases z:rC f y with
 |some r=>
  obtain⟨n,j⟩:=bx z;exact qu (n:=n+1) (by unfold iter;rw[h];exact j)
 |none=>
  cases D:rC f x with
  |none=>rfl
  |some r=>
   obtain⟨n,j⟩:=bx D;cases n with
   |zero=>cases j
   |succ n=>
    unfold iter at j;rw[h] at j;rw[qu j] at z;cases z
theorem xP {σ ρ:Type}{f:σ->Option (σ⊕ρ)}{x:σ}{r:ρ}(h:f x=some (.inr r)):rC f x=some r:=qu (n:=1) (by unfold iter;rw[h])
def Nxt {σ ρ:Type}(f:σ->Option (σ⊕ρ)) (y:ρ) (n:Nat):σ⊕ρ->Prop
 | .inl x=>iter f n x=some y
 | .inr r=>r=y
def qL {σ ρ:Type}(enc:σ->St) (f:σ->Option (σ⊕ρ)) (y:ρ) (n:Nat) (Q:Ex->St->Prop):Ex->St->Prop
 | .normal,s=> ∃(k:tX) (x:σ),s.keep k=enc x/\iter f n x=some y
 | .exit j,s=>Q (.exit j) s
 | .ret,s=>Q .ret s
theorem a8a {P:Program}{c:Code}{s:St}{Q:Ex->St->Prop}(I:Nat->St->Prop) (h0: ∃(k:tX) (n:Nat),I n (s.keep k))
  (h: ∀n s,I n s->Ev R P c s (λe s'=>match e with| .normal=> ∃(k:tX) (m:Nat),m<n/\I m (s'.keep k) |e=>Q e s')):Ev R P (.loop c) s Q:=by
 intro ro K A L g0 w0 g a w B V hr O M;obtain⟨k,n0,h0⟩:=h0;obtain⟨g1,k1,k2,k3,_⟩:=M7 hr O M k
 let R:Act->pY->Nat->Prop:=λa w n=> ∃g s,I n s/\tZ B g w s a/\tE A L g0 w0 g w s.H/\s.np=L.length
 refine wpIn_loop (λa w=> ∃n,R a w n) (λa w=>R9 (R a w)) ⟨_,g1,s.keep k,h0,k1,k2,k3⟩ (λa w U=>?_);obtain⟨⟨g2,s2,i1,i3,i4,i5⟩,_⟩:=RB U;refine aOl (h _ s2 i1 ro K A L g0 w0 g2 a w B V i3 i4 i5) λe a' w' hp=>?_;obtain⟨e',g',s',j,G,F,E,D⟩:=hp;cases e<;>simp only[B5,aM6] at j
 case normal=>
  subst j;obtain⟨k',m,j1,j2⟩:=G;obtain⟨g3,l1,l2,l3,_⟩:=M7 F E D k';have z:R a' w' m:=⟨g3,s'.keep k',j2,l1,l2,l3⟩;exact⟨⟨_,z⟩,Nat.lt_of_le_of_lt ((RB ⟨_,z⟩).2 _ z) j1⟩
 case exit id=>subst j;exact⟨.exit id,g',s',rfl,G,F,E,D⟩
 case ret=>subst j;exact⟨.ret,g',s',rfl,G,F,E,D⟩
 all_goals cases j
theorem B9 {P:Program}{c:Code}{s:St}{Q:Ex->St->Prop}{σ ρ:Type}{f:σ->Option (σ⊕ρ)}{x0:σ}{y:ρ}(E:rC f x0=some y) (enc:σ->St) (k:tX) (h0:s.keep k=enc x0)
  (round: ∀x w n,f x=some w->Nxt f y n w->Ev R P c (enc x) (qL enc f y n Q)):Ev R P (.loop c) s Q:=by
 obtain⟨n,F⟩:=bx E;refine a8a (λn s=> ∃x,s=enc x/\iter f n x=some y) ⟨k,n,x0,h0,F⟩ λn s ⟨x,e,z⟩=>?_;subst e;cases n with
 |zero=>cases z
 |succ n=>
  unfold iter at z;refine MB (Q':=qL enc f y n Q) ?_ (λe s' D=>?_)
  .split at z
   .cases z
   .rename_i x' e;exact round x _ n e z
   rename_i r e;exact round x _ n e (aNa z)
  cases e with
  |normal=>obtain⟨k,x',I,G⟩:=D;exact⟨k,n,pM,x',I,G⟩
  |exit j=>exact D
  |ret=>exact D
def qX (j:Nat) (X:St->Prop) (Q:Ex->St->Prop):Ex->St->Prop
 | .normal,s=>Q .normal s
 | .exit i,s=>if i=j then∃k:tX,X (s.keep k) else Q (.exit i) s
 | .ret,s=>Q .ret s
theorem AC {P:Program}{c:Code}{s:St}{Q:Ex->St->Prop}(j:Nat) (X:St->Prop) (h:Ev R P c s (qX j X Q)) (J: ∀s',X s'->Q (.exit j) s'):Ev R P c s Q:=by
 intro ro K A L g0 w0 g a w B U hr O M;refine aOl (h ro K A L g0 w0 g a w B U hr O M) λx a' w' hp=>?_;obtain⟨e,g',s',I,z,G,F,E⟩:=hp;cases e with
 |normal=>exact⟨.normal,g',s',I,z,G,F,E⟩
 |ret=>exact⟨.ret,g',s',I,z,G,F,E⟩
 |exit i=>
  have z:(if i=j then∃k:tX,X (s'.keep k) else Q (.exit i) s'):=z;by_cases D:i=j
  .rw[aM4 D] at z;obtain⟨k,hk⟩:=z;obtain⟨g1,k1,k2,k3,_⟩:=M7 G F E k;exact⟨.exit i,g1,s'.keep k,I,by rw[D];exact J _ hk,k1,k2,k3⟩
  rw[aM9 D] at z;exact⟨.exit i,g',s',I,z,G,F,E⟩
section
variable {Q:Ex->St->Prop}{s:St}{j i:Nat}{X:St->Prop}{σ ρ:Type}{enc:σ->St}{f:σ->Option (σ⊕ρ)}{y:ρ}{n:Nat}
theorem AD (h: ∃k:tX,X (s.keep k)):qX j X Q (.exit j) s:=by show (if j=j then _ else _);rw[aM4 rfl];exact h
theorem Hr (z:i≠j) (h:Q (.exit i) s):qX j X Q (.exit i) s:=by show (if i=j then _ else _);rw[aM9 z];exact h
theorem wD (h: ∃(k:tX) (x:σ),s.keep k=enc x/\iter f n x=some y):qL enc f y n Q .normal s:=h
theorem BY (h:Q (.exit j) s):qL enc f y n Q (.exit j) s:=h
end
def qN (X:St->Prop) (Q:Ex->St->Prop):Ex->St->Prop
 | .normal,s=> ∃k:tX,X (s.keep k)
 | .exit j,s=>Q (.exit j) s
 | .ret,s=>Q .ret s
theorem RG {P:Program}{c:Code}{s:St}{Q:Ex->St->Prop}(X:St->Prop) (h:Ev R P c s (qN X Q)) (J: ∀s',X s'->Q .normal s'):Ev R P c s Q:=by
 intro ro I A L g0 w0 g a w B O hr M K;refine aOl (h ro I A L g0 w0 g a w B O hr M K) λx a' w' hp=>?_;obtain⟨e,g',s',G,F,E,D,z⟩:=hp;cases e with
 |exit j=>exact⟨.exit j,g',s',G,F,E,D,z⟩
 |ret=>exact⟨.ret,g',s',G,F,E,D,z⟩
 |normal=>
  obtain⟨k,hk⟩:=F;obtain⟨g1,k1,k2,k3,_⟩:=M7 E D z k;exact⟨.normal,g1,s'.keep k,G,J _ hk,k1,k2,k3⟩
section
variable {Q:Ex->St->Prop}{s:St}{j:Nat}{X:St->Prop}
theorem JF (h: ∃k:tX,X (s.keep k)):qN X Q .normal s:=h
theorem a8b (h:Q .ret s):qN X Q .ret s:=h
end
def val {ρ:Type}[Inhabited ρ] (x:Option ρ):ρ:=x.getD default
theorem uB {ρ:Type}[Inhabited ρ] (x:ρ):val (some x)=x:=rfl
theorem JG {ρ:Type}[Inhabited ρ] {x:Option ρ}{y:ρ}(h:x=some y):val x=y:=by rw[h];rfl
theorem xQ {ρ:Type}{x:Option ρ}{y:ρ}(h:x=some y):x.isSome=true:=by rw[h];rfl
theorem sJ {ρ:Type}{c:Prop}[Decidable c] {x:Option ρ}{r:ρ}(h:(if c then x else none)=some r):c/\x=some r:=by
 by_cases j:c
 .rw[aM4 j] at h;exact⟨j,h⟩
 rw[aM9 j] at h;cases h
theorem pH{ρ:Type}{c e:Prop}[Decidable c][Decidable e]{x:Option ρ}{r:ρ}(h:(if c then if e then x else none else none)=some r):c/\e/\x=some r:=have k:=sJ h;⟨k.1,sJ k.2⟩
theorem qI {σ ρ:Type}{x:Option σ}{k:σ->Option ρ}{r:ρ}(h:x.bind k=some r): ∃y,x=some y/\k y=some r:=by
 cases x with
 |none=>cases h
 |some y=>exact⟨y,rfl,h⟩
theorem Hs {ρ:Type}{b:Bool}{x y:ρ}{r:ρ}(h:(if b=true then x else y)=r) (hb:b=true):x=r:=by rw[aM4 hb] at h;exact h
theorem Ht {ρ:Type}{b:Bool}{x y:ρ}{r:ρ}(h:(if b=true then x else y)=r) (hb:b=false):y=r:=by rw[hb,aM9 pN] at h;exact h
def sK {σ ρ:Type}(x:Option (σ⊕ρ)) (k:σ->Option ρ):Option ρ:=x.bind λy=>match y with
 | .inl v=>k v
 | .inr r=>some r
theorem a8c {σ ρ:Type}{x:Option (σ⊕ρ)}{k:σ->Option ρ}{r:ρ}(h:sK x k=some r): ∃y,x=some y/\(match y with| .inl v=>k v| .inr r=>some r)=some r:=qI h
def rA {σ ρ:Type}(x:Option σ) (k:σ->Option ρ):Option ρ:=x.bind k
def VY {σ ρ:Type}(x:σ) (k:σ->ρ):ρ:=k x
theorem Hu {p q:Bool}(h:(p&&q)=true):p=true:=by cases p<;>first|rfl|cases h
theorem RH {x:Bool}(h:x=true):(x==true)=true:=by rw[h];rfl
theorem bz {G x:Bool}(j:G=true) (h:x=true):(G&&(x==true))=true:=by rw[j,h];rfl
theorem Hv {G x:Bool}(j:G=true) (h:x=false):(G&&(x==false))=true:=by rw[j,h];rfl
theorem BZ {x:Bool}(h:x=false):(x==false)=true:=by rw[h];rfl
section
variable {P:Program}{T:sH}{Γ:tS}(E:vP P T Γ) {s:St}{Q:Ex->St->Prop}
include E
theorem ca {id:Nat}{ops:Array Oper}{a:uM}(h:tP T Γ ops.toList ops.toList (some ⟨s,[],[]⟩)=some a) (hp:uU a.side) (j:Q .normal a.s):Ev R P (.region id ops false) s Q:=
 Hi E.T E.Γ E.m (a5M h hp j)
theorem qv {id:Nat}{ops:Array Oper}{a:uM}(h:tP T Γ ops.toList ops.toList (some ⟨s,[],[]⟩)=some a) (hf:J6 ops s.nb a.es.reverse=true) (hp:uU a.side) (j:Q .normal a.s):Ev R P (.region id ops true) s Q:=
 Hi E.T E.Γ E.m (a5N h hf hp j)
end
end Go.Proofs.YtedimeeleabhnaaGreatDoor.Vc
