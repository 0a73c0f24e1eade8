/- Packed by a program of mine (wip/tools/pack.py): the same texts with short names and few blanks. -/
import Derived.ChangeKeysEq
import Derived.KernelRfl
import Derived.Laws.BytesArg
import Derived.Laws.StructEq
import Derived.Lib.AppendStr
import Derived.OrdersIn
import Derived.RangeFuncLeaves
import Derived.RangeFuncNested
import Derived.Scope
import Derived.Shelf.Slices.Clone
import Derived.Shelf.Slices.In.SortNone
import Derived.Shelf.Small.Utf8
import Derived.Shelf.Sort.Plain
import Derived.Shelf.Strings.Builder1
import Derived.Shelf.Strings.Runes
import Derived.Shelf.Strings.Search1
import Derived.Shelf.Strings.Search3
import Derived.Shelf.Strings.SlTrimAscii
import Derived.Shelf.Strings.Trim
import Derived.Shelf.Unicode.DecodeAny
import Derived.Shelf.Unicode.ValidAny
import Derived.Test.YtbbpilohihldiaaGreatDoorProg
import Derived.WalkSpells
import Derived.Test.YtbbpilohihldiaaGreatDoorL00
set_option linter.unusedVariables false
set_option linter.unusedSimpArgs false
set_option linter.unusedSectionVars false
set_option maxRecDepth 100000
set_option maxHeartbeats 4000000
namespace Go.Proofs.YtbbpilohihldiaaGreatDoor.Vc
open Go.RowKit
theorem a8v {H:r5}{ws more:List qB}: ∀{wh:qB}{b:p9},SC H ws wh b->SC H (ws++more) wh b
 | .box _ _ _ _ _,.cells _ _ _,⟨h1,h2,h4⟩=>⟨h1,h2,fun q n h=>let ⟨k,k1,k2⟩:=h4 q n h;⟨k,by rw[aQE (aQA.1 k1).1];exact k1,k2⟩⟩
 | .box _ _ _ _ _,.grow _ _ _,h=>h.elim
 | .box _ _ _ _ _,.dead,h=>h.elim
 | .box _ _ _ _ _,.row _ _ _ _,h=>h.elim
 | .box _ _ _ _ _,.map _ _ _,h=>h.elim
 | .box _ _ _ _ _,.iter _ _,h=>h.elim
 | .tok _,.iter _ _,h=>h.elim
 | .tok _,.row _ _ _ _,h=>h
 | .tok _,.grow _ _ _,h=>h
 | .tok _,.map _ _ _,h=>h
 | .tok _,.cells _ _ _,h=>h.elim
 | .tok _,.dead,h=>h.elim
theorem KR (g:Gh) (w:World) (ws more:List qB):Le (tV g ws) w (tV g (ws++more)) w:=by
 refine⟨fun _ _ h=>h,fun _ _ _=>rfl,fun c p h=> ?_,fun c n v h=> ?_⟩
 ·have h':uN g ws[c]? =some p:=h;show uN g (ws++more)[c]? =some p;cases hc:ws[c]? with
  |none=>rw[hc] at h';cases h'
  |some wh=>rw[aQE (aQA.1 hc).1];exact h'
 ·have h':AQ g ws[c]? n=some v:=h;show AQ g (ws++more)[c]? n=some v;cases hc:ws[c]? with
  |none=>rw[hc] at h';cases h'
  |some wh=>rw[aQE (aQA.1 hc).1];exact h'
theorem KS {g g':Gh}{w w':World}(h:Le g w g' w'): ∀{ss:List pA}{vs:List Value},tZ g w ss vs->tZ g' w' ss vs
 |[],_,r=>r
 |_::_,_,⟨v,vs',e,r1,r2⟩=>⟨v,vs',e,AO h r1,KS h r2⟩
theorem GL {g:Gh}{w:World}: ∀{ss:List pA}{vs:List Value}{s:pA}{v:Value},tZ g w ss vs->qJ g w s v->tZ g w (ss++[s]) (vs++[v])
 |[],_,_,_,h,k=>by rw[show _=[] from h];exact⟨_,_,rfl,k,rfl⟩
 |_::_,_,_,_,⟨v,vs',e,r1,r2⟩,k=>⟨v,vs'++_,by rw[e];rfl,r1,GL r2 k⟩
theorem F5.tok {H:r5}{ws:List qB}{L:List p9}(h:F5 H ws L) {k:Nat}{b0:p9}(hk:SC H (ws++[.tok k]) (.tok k) b0) (hn:k∉rD ws):F5 H (ws++[.tok k]) (L++[b0]):=by
 refine⟨by simp [h.len],fun i wh b h1 h2=> ?_,?_⟩
 ·by_cases hi:i<ws.length
  ·rw[aQE hi] at h1;rw[aQE (h.len▸hi)] at h2;exact a8v (h.ok i wh b h1 h2)
  ·rw[aQv (by omega)] at h1;rw[aQv (by rw[<-h.len];omega),<-h.len] at h2;obtain⟨d,hd⟩: ∃d,i-ws.length=d:=⟨_,rfl⟩;rw[hd] at h1 h2;cases d with
   |zero=>
    simp only[aQR,aQk] at h1 h2;subst h1;subst h2;exact hk
   |succ d=>simp at h1
 ·rw[GK];exact List.nodup_append.2 ⟨h.nodup,by simp [rD],fun a ha b hb=>by
   simp only[rD,qB.id,aQx] at hb;subst hb;intro e;exact hn (e▸ha)⟩
theorem a8w: ∀{os:List Nat}{n q m:Nat},(q,m)∈I2 os n->∃j:Nat,os[j]? =some q/\m=n+j
 |[],_,_,_,h=>by simp [I2] at h
 |q'::os,n,q,m,h=>by
  simp only[I2,aQC,aQQ] at h;rcases h with⟨rfl,rfl⟩ |h
  ·exact⟨0,rfl,rfl⟩
  ·obtain⟨j,h1,h2⟩:=a8w h;exact⟨j+1,by simpa using h1,by omega⟩
theorem a8x {n:Nat}: ∀{os:List Nat}{j q:Nat},K3 n os=true->os[j]? =some q->q<n
 |[],_,_,_,h=>by simp at h
 |q'::os,0,q,h,h2=>by
  simp only[K3,aQr,aQq] at h;simp only[aQR,aQk] at h2;exact h2▸h.1
 |q'::os,j+1,q,h,h2=>by
  simp only[K3,aQr] at h;exact a8x h.2 (by simpa using h2)
theorem SH {H:r5}{toks:List (Nat×Nat)}{o:Nat}: ∀{os:List Nat}{a a':rX},xB H toks o os (some a)=some a'->
  ∃(ks:List Nat) (bs:List p9),ks.length=os.length/\bs.length=os.length/\a'.args=a.args/\a'.H.reverse=a.H.reverse++bs/\a'.ws.reverse=a.ws.reverse++ks.map qB.tok/\a'.n=a.n+os.length/\
   (∀(j:Nat) q k,os[j]? =some q->ks[j]? =some k->vR toks (o+q)=some k)/\(∀(j:Nat) k b,ks[j]? =some k->bs[j]? =some b->pC H k=some b/\∃e c m,b= .grow e c m)/\(∀k∈ks,k∉rD a.ws.reverse)/\ks.Nodup
 |[],a,a',h=>by
  simp only[xB,aQk] at h;subst h;exact⟨[],[],rfl,rfl,rfl,by simp,by simp,rfl,by simp,by simp,by simp,by simp⟩
 |q::os,a,a',h=>by
  simp only[xB] at h;have none_no: ∀os,xB H toks o os none=none:=by
   intro os
   induction os with
   |nil=>rfl
   |cons q os ih=>
    have:yA H (vR toks (o+q)) none=none:=by
     cases vR toks (o+q) with
     |none=>rfl
     |some k=>simp only[yA];cases pC H k with
      |none=>rfl
      |some b=>cases b<;>rfl
    simp only[xB,this,ih]
  cases hk:vR toks (o+q) with
  |none=>rw[hk] at h;simp only[yA,none_no] at h;cases h
  |some k=>
   rw[hk] at h;simp only[yA] at h;cases hb:pC H k with
   |none=>rw[hb] at h;simp only[BF,none_no] at h;cases h
   |some b=>
    rw[hb] at h;cases b with
    |grow e c m=>
     simp only[BF] at h;by_cases hm:C3 k (rD a.ws)=true
     ·rw[aQj hm,none_no] at h;cases h
     ·rw[aQl hm] at h;obtain⟨ks,bs,h1,h2,h3,h4,h5,h6,h7,h8,h9,h10⟩:=SH h;simp only[aQ6] at h4 h5 h9;have hrev: ∀ws:List qB,∀i,i∈rD ws.reverse↔i∈rD ws:=by
       intro ws i
       induction ws with
       |nil=>simp
       |cons x r ih=>rw[aQ6,GK];simp [rD,ih,or_comm]
      refine⟨k::ks,.grow e c m::bs,by simp [h1],by simp [h2],h3,by rw[h4];simp,by rw[h5];simp,by rw[h6];simp;omega,fun j q' k'=> ?_,fun j k' b'=> ?_,fun k' hk'=> ?_,?_⟩
      ·cases j with
       |zero=>intro e1 e2;simp only[aQR,aQk] at e1 e2;subst e1;subst e2;exact hk
       |succ j=>intro e1 e2;exact h7 j q' k' (by simpa using e1) (by simpa using e2)
      ·cases j with
       |zero=>intro e1 e2;simp only[aQR,aQk] at e1 e2;subst e1;subst e2;exact⟨hb,_,_,_,rfl⟩
       |succ j=>intro e1 e2;exact h8 j k' b' (by simpa using e1) (by simpa using e2)
      ·rcases aQC.1 hk' with rfl|hk'
       ·rw[hrev];exact fun hmem=>hm (IK.2 hmem)
       ·intro hmem;exact h9 k' hk' (by rw[GK];exact List.mem_append_left _ hmem)
      ·refine List.nodup_cons.2 ⟨fun hmem=>h9 k hmem (by rw[GK];simp [rD,qB.id]),h10⟩
    |cells t y ts=>simp only[BF,none_no] at h;cases h
    |row=>simp only[BF,none_no] at h;cases h
    |map=>simp only[BF,none_no] at h;cases h
    |iter=>simp only[BF,none_no] at h;cases h
    |dead=>simp only[BF,none_no] at h;cases h
theorem a8y: ∀ks:List Nat,rD (ks.map qB.tok)=ks
 |[]=>rfl
 |k::ks=>by simp [rD,qB.id,a8y ks]
theorem F5.box {H:r5}{ws:List qB}{L:List p9}(h:F5 H ws L) {t u:Ty}{x:u.den}{y:t.den}{toks:List (Nat×Nat)}{i o:Nat}{os ks:List Nat}{bs:List p9}(hi:pC H i=some (.cells u x toks)) (hy:pX t u x o=some y) (hlt:K3 t.cells os=true) (hn:i∉rD ws)
  (h1:ks.length=os.length) (h2:bs.length=os.length) (h7: ∀(j:Nat) q k,os[j]? =some q->ks[j]? =some k->vR toks (o+q)=some k) (h8: ∀(j:Nat) k b,ks[j]? =some k->bs[j]? =some b->pC H k=some b/\∃e c m,b= .grow e c m) (h9: ∀k∈ks,k∉rD (ws++[.box i u x toks o])) (h10:ks.Nodup):
  F5 H ((ws++[.box i u x toks o])++ks.map qB.tok) ((L++[.cells t y (I2 os (ws.length+1))])++bs):=by
 have hlen1:(ws++[qB.box i u x toks o]).length=ws.length+1:=by simp
 have hlen2:(L++[p9.cells t y (I2 os (ws.length+1))]).length=ws.length+1:=by simp [h.len]
 refine⟨by simp [h.len,h1,h2],fun c wh b e1 e2=> ?_,?_⟩
 ·by_cases hc:c<ws.length
  ·rw[aQE (by omega),aQE hc] at e1;rw[aQE (by omega),aQE (h.len▸hc)] at e2;rw[aQt];exact a8v (h.ok c wh b e1 e2)
  ·by_cases hc2:c=ws.length
   ·subst hc2;rw[aQE (by omega),aQv (aQF _),aSl] at e1;rw[aQE (by omega),aQv (by rw[h.len];exact aQF _),h.len,aSl] at e2;simp only[aQR,aQk] at e1 e2;subst e1;subst e2;refine⟨hi,hy,fun q n hm=> ?_⟩;rw[<-h.len] at hm;obtain⟨j,hj,rfl⟩:=a8w hm;have hjl:j<ks.length:=by rw[h1];exact(aQA.1 hj).1
    refine⟨ks[j],?_,h7 j q _ hj (aQs hjl),a8x hlt hj⟩;rw[aQv (by omega),hlen1,show ws.length+1+j- (ws.length+1)=j from by omega];simp [hjl]
   ·rw[aQv (by omega),hlen1] at e1;rw[aQv (by omega),hlen2] at e2;rw[List.getElem?_map] at e1;obtain⟨k,hk,rfl⟩:=aQz.1 e1;obtain⟨hg,e,cc,m,rfl⟩:=h8 _ k b hk e2;exact hg
 ·rw[GK,a8y];refine List.nodup_append.2 ⟨?_,h10,fun a ha b hb e=>h9 b hb (e▸ha)⟩;rw[GK];exact List.nodup_append.2 ⟨h.nodup,by simp [rD],fun a ha b hb=>by
   simp only[rD,qB.id,aQx] at hb;subst hb;intro e;exact hn (e▸ha)⟩
theorem SI (ws:List qB) (i:Nat):i∈rD ws.reverse↔i∈rD ws:=by
 induction ws with
 |nil=>simp
 |cons x r ih=>rw[aQ6,GK];simp [rD,ih,or_comm]
structure AR (g:Gh) (w:World) (H:r5) (vals:List Value) (a:rX):Prop where
 n:a.n=a.ws.reverse.length
 m:F5 H a.ws.reverse a.H.reverse
 args:tZ (tV g a.ws.reverse) w a.args.reverse vals
theorem aHx {g:Gh}{w:World}{ws:List qB}{t:Ty}(hp:t.pure=true) {x:t.den}{v:Value}{k:Option Nat}(h:qJ g w (.val t x,k) v):qJ (tV g ws) w (.val t x,none) v:=
 ⟨h.1.imp (fun⟨a,cs,e,q⟩=>⟨a,cs,e,uF (g:=g) (g':=tV g ws) rfl hp q⟩) (fun⟨a,q⟩=>⟨a,uF (g:=g) (g':=tV g ws) rfl hp q⟩),trivial⟩
theorem aHy {H:r5}{k:Option Nat}{a b:rX}{l m:List pA}(h:yA H k (some ⟨l,a.H,a.ws,a.n⟩)=some b):b.args=l/\yA H k (some ⟨m,a.H,a.ws,a.n⟩)=some ⟨m,b.H,b.ws,b.n⟩:=by
 cases k with
 |none=>cases h
 |some k=>
  simp only[yA] at h⊢;cases hb:pC H k with
  |none=>rw[hb] at h;simp [BF] at h
  |some bl=>
   rw[hb] at h;cases bl with
   |grow e c n=>
    simp only[BF] at h⊢;split at h
    ·cases h
    ·rename_i hc;rw[aQl hc];cases h;exact⟨rfl,rfl⟩
   |_=>simp [BF] at h
theorem a8z {H:r5}{toks:List (Nat×Nat)}{o:Nat}{m:List pA}: ∀{os:List Nat}{a b:rX},xB H toks o os (some a)=some b->b.args=a.args/\xB H toks o os (some ⟨m,a.H,a.ws,a.n⟩)=some ⟨m,b.H,b.ws,b.n⟩
 |[],a,b,h=>by simp only[xB,aQk] at h;subst h;exact⟨rfl,rfl⟩
 |q::os,a,b,h=>by
  simp only[xB] at h⊢;have none_no: ∀os,xB H toks o os none=none:=by
   intro os
   induction os with
   |nil=>rfl
   |cons q os ih=>
    have:yA H (vR toks (o+q)) none=none:=by
     cases vR toks (o+q) with
     |none=>rfl
     |some k=>simp only[yA];cases pC H k with
      |none=>rfl
      |some b=>cases b<;>rfl
    simp only[xB,this,ih]
  cases hm:yA H (vR toks (o+q)) (some a) with
  |none=>rw[hm,none_no] at h;cases h
  |some c=>
   rw[hm] at h;obtain⟨h1,h2⟩:=aHy (a:=a) (l:=a.args) (m:=m) hm;obtain⟨h3,h4⟩:=a8z (m:=m) h;rw[h2];exact⟨h3.trans h1,h4⟩
theorem aHz {H:r5}{t:Ty}{os:List Nat}{i o:Nat}{a b:rX}{m:List pA}(h:uE H t os i o a (pC H i)=some b):uE H t os i o ⟨m,a.H,a.ws,a.n⟩ (pC H i)=some ⟨(.val .ref (some (a.n,0)),none)::m,b.H,b.ws,b.n⟩:=by
 cases hb:pC H i with
 |none=>rw[hb] at h;simp [uE] at h
 |some bl=>
  rw[hb] at h;cases bl with
  |cells u x toks=>
   simp only[uE] at h⊢;cases hy:pX t u x o with
   |none=>rw[hy] at h;simp [DQ] at h
   |some y=>
    rw[hy] at h;simp only[DQ] at h⊢;split at h
    ·rename_i hc;rw[aQj hc];exact(a8z (m:=(.val .ref (some (a.n,0)),none)::m) h).2
    ·cases h
  |_=>simp [uE] at h
theorem a8A {g:Gh}{i o:Nat}{p:Pl}{v:Value}: ∀{l:List (Nat×Nat)}{vs:List Value},wM g l vs->g.J i=some p->v= .pointer (some ⟨p.1,p.2+o,none⟩)->wM g (l++[(i,o)]) (vs++[v])
 |[],vs,h,hp,hv=>by rw[show vs=[] from h];exact⟨p,[],hp,by rw[hv];rfl,rfl⟩
 |(_,_)::l,vs,⟨q,vs',h1,h2,h3⟩,hp,hv=>⟨q,vs'++[v],h1,by rw[h2];rfl,a8A h3 hp hv⟩
theorem a8B {α:Type}: ∀(l acc:List α),y9 l acc=l.reverse++acc
 |[],_=>rfl
 |x::l,acc=>by simp [y9,a8B l]
theorem a8C {g:Gh}{w:World}{H:r5}(hH:rK g w H) {t:Ty}{os:List Nat}{i o:Nat}{vals:List Value}{a a':rX}(ha:AR g w H vals a) {p:Pl}(hp:g.J i=some p) (h:uE H t os i o a (pC H i)=some a'):
  AR g w H vals ⟨a.args,a'.H,a'.ws,a'.n⟩/\∃more,a'.ws.reverse=a.ws.reverse++more/\a'.args=(.val .ref (some (a.n,0)),none)::a.args/\(tV g a'.ws.reverse).J a.n=some ⟨p.1,p.2+o,p.3⟩:=by
 cases hb:pC H i with
 |none=>rw[hb] at h;simp [uE] at h
 |some b=>
  rw[hb] at h;cases b with
  |cells u x toks=>
   simp only[uE] at h;cases hy:pX t u x o with
   |none=>rw[hy] at h;simp [DQ] at h
   |some y=>
    rw[hy] at h;simp only[DQ] at h;split at h
    ·rename_i hc;simp only[aQr,aQO] at hc;obtain⟨ks,bs,h1,h2,h3,h4,h5,h6,h7,h8,h9,h10⟩:=SH h;simp only[aQ6] at h3 h4 h5 h6 h9;have hnm:i∉rD a.ws.reverse:=fun hmem=>by
      have:=IK.2 ((SI _ _).1 hmem);rw[hc.2] at this;cases this
     have e5:a'.ws.reverse=a.ws.reverse++([qB.box i u x toks o]++ks.map qB.tok):=by rw[h5];simp only[aQt]
     refine⟨⟨by rw[h6];simp only;rw[h5,ha.n];simp [h1];omega,?_,?_⟩,_,e5,h3,?_⟩
     ·simp only;rw[h4,h5,ha.n];exact ha.m.box hb hy hc.1 hnm h1 h2 h7 h8 h9 h10
     ·simp only;rw[e5];exact KS (KR g w _ _) ha.args
     ·show uN g a'.ws.reverse[a.n]? =_;rw[e5,ha.n,aQv (aQF _),aSl];show (g.J i).map _=_;rw[hp];rfl
    ·cases h
  |grow=>simp [uE] at h
  |row=>simp [uE] at h
  |map=>simp [uE] at h
  |iter=>simp [uE] at h
  |dead=>simp [uE] at h
theorem a8D {H:r5}{f:FuncId}{args0:List pA}: ∀{ks:List (Ty×List Nat)}{cs ids:List (Nat×Nat)}{a a':rX},w6 H f args0 ks cs ids (some a)=some a'->∃s more,a'.args=s::args0/\a'.ws.reverse=a.ws.reverse++more
 |[],[],ids,a,a',h=>by
  simp only[w6,aQk] at h;subst h;exact⟨_,[],rfl,by simp⟩
 |[],_::_,_,_,_,h=>by simp [w6] at h
 |_::_,[],_,_,_,h=>by simp [w6] at h
 |(t,os)::ks,(i,o)::cs,ids,a,a',h=>by
  simp only[w6] at h;cases hb:uE H t os i o a (pC H i) with
  |none=>rw[hb] at h;cases ks<;>cases cs<;>simp [w6] at h
  |some b=>
   rw[hb] at h;obtain⟨s,more,h1,h2⟩:=a8D h;obtain⟨more0,h3⟩: ∃more0,b.ws.reverse=a.ws.reverse++more0:=by
    unfold uE at hb;split at hb
    ·unfold DQ at hb;split at hb
     ·split at hb
      ·obtain⟨ks,bs,_,_,_,_,h5,_⟩:=SH hb;exact⟨_,by rw[h5];simp only[aQ6];exact aQt ..⟩
      ·cases hb
     ·cases hb
    ·cases hb
   exact⟨s,more0++more,h1,by rw[h2,h3,aQt]⟩
theorem a8E {g:Gh}{w:World}{H:r5}(hH:rK g w H) {f:FuncId}{args0:List pA}{vals:List Value}: ∀{ks:List (Ty×List Nat)}{cs:List (Nat×Nat)}{ids:List (Nat×Nat)}{vs us:List Value}{a a':rX},AR g w H vals ⟨args0,a.H,a.ws,a.n⟩->
  wM g cs vs->wM (tV g a.ws.reverse) ids.reverse us->w6 H f args0 ks cs ids (some a)=some a'->
  AR g w H vals ⟨args0,a'.H,a'.ws,a'.n⟩/\∃ids',a'.args=(.val .clo (some (f,ids')),none)::args0/\(∃more,a'.ws.reverse=a.ws.reverse++more)/\wM (tV g a'.ws.reverse) ids' (us++vs)
 |[],[],ids,vs,us,a,a',ha,hv,hu,h=>by
  simp only[w6,a8B,List.append_nil,aQk] at h;subst h;rw[show vs=[] from hv,List.append_nil];exact⟨ha,_,rfl,⟨[],by simp⟩,hu⟩
 |[],_::_,_,_,_,_,_,_,_,_,h=>by simp [w6] at h
 |_::_,[],_,_,_,_,_,_,_,_,h=>by simp [w6] at h
 |(t,os)::ks,(i,o)::cs,ids,vs,us,a,a',ha,⟨p,vs',hp,hv1,hv2⟩,hu,h=>by
  simp only[w6] at h;cases hb:uE H t os i o a (pC H i) with
  |none=>rw[hb] at h;cases ks<;>cases cs<;>simp [w6] at h
  |some b=>
   rw[hb] at h;have hb':uE H t os i o ⟨args0,a.H,a.ws,a.n⟩ (pC H i)=some ⟨(.val .ref (some (a.n,0)),none)::args0,b.H,b.ws,b.n⟩:=aHz hb;obtain⟨q1,more,q2,q3,q4⟩:=a8C hH ha hp hb';simp only at q1 q2 q3 q4;have hmono:=KR g w a.ws.reverse more;rw[<-q2] at hmono;have hu2:wM (tV g b.ws.reverse) ((a.n,0)::ids).reverse (us++[.pointer (some ⟨p.1,p.2+o,none⟩)]):=by
    simp only[aQ6];exact a8A (X9 hmono.J hu) q4 (by simp)
   obtain⟨z1,ids',z2,⟨more',z3⟩,z4⟩:=a8E hH (a:=b) q1 hv2 hu2 h;refine⟨z1,ids',z2,⟨more++more',by rw[z3,q2,aQt]⟩,?_⟩;rw[hv1];rw[aQt] at z4;exact z4
theorem a8F {g:Gh}{w:World}{H:r5}(hH:rK g w H) {p:PK}{s:pA}{v:Value}{vals:List Value}{a a':rX}(ha:AR g w H vals a) (hs:qJ g w s v) (h:wK H a p s=some a'):AR g w H (vals++[v]) a':=by
 unfold wK at h;split at h
 ·rename_i f k;simp only[QN,aQk] at h;subst h;refine⟨ha.n,ha.m,?_⟩;simp only[aQ6];refine GL ha.args ⟨?_,trivial⟩;rcases hs.1 with⟨h1,_⟩ |⟨h1,vs,h2,h3⟩
  ·cases h1
  ·rw[show vs=[] from h2] at h3;exact .inr ⟨rfl,[],rfl,h3⟩
 ·rename_i t x k _;simp only[QM] at h;split at h
  ·rename_i hp;simp only[aQk] at h;subst h;refine⟨ha.n,ha.m,?_⟩;simp only[aQ6];exact GL ha.args (aHx hp hs)
  ·cases h
 ·rename_i t x k;cases hb:pC H k with
  |none=>rw[hb] at h;simp [BG] at h
  |some b=>
   rw[hb] at h;cases b with
   |grow e c m=>
    simp only[BG] at h;split at h
    ·rename_i hc;simp only[aQr,aQO] at hc;simp only[aQk] at h;subst h;have hnm:k∉rD a.ws.reverse:=fun hmem=>by
      have:=IK.2 ((SI _ _).1 hmem);rw[hc.2] at this;cases this
     refine⟨by simp [ha.n],by simpa using ha.m.tok (b0:= .grow e c m) hb hnm,?_⟩;simp only[aQ6];refine GL (KS (KR g w _ _) ha.args) (SB (g:=g) (g':=tV g (a.ws.reverse++[.tok k])) (k':=some a.n) rfl hc.1 hs (fun c' e1=> ?_) (fun e1=>by cases e1));cases e1;refine⟨_,rfl,fun n u hu=> ?_⟩;show AQ g (a.ws.reverse++[qB.tok k])[a.n]? n=some u;rw[ha.n,aQv (aQF _),aSl];exact hu
    ·cases h
   |cells=>simp [BG] at h
   |row=>simp [BG] at h
   |map=>simp [BG] at h
   |iter=>simp [BG] at h
   |dead=>simp [BG] at h
 ·rename_i t os i o k;obtain⟨p,hp,hv⟩:=zV hs.1;obtain⟨h1,more,h2,h3,h4⟩:=a8C hH ha hp h;refine⟨h1.n,h1.m,?_⟩;rw[h3];simp only[aQ6];exact GL h1.args ⟨.inr ⟨rfl,_,h4,by rw[hv];rfl⟩,trivial⟩
 ·rename_i i k;cases hb:pC H i with
  |none=>rw[hb] at h;simp [BH] at h
  |some b=>
   rw[hb] at h;cases b with
   |map s t l=>
    simp only[BH] at h;split at h
    ·rename_i hc;simp only[aQr,aQO] at hc;simp only[aQk] at h;subst h;have hnm:i∉rD a.ws.reverse:=fun hmem=>by
      have:=IK.2 ((SI _ _).1 hmem);rw[hc.2] at this;cases this
     refine⟨by simp [ha.n],by simpa using ha.m.tok (b0:= .map s t l) ⟨hb,hc.1.1,hc.1.2⟩ hnm,?_⟩;simp only[aQ6];obtain⟨p,hp,hv⟩: ∃p,g.J i=some p/\v= .map (some p.1):=by
      obtain⟨p,h1,e⟩:=BO rfl hs.1;simp only[aRf,and_true] at e;exact⟨p,h1,e⟩
     refine GL (KS (KR g w _ _) ha.args) ⟨.inr ⟨rfl,p,?_,by rw[hv]⟩,trivial⟩;show uN g (a.ws.reverse++[qB.tok i])[a.n]? =_;rw[ha.n,aQv (aQF _),aSl];exact hp
    ·cases h
   |cells=>simp [BH] at h
   |row=>simp [BH] at h
   |grow=>simp [BH] at h
   |iter=>simp [BH] at h
   |dead=>simp [BH] at h
 ·rename_i k n k';cases hb:pC H k with
  |none=>rw[hb] at h;simp [BI] at h
  |some b=>
   rw[hb] at h;cases b with
   |row e t l m=>
    simp only[BI] at h;split at h
    ·rename_i hc;simp only[aQr,aQO] at hc;simp only[aQk] at h;subst h;have hnm:k∉rD a.ws.reverse:=fun hmem=>by
      have:=IK.2 ((SI _ _).1 hmem);rw[hc.2] at this;cases this
     refine⟨by simp [ha.n],by simpa using ha.m.tok (b0:= .row e t l m) ⟨hb,hc.1⟩ hnm,?_⟩;simp only[aQ6];obtain⟨h1,h2⟩:=hs.1;refine GL (KS (KR g w _ _) ha.args) ⟨⟨?_,h2⟩,trivial⟩;show AQ g (a.ws.reverse++[qB.tok k])[a.n]? n=_;rw[ha.n,aQv (aQF _),aSl];exact h1
    ·cases h
   |cells=>simp [BI] at h
   |grow=>simp [BI] at h
   |map=>simp [BI] at h
   |iter=>simp [BI] at h
   |dead=>simp [BI] at h
 ·rename_i ks f cs k';obtain⟨vs,hv1,hv2⟩: ∃vs,wM g cs vs/\v= .func (.func f) #[] vs.toArray:=by
   rcases hs.1 with⟨h1,_⟩ |⟨_,vs,h2,h3⟩
   ·cases h1
   ·simp only[aRf,and_true] at h3;exact⟨vs,h2,h3⟩
  obtain⟨z1,ids',z2,_,z4⟩:=a8E hH (ids:=[]) (a:=a) (us:=[]) ha hv1 rfl h;refine⟨z1.n,z1.m,?_⟩;rw[z2];simp only[aQ6];exact GL z1.args ⟨.inr ⟨rfl,vs,by simpa using z4,by rw[hv2]⟩,trivial⟩
 ·cases h
theorem a8G {g:Gh}{w:World}{H:r5}(hH:rK g w H): ∀{ps:List PK}{ss:List pA}{vs vals:List Value}{a a':rX},AR g w H vals a->tZ g w ss vs->w7 H ps ss (some a)=some a'->AR g w H (vals++vs) a'
 |[],[],vs,vals,a,a',ha,hs,h=>by
  simp only[w7,aQk] at h;subst h;rw[show vs=[] from hs,List.append_nil];exact ha
 |p::ps,s::ss,vs,vals,a,a',ha,⟨v,vs',e,h1,h2⟩,h=>by
  simp only[w7] at h;cases ho:wK H a p s with
  |none=>rw[ho] at h;cases ps<;>cases ss<;>simp [w7] at h
  |some a1=>
   rw[ho] at h;have:=a8G hH (a8F hH ha h1 ho) h2 h;rw[e];simpa using this
 |[],_::_,_,_,_,_,_,_,h=>by simp [w7] at h
 |_::_,[],_,_,_,_,_,_,h=>by simp [w7] at h
theorem AR.nil (g:Gh) (w:World) (H:r5):AR g w H [] ⟨[],[],[],0⟩:=
 ⟨rfl,⟨rfl,fun c wh b h _=>by simp at h,by simp [rD]⟩,rfl⟩
theorem a8H: ∀(l:List p9) (n:Nat),G9 l n=l[n]?
 |[],_=>by simp [G9]
 |_::_,0=>rfl
 |_::r,n+1=>by simpa[G9] using a8H r n
theorem aHA {g:Gh}{w:World}: ∀{t:Ty}{x:t.den}{cs:List Value}{o:Nat}{y:Option (Nat×Nat)},Rd g w t x cs->ET t x o=some y->∃cs',GI g y cs':=by
 intro t
 induction t with
 |pair a b iha ihb=>
  intro x cs o y r h;obtain⟨c1,c2,_,r1,r2⟩:=r;simp only[ET] at h;split at h
  ·exact iha r1 h
  ·exact ihb r2 h
 |rl e u=>
  intro x cs o y r h;cases o with
  |zero=>simp only[ET,aQk] at h;subst h;exact⟨cs,r⟩
  |succ o=>simp [ET] at h
 |_=>intro x cs o y r h;cases o<;>simp [ET] at h
theorem aHB {g:Gh}{w:World}{H:r5}(hH:rK g w H) {vals:List Value}{a:rX}(ha:AR g w H vals a) (c q:Nat) (pk:PK): ∃v,qJ g w (I3 q pk (G9 a.H c)) v:=by
 rw[a8H];have any: ∃v,qJ g w (.any,none) v:=⟨undef,trivial,trivial⟩;cases hb:a.H[c]? with
 |none=>cases pk<;>exact any
 |some b=>
  cases b with
  |cells t y ts=>
   have hlt:c<a.H.length:=(aQA.1 hb).1;have hb':a.H.reverse[a.H.length-1-c]? =some (.cells t y ts):=by
    rw[List.getElem?_reverse (by omega),show a.H.length-1- (a.H.length-1-c)=c by omega];exact hb
   obtain⟨wh,hwh⟩: ∃wh,a.ws.reverse[a.H.length-1-c]? =some wh:=by
    have hl:=ha.m.len;simp only[List.length_reverse] at hl;exact⟨_,aQs (by rw[List.length_reverse];omega)⟩
   have hw:=ha.m.ok _ wh _ hwh hb';cases wh with
   |tok k=>exact hw.elim
   |box i u x toks off=>
    obtain⟨h1,h2,_⟩:=hw;obtain⟨p,cs,hp,hR,_⟩:=hH.blk i _ h1;obtain⟨c1,c2,c3,hcs,hl,hR2⟩:=DX hR h2;cases pk with
    |p t' os=>
     simp only[I3];cases hg:pX .ref t y q with
     |none=>exact any
     |some z=>
      cases z with
      |none=>exact any
      |some z=>
       obtain⟨d1,d2,d3,_,_,hR3⟩:=DX hR2 hg;obtain⟨p',hp',e⟩:=hR3;exact⟨_,.inr ⟨rfl,p',hp',rfl⟩,trivial⟩
    |m=>
     simp only[I3];cases hg:pX .mp t y q with
     |none=>exact any
     |some z=>
      cases z with
      |none=>exact any
      |some z=>
       obtain⟨d1,d2,d3,_,_,hR3⟩:=DX hR2 hg;obtain⟨p',hp',e⟩:=hR3;exact⟨_,.inr ⟨rfl,p',hp',rfl⟩,trivial⟩
    |v=>exact any
    |own=>exact any
    |f ks=>exact any
    |r=>
     simp only[I3];cases hg:ET t y q with
     |none=>exact any
     |some z=>
      cases z with
      |none=>exact any
      |some z=>
       obtain⟨cs',hR3⟩:=aHA hR2 hg;obtain⟨v,hv,_,hsh⟩:=hR3;exact⟨v,⟨hv,hsh⟩,trivial⟩
  |_=>cases pk<;>exact any
theorem a8I {g:Gh}{w:World}{H:r5}(hH:rK g w H) {vals:List Value}: ∀{gs:List (Nat×Nat×PK)}{a a':rX},AR g w H vals a->AL H gs (some a)=some a'->AR g w H vals a'
 |[],a,a',ha,h=>by
  simp only[AL,aQk] at h;subst h;exact ha
 |(c,q,pk)::gs,a,a',ha,h=>by
  simp only[AL] at h;obtain⟨v,hv⟩:=aHB hH ha (a.n-1-c) q pk;cases hp:wK H a pk (I3 q pk (G9 a.H (a.n-1-c))) with
  |none=>
   rw[hp] at h;simp only[K4] at h;cases gs<;>simp [AL] at h
  |some b=>
   rw[hp] at h;simp only[K4] at h;have hb:=a8F hH ha hv hp;refine a8I hH (a:=⟨a.args,b.H,b.ws,b.n⟩) ⟨hb.n,hb.m,?_⟩ h;obtain⟨s,more,e1,e2⟩: ∃s more,b.args=s::a.args/\b.ws.reverse=a.ws.reverse++more:=by
    have hp':=hp;unfold wK at hp';split at hp'
    ·simp only[QN,aQk] at hp';subst hp';exact⟨_,[],rfl,by simp⟩
    ·simp only[QM] at hp';split at hp'
     ·simp only[aQk] at hp';subst hp';exact⟨_,[],rfl,by simp⟩
     ·cases hp'
    ·unfold BG at hp';split at hp'
     ·split at hp'
      ·simp only[aQk] at hp';subst hp';exact⟨_,[_],rfl,aQ6 ..⟩
      ·cases hp'
     ·cases hp'
    ·unfold uE at hp';split at hp'
     ·unfold DQ at hp';split at hp'
      ·split at hp'
       ·obtain⟨ks,bs,_,_,h3,_,h5,_⟩:=SH hp';exact⟨_,_,h3,by rw[h5];simp only[aQ6];exact aQt ..⟩
       ·cases hp'
      ·cases hp'
     ·cases hp'
    ·unfold BH at hp';split at hp'
     ·split at hp'
      ·simp only[aQk] at hp';subst hp';exact⟨_,[_],rfl,aQ6 ..⟩
      ·cases hp'
     ·cases hp'
    ·unfold BI at hp';split at hp'
     ·split at hp'
      ·simp only[aQk] at hp';subst hp';exact⟨_,[_],rfl,aQ6 ..⟩
      ·cases hp'
     ·cases hp'
    ·exact a8D hp'
    ·cases hp'
   rw[e2];exact KS (KR g w _ _) ha.args
theorem aHC {b:Option p9}{l:Option (List p9)}{r:List p9}(h:WB b l=some r): ∃b' l',b=some b'/\l=some l'/\r=b'::l':=by
 cases b<;>cases l<;>simp [WB] at h
 exact⟨_,_,rfl,rfl,h.symm⟩
theorem a8J {W:List qB}: ∀{L0 L:List p9},GA W L0=some L->L.length=L0.length/\∀(c:Nat) (b:p9),L[c]? =some b->∃b0,L0[c]? =some b0/\QP W b0=some b
 |[],L,h=>by
  simp only[GA,aQk] at h;subst h;exact⟨rfl,fun c b h=>by simp at h⟩
 |b0::L0,L,h=>by
  simp only[GA] at h;obtain⟨b',l',h1,h2,rfl⟩:=aHC h;obtain⟨k1,k2⟩:=a8J h2;refine⟨by simp [k1],fun c b hc=> ?_⟩;cases c with
  |zero=>simp only[aQR,aQk] at hc;subst hc;exact⟨b0,rfl,h1⟩
  |succ c=>obtain⟨b1,q1,q2⟩:=k2 c b (by simpa using hc);exact⟨b1,by simpa using q1,q2⟩
theorem F5.ren {H:r5}{ws:List qB}{L0 L:List p9}(h:F5 H ws L0) (hc:GA ws L0=some L):NR H ws L:=by
 obtain⟨k1,k2⟩:=a8J hc;refine⟨h.len.trans k1.symm,fun c wh b hw hb=> ?_,h.nodup⟩;obtain⟨b0,q1,q2⟩:=k2 c b hb;have hok:=h.ok c wh b0 hw q1;cases b0 with
 |cells t y ts=>
  cases wh with
  |tok k=>exact hok.elim
  |box i u x toks o=>
   obtain⟨h1,h2,h3⟩:=hok;simp only[QP] at q2;split at q2
   ·rename_i hp;obtain rfl:=aQo q2;exact⟨h1,⟨y,h2,.inl ⟨hp,rfl⟩⟩,h3⟩
   ·cases hy:C5 ws t y with
    |none=>rw[hy] at q2;cases q2
    |some z=>
     rw[hy] at q2;obtain rfl:=aQo q2;exact⟨h1,⟨y,h2,.inr hy⟩,h3⟩
 |_=>
  simp only[QP,aQk] at q2;subst q2;cases wh<;>exact hok
theorem zB: ∀(W:List qB) (c:Nat),zT W c=W[c]?
  |[],c=>by simp [zT]
  |_::_,0=>rfl
  |_::W,c+1=>by simpa[zT] using zB W c
theorem a8K: ∀L:List p9,pV L=L.length
  |[]=>rfl
  |_::L=>by simp [pV,a8K L]
theorem a8L {α:Type}: ∀(l acc:List α),y9 l acc=l.reverse++acc
  |[],_=>rfl
  |x::l,acc=>by simp [y9,a8L l]
theorem Y5 {a:Option (Nat×p9)}{b:Option (List (Nat×p9))}{l:List (Nat×p9)}(h:MT a b=some l): ∃q r,a=some q∧b=some r∧l=q::r:=by
  cases a<;>cases b<;>simp [MT] at h
  exact⟨_,_,rfl,rfl,h.symm⟩
def GM (base n:Nat) (W ws:List qB) (R:List p9) (c0:Nat) (id:Nat) (b:p9):Prop:=
  (∃(c:Nat) (i:Nat) (u:Ty) (x:u.den) (toks:List (Nat×Nat)) (o:Nat) (b0:p9),ws[c]? =some (.box i u x toks o)∧id=i∧R[c]? =some b0∧w8 base n i o W u x toks b0=some (i,b))∨
  (∃(c k:Nat) (b0:p9),ws[c]? =some (.tok k)∧id=k∧R[c]? =some b0∧yW k b0=some (k,b))∨
  (∃(c:Nat) (b0:p9),R[c]? =some b0∧id=base+(c0+c)∧ws[c]? =none∧CS base n (c0+c) W b0=some (id,b))
theorem GM.succ {base n:Nat}{W:List qB}{wh:qB}{ws:List qB}{b0:p9}{R:List p9}{c0 id:Nat}{b:p9}(h:GM base n W ws R (c0+1) id b):GM base n W (wh::ws) (b0::R) c0 id b:=by
  rcases h with⟨c,i,u,x,toks,o,b1,h1,h2,h3,h4⟩ |⟨c,k,b1,h1,h2,h3,h4⟩ |⟨c,b1,h1,h2,h3,h4⟩
  ·exact .inl ⟨c+1,i,u,x,toks,o,b1,by simpa using h1,h2,by simpa using h3,h4⟩
  ·exact .inr (.inl ⟨c+1,k,b1,by simpa using h1,h2,by simpa using h3,h4⟩)
  ·exact .inr (.inr ⟨c+1,b1,by simpa using h1,by rw[h2];omega,by simpa using h3,by rw[show c0+(c+1)=c0+1+c from by omega];exact h4⟩)
theorem GM.succ0 {base n:Nat}{W:List qB}{b0:p9}{R:List p9}{c0 id:Nat}{b:p9}(h:GM base n W [] R (c0+1) id b):GM base n W [] (b0::R) c0 id b:=by
  rcases h with⟨c,i,u,x,toks,o,b1,h1,_⟩ |⟨c,k,b1,h1,_⟩ |⟨c,b1,h1,h2,h3,h4⟩
  ·simp at h1
  ·simp at h1
  ·exact .inr (.inr ⟨c+1,b1,by simpa using h1,by rw[h2];omega,by simp,by rw[show c0+(c+1)=c0+1+c from by omega];exact h4⟩)
theorem a8M {i:Nat}{t:Ty}{ts:List (Nat×Nat)}{o:Option t.den}{q:Nat×p9}(h:a7f i t ts o=some q): ∃y,o=some y∧q=(i,.cells t y ts):=by
  cases o with
  |none=>cases h
  |some y=>exact⟨y,rfl,(aQo h).symm⟩
theorem aHD {base n c:Nat}{W:List qB}{b:p9}{q:Nat×p9}(h:CS base n c W b=some q):q.1=base+c:=by
  cases b<;>simp only[CS] at h
  · split at h
    ·exact(aQo h)▸rfl
    ·obtain⟨y,_,rfl⟩:=a8M h;rfl
  ·exact(aQo h)▸rfl
  · split at h
    ·exact(aQo h)▸rfl
    ·cases h
  · split at h
    ·exact(aQo h)▸rfl
    ·cases h
  ·cases h
  ·exact(aQo h)▸rfl
def bY (base n:Nat) (W:List qB) (t:Ty) (x y:t.den):Prop:=(t.pure=true∧y=x)∨BJ base n W t x=some y
theorem Y6 {base n i o:Nat}{W:List qB}{u t:Ty}{x:u.den}{y:t.den}{toks ts:List (Nat×Nat)}{q:Nat×p9}(h:w8 base n i o W u x toks (.cells t y ts)=some q):
    ∃y2 z,bY base n W t y y2∧rO t y2 u x o=some z∧q=(i,.cells u z (pO (CR base n W o ts) (tX toks o t.cells))):=by
  simp only[w8] at h;split at h
  · rename_i hp
    cases hs:rO t y u x o with
    |none=>rw[hs] at h;simp [QR] at h
    |some z=>rw[hs] at h;exact⟨y,z,.inl ⟨hp,rfl⟩,hs,(aQo h).symm⟩
  · cases hy:BJ base n W t y with
    |none=>rw[hy] at h;cases h
    | some y2=>
      rw[hy] at h;simp only[a7g] at h;cases hs:rO t y2 u x o with
      |none=>rw[hs] at h;simp [QR] at h
      |some z=>rw[hs] at h;exact⟨y2,z,.inr hy,hs,(aQo h).symm⟩
theorem aHE {k:Nat}{b:p9}{q:Nat×p9}(h:yW k b=some q):q.1=k:=by
  cases b<;>simp only[yW] at h
  ·cases h
  ·exact(aQo h)▸rfl
  · split at h
    ·exact(aQo h)▸rfl
    ·cases h
  · split at h
    ·exact(aQo h)▸rfl
    ·cases h
  ·cases h
  ·exact(aQo h)▸rfl
theorem aHF {base n i o:Nat}{W:List qB}{u:Ty}{x:u.den}{toks:List (Nat×Nat)}{b:p9}{q:Nat×p9}(h:w8 base n i o W u x toks b=some q):q.1=i:=by
  cases b with
  |cells t y ts=>obtain⟨y2,z,_,_,rfl⟩:=Y6 h;rfl
  |grow=>simp [w8] at h
  |row=>simp [w8] at h
  |map=>simp [w8] at h
  |iter=>simp [w8] at h
  |dead=>simp only[w8,aQk] at h;exact h▸rfl
theorem KT {base n:Nat}{W:List qB}: ∀{ws:List qB}{R:List p9}{c0:Nat}{upd:List (Nat×p9)},AM base n W c0 ws R=some upd→
    ws.length≤R.length∧(∀id b,pC upd id=some b→GM base n W ws R c0 id b)∧(∀id,id∈pE upd→∃b,pC upd id=some b)∧
    (∀(c:Nat) wh,ws[c]? =some wh→wh.id∈pE upd)∧(∀(c:Nat) b,R[c]? =some b→ws[c]? =none→base+(c0+c)∈pE upd)
  | [],[],_,upd,h=>by
    simp only[AM,aQk] at h;subst h;exact⟨aQF _,fun _ _ h=>by simp [pC] at h,fun _ h=>by simp [pE] at h,fun _ _ h=>by simp at h,fun _ _ h=>by simp at h⟩
  | [],b::R,c0,upd,h=>by
    simp only[AM] at h;obtain⟨q,r,h1,h2,rfl⟩:=Y5 h;obtain⟨k1,k2,k3,k4,k5⟩:=KT h2;have hq:=aHD h1;obtain⟨q1,q2⟩:=q;simp only at hq;subst hq;refine⟨by simp,fun id b' hg=> ?_,fun id hi=> ?_,fun c wh hw=>by simp at hw,fun c b' hb hn=> ?_⟩
    · simp only[pC] at hg
      split at hg
      · rename_i e
        obtain rfl:=aQo hg;subst e;exact .inr (.inr ⟨0,b,rfl,rfl,by simp,h1⟩)
      ·exact(k2 id b' hg).succ0
    · simp only[pC]
      by_cases e:base+c0=id
      ·rw[aQj e];exact⟨_,rfl⟩
      · rw[aQl e]
        simp only[pE,aQC] at hi;exact k3 id (hi.resolve_left (Ne.symm e))
    · cases c with
      |zero=>simp [pE]
      | succ c=>
        have:=k5 c b' (by simpa using hb) (by simp);simp only[pE,aQC];right;rw[show base+(c0+(c+1))=base+(c0+1+c) from by omega];exact this
  | .box i u x toks o::ws,[],c0,upd,h=>by simp [AM] at h
  | .tok k::ws,[],c0,upd,h=>by simp [AM] at h
  | .box i u x toks o::ws,b::R,c0,upd,h=>by
    simp only[AM] at h;obtain⟨q,r,h1,h2,rfl⟩:=Y5 h;obtain⟨k1,k2,k3,k4,k5⟩:=KT h2;have hq:=aHF h1;obtain⟨q1,q2⟩:=q;simp only at hq;subst hq;refine⟨by simp;omega,fun id b' hg=> ?_,fun id hi=> ?_,fun c wh hw=> ?_,fun c b' hb hn=> ?_⟩
    · simp only[pC] at hg
      split at hg
      · rename_i e
        obtain rfl:=aQo hg;subst e;exact .inl ⟨0,q1,u,x,toks,o,b,rfl,rfl,rfl,h1⟩
      ·exact(k2 id b' hg).succ
    · simp only[pC]
      by_cases e:q1=id
      ·rw[aQj e];exact⟨_,rfl⟩
      · rw[aQl e]
        simp only[pE,aQC] at hi;exact k3 id (hi.resolve_left (Ne.symm e))
    · cases c with
      |zero=>simp only[aQR,aQk] at hw;subst hw;simp [pE,qB.id]
      |succ c=>simp only[pE,aQC];exact .inr (k4 c wh (by simpa using hw))
    · cases c with
      |zero=>simp at hn
      | succ c=>
        have:=k5 c b' (by simpa using hb) (by simpa using hn);simp only[pE,aQC];right;rw[show base+(c0+(c+1))=base+(c0+1+c) from by omega];exact this
  | .tok k::ws,b::R,c0,upd,h=>by
    simp only[AM] at h;obtain⟨q,r,h1,h2,rfl⟩:=Y5 h;obtain⟨k1,k2,k3,k4,k5⟩:=KT h2;have hq:=aHE h1;obtain⟨q1,q2⟩:=q;simp only at hq;subst hq;refine⟨by simp;omega,fun id b' hg=> ?_,fun id hi=> ?_,fun c wh hw=> ?_,fun c b' hb hn=> ?_⟩
    · simp only[pC] at hg
      split at hg
      · rename_i e
        obtain rfl:=aQo hg;subst e;exact .inr (.inl ⟨0,q1,b,rfl,rfl,rfl,h1⟩)
      ·exact(k2 id b' hg).succ
    · simp only[pC]
      by_cases e:q1=id
      ·rw[aQj e];exact⟨_,rfl⟩
      · rw[aQl e]
        simp only[pE,aQC] at hi;exact k3 id (hi.resolve_left (Ne.symm e))
    · cases c with
      |zero=>simp only[aQR,aQk] at hw;subst hw;simp [pE,qB.id]
      |succ c=>simp only[pE,aQC];exact .inr (k4 c wh (by simpa using hw))
    · cases c with
      |zero=>simp at hn
      | succ c=>
        have:=k5 c b' (by simpa using hb) (by simpa using hn);simp only[pE,aQC];right;rw[show base+(c0+(c+1))=base+(c0+1+c) from by omega];exact this
def sF (g g':Gh) (base:Nat) (W:List qB) (ids:List Nat):Gh:=
  ⟨g'.S,fun i=>if base≤i∧i∈ids then g'.J (i-base) else match uS i W 0 with|some c=>g'.J c|none=>g.J i,
   fun i=>if base≤i∧i∈ids then g'.cur (i-base) else match uS i W 0 with|some c=>g'.cur c|none=>g.cur i⟩
theorem SJ {n c:Nat}{wh:Option qB}:K5 n c wh=true↔c<n∧wh=none:=by
  cases wh with
  |none=>simp [K5]
  |some wh=>simp [K5]
theorem aHG {base n c i:Nat}{wh:Option qB}(h:zU base n c wh=some i):wh=some (.tok i)∨(wh=none∧c<n∧i=base+c):=by
  cases wh with
  | none=>
    simp only[zU] at h;split at h
    ·rename_i hc;exact .inr ⟨rfl,hc,(aQo h).symm⟩
    ·cases h
  | some wh=>
    cases wh with
    |box=>cases h
    |tok k=>simp only[zU,aQk] at h;subst h;exact .inl rfl
theorem SK {i:Nat}: ∀{ws:List qB}{c0:Nat},(∀c:Nat,ws[c]? ≠some (.tok i))→uS i ws c0=none
  |[],_,_=>rfl
  | .tok j::r,c0,h=>by
    simp only[uS];split
    ·rename_i e;subst e;exact absurd rfl (h 0)
    ·exact SK (fun c=>by have:=h (c+1);simpa using this)
  | .box _ _ _ _ _::r,c0,h=>by
    simp only[uS];exact SK (fun c=>by have:=h (c+1);simpa using this)
theorem aHH {i c:Nat}{ws:List qB}(hnd:(rD ws).Nodup) (h:ws[c]? =some (.tok i)):uS i ws 0=some c:=by
  cases hc:uS i ws 0 with
  | none=>
    exfalso
    have: ∀{ws:List qB}{c0 c:Nat},ws[c]? =some (.tok i)→uS i ws c0≠none:=by
      intro ws
      induction ws with
      |nil=>intro c0 c h;simp at h
      | cons wh r ih=>
        intro c0 c h;cases c with
        | zero=>
          simp only[aQR,aQk] at h;subst h;simp [uS]
        | succ c=>
          simp only[aQ5] at h;cases wh with
          |box=>exact ih h
          | tok j=>
            simp only[uS];split
            ·simp
            ·exact ih h
    exact this h hc
  | some d=>
    obtain⟨d',e1,h2⟩:=KQ hc;rw[aQV] at e1;subst e1;rw[SG hnd h h2 rfl]
theorem Fr.mono {A B:Nat→Nat→Prop}{w w':World}{S S':Nat→Nat→Prop}(h:Fr A w w' S S') (hAB: ∀b o,A b o→B b o):Fr B w w' S S':=
  ⟨h.os,h.tape,h.output,h.size,fun b hb hn=>h.blk b hb (fun o ho=>hn o (hAB b o ho)),fun b o hb hn=>h.cell b o hb (fun ho=>hn (hAB b o ho)),fun b o hs=>(h.new b o hs).imp id (Or.imp id (hAB b o)),fun b s hs=>(h.shape b s hs).imp id fun h o=>hAB b o (h o)⟩
theorem SL {base n:Nat}{W:List qB}{o:Nat}: ∀{ts:List (Nat×Nat)}{q k:Nat},(q,k)∈CR base n W o ts→∃q' c,(q',c)∈ts∧zU base n c (zT W c)=some k∧q=o+q'
  |[],_,_,h=>by simp [CR] at h
  | (q',c)::r,q,k,h=>by
    simp only[CR] at h;cases hn:zU base n c (zT W c) with
    | none=>
      rw[hn] at h;obtain⟨a,b,h1,h2⟩:=SL h;exact⟨a,b,aQy _ h1,h2⟩
    | some k'=>
      rw[hn] at h;rcases aQC.1 h with h|h
      · simp only[aQQ] at h
        obtain⟨rfl,rfl⟩:=h;exact⟨q',c,by simp,hn,rfl⟩
      · obtain⟨a,b,h1,h2⟩:=SL h
        exact⟨a,b,aQy _ h1,h2⟩
theorem vH {α:Type}{x:α}: ∀{l m:List α},x∈pO l m↔x∈l∨x∈m
  |[],m=>by simp [pO]
  |y::l,m=>by simp [pO,vH (l:=l),or_assoc]
theorem Y7: ∀{toks:List (Nat×Nat)}{off n q k:Nat},(q,k)∈tX toks off n→(q,k)∈toks∧¬(off≤q∧q<off+n)
  |[],_,_,_,_,h=>by simp [tX] at h
  | (q',k')::r,off,n,q,k,h=>by
    simp only[tX] at h;split at h
    · obtain⟨h1,h2⟩:=Y7 h
      exact⟨aQy _ h1,h2⟩
    · rename_i hn
      rcases aQC.1 h with h|h
      · cases h
        exact⟨by simp,hn⟩
      · obtain⟨h1,h2⟩:=Y7 h
        exact⟨aQy _ h1,h2⟩
section
variable {g g':Gh}{w w':World}{H:r5}{W:List qB}{L:List p9}{r:pF}{v:Value}{base:Nat}{upd:List (Nat×p9)}
variable (hH:rK g w H) (hm:NR H W L) (hr:IJ (tV g W) w L r g' w' v) (hb:AM base r.H.length W 0 W r.H=some upd) (hf: ∀i,i∈pE upd→base≤i→g.J i=none∧∀n,g.cur i n=none)
include hH hm hr hb hf
theorem DZ {c:Nat}{wh:qB}(hw:W[c]? =some wh):wh.id∈pE upd∧wh.id<base∧∃b,L[c]? =some b∧SD H W wh b:=by
  have hin:=(KT hb).2.2.2.1 c wh hw;have hlt:c<L.length:=hm.len▸(aQA.1 hw).1;have hok:=hm.ok c wh _ hw (aQs hlt);refine⟨hin,Nat.lt_of_not_le fun hle=> ?_,_,aQs hlt,hok⟩;have hfr:=hf _ hin hle;cases wh with
  | box i u x toks o=>
    cases hL:L[c] with
    | cells t y ts=>
      rw[hL] at hok;obtain⟨p,cs,hp,_⟩:=hH.blk i _ hok.1;rw[show (qB.box i u x toks o).id=i from rfl] at hfr;rw[hfr.1] at hp;cases hp
    |_=>rw[hL] at hok;exact hok.elim
  | tok k=>
    cases hL:L[c] with
    | grow e cc m=>
      rw[hL] at hok;obtain⟨v,xs,hv,_⟩:=hH.blk k _ hok;rw[show (qB.tok k).id=k from rfl] at hfr;rw[hfr.2] at hv;cases hv
    | map s t l=>
      rw[hL] at hok;obtain⟨p,es,cl,hp,_⟩:=hH.blk k _ hok.1;rw[show (qB.tok k).id=k from rfl] at hfr;rw[hfr.1] at hp;cases hp
    | row e t l m=>
      rw[hL] at hok;obtain⟨_,v,xs,hv,_⟩:=hH.blk k _ hok.1;rw[show (qB.tok k).id=k from rfl] at hfr;rw[hfr.2] at hv;cases hv
    |_=>rw[hL] at hok;exact hok.elim
theorem aHI {c:Nat}(hc:c<r.H.length) (hn:W[c]? =none):base+c∈pE upd:=by
  have:=(KT hb).2.2.2.2 c _ (aQs hc) hn;simpa using this
theorem KU {c:Nat}(hc:c<r.H.length) (hn:W[c]? =none):(sF g g' base W (pE upd)).J (base+c)=g'.J c∧(sF g g' base W (pE upd)).cur (base+c)=g'.cur c:=by
  have hin:=aHI hH hm hr hb hf hc hn;refine⟨?_,?_⟩
  · show (if base≤base+c∧base+c∈pE upd then _ else _)=_
    rw[aQj ⟨by omega,hin⟩,aQ4]
  · show (if base≤base+c∧base+c∈pE upd then _ else _)=_
    rw[aQj ⟨by omega,hin⟩,aQ4]
theorem a8N {i:Nat}(hi: ¬(base≤i∧i∈pE upd)) (hn:uS i W 0=none):(sF g g' base W (pE upd)).J i=g.J i∧(sF g g' base W (pE upd)).cur i=g.cur i:=by
  refine⟨?_,?_⟩
  · show (if base≤i∧i∈pE upd then _ else _)=_
    rw[aQl hi,hn]
  · show (if base≤i∧i∈pE upd then _ else _)=_
    rw[aQl hi,hn]
theorem a8O {c k:Nat}(hw:W[c]? =some (.tok k)):(sF g g' base W (pE upd)).J k=g'.J c∧(sF g g' base W (pE upd)).cur k=g'.cur c:=by
  have hlt:=(DZ hH hm hr hb hf hw).2.1;simp only[qB.id] at hlt;have hc:=aHH hm.nodup hw;refine⟨?_,?_⟩
  · show (if base≤k∧k∈pE upd then _ else _)=_
    rw[aQl (by omega),hc]
  · show (if base≤k∧k∈pE upd then _ else _)=_
    rw[aQl (by omega),hc]
theorem NS {c i:Nat}{u:Ty}{x:u.den}{toks:List (Nat×Nat)}{o:Nat}(hw:W[c]? =some (.box i u x toks o)):(sF g g' base W (pE upd)).J i=g.J i∧(sF g g' base W (pE upd)).cur i=g.cur i:=by
  have hlt:=(DZ hH hm hr hb hf hw).2.1;simp only[qB.id] at hlt;refine a8N hH hm hr hb hf (by omega) (SK fun d hd=> ?_);have:=SG hm.nodup hw hd rfl;subst this;rw[hw] at hd;cases hd
theorem IL {c i:Nat}(hi:zU base r.H.length c W[c]? =some i):(sF g g' base W (pE upd)).J i=g'.J c∧(sF g g' base W (pE upd)).cur i=g'.cur c:=by
  rcases aHG hi with h|⟨h1,h2,rfl⟩
  ·exact a8O hH hm hr hb hf h
  ·exact KU hH hm hr hb hf h2 h1
theorem a8P:Le g w (sF g g' base W (pE upd)) w':=by
  have len: ∀{i c:Nat},uS i W 0=some c→W[c]? =some (.tok i)∧c<L.length:=by
    intro i c h;obtain⟨d,e1,h2⟩:=KQ h;rw[aQV] at e1;subst e1;exact⟨h2,hm.len▸(aQA.1 h2).1⟩
  refine⟨fun b o h=>(hr.shut b o h).1,fun b o h=>(hr.shut b o h).2,fun i p h=> ?_,fun i n u h=> ?_⟩
  · show (if base≤i∧i∈pE upd then _ else _)=_
    rw[aQl (fun⟨h1,h2⟩=>by rw[(hf i h2 h1).1] at h;cases h)];cases hc:uS i W 0 with
    |none=>exact h
    | some c=>
      obtain⟨h1,h2⟩:=len hc;refine hr.Jt c p h2 ?_;show uN g W[c]? =_;rw[h1];exact h
  · show (if base≤i∧i∈pE upd then g'.cur (i-base) else match uS i W 0 with|some c=>g'.cur c|none=>g.cur i) n=_
    rw[aQl (fun⟨h1,h2⟩=>by rw[(hf i h2 h1).2] at h;cases h)];cases hc:uS i W 0 with
    |none=>exact h
    | some c=>
      obtain⟨h1,h2⟩:=len hc;refine hr.cur c n u h2 ?_;show AQ g W[c]? n=_;rw[h1];exact h
theorem aHJ {t:Ty}{x y:t.den}{cs:List Value}(hx:Rd g' w' t x cs) (h:BJ base r.H.length W t x=some y):Rd (sF g g' base W (pE upd)) w' t y cs:=by
  refine SF (g:=g') (g':=sF g g' base W (pE upd)) rfl (BJ base r.H.length W) (fun a b x=>rfl) (fun t x=>rfl) (fun _=>rfl) (fun _ _=>rfl) (fun _=>rfl) (fun _=>rfl) (fun _=>rfl) (fun _ _ x y cs h hx=> ?_) (fun x y cs h hx=> ?_) (fun x y cs h hx=> ?_) (fun x y cs h hx=> ?_) (fun _=>rfl) hx h
  · cases x with
    |none=>cases h;exact hx
    | some q=>
      obtain⟨c,n⟩:=q;simp only[BJ,a7e,zB] at h;obtain⟨i,hi,rfl⟩:=aQz.1 h;obtain⟨v,hv,hs⟩:=hx;exact⟨v,by rw[(IL hH hm hr hb hf hi).2];exact hv,hs⟩
  · cases x with
    |none=>cases h;exact hx
    | some q=>
      obtain⟨c,o⟩:=q;simp only[BJ,I6] at h;obtain⟨p,hp,hv⟩:=hx;unfold I6.back2 at h;split at h
      · rename_i i uu x toks o' hwh
        cases h;rw[zB] at hwh;obtain⟨_,hlt,b,hL,hok⟩:=DZ hH hm hr hb hf hwh;cases b with
        | cells t y ts=>
          have hJ:=hr.J c t y ts hL;rw[hp] at hJ;have hJ':uN g W[c]? =some p:=hJ.symm;rw[hwh] at hJ';obtain⟨p0,hp0,rfl⟩:=aQz.1 hJ';exact⟨p0,by rw[(NS hH hm hr hb hf hwh).1];exact hp0,by have:=hv.1;rwa [aQ1] at this,hv.2.imp id fun hv=>by rw[hv];simp [aQ1]⟩
        |_=>exact hok.elim
      · split at h
        · rename_i hn
          cases h;obtain⟨h1,h2⟩:=SJ.1 hn;rw[zB] at h2;exact⟨p,by rw[(KU hH hm hr hb hf h1 h2).1];exact hp,hv⟩
        ·cases h
  · cases x with
    |none=>cases h;exact hx
    | some q=>
      obtain⟨c,o⟩:=q;simp only[BJ,I6] at h;obtain⟨p,hp,hv⟩:=hx;unfold I6.back2 at h;split at h
      · rename_i i uu x toks o' hwh
        cases h;rw[zB] at hwh;obtain⟨_,hlt,b,hL,hok⟩:=DZ hH hm hr hb hf hwh;cases b with
        | cells t y ts=>
          have hJ:=hr.J c t y ts hL;rw[hp] at hJ;have hJ':uN g W[c]? =some p:=hJ.symm;rw[hwh] at hJ';obtain⟨p0,hp0,rfl⟩:=aQz.1 hJ';exact⟨p0,by rw[(NS hH hm hr hb hf hwh).1];exact hp0,by rw[hv];simp [aQ1]⟩
        |_=>exact hok.elim
      · split at h
        · rename_i hn
          cases h;obtain⟨h1,h2⟩:=SJ.1 hn;rw[zB] at h2;exact⟨p,by rw[(KU hH hm hr hb hf h1 h2).1];exact hp,hv⟩
        ·cases h
  · cases x with
    |none=>cases h;exact hx
    | some c=>
      simp only[BJ,a7d,zB] at h;obtain⟨i,hi,rfl⟩:=aQz.1 h;obtain⟨p,hp,hv⟩:=hx;exact⟨p,by rw[(IL hH hm hr hb hf hi).1];exact hp,hv⟩
theorem a8Q {t:Ty}{x y:t.den}{cs:List Value}(hx:Rd g' w' t x cs) (h:bY base r.H.length W t x y):Rd (sF g g' base W (pE upd)) w' t y cs:=by
  rcases h with⟨hp,rfl⟩ |h
  ·exact uF (g:=g') (g':=sF g g' base W (pE upd)) rfl hp hx
  ·exact aHJ hH hm hr hb hf hx h
omit hH hm hr hb hf in
theorem a8R {n:Nat}{t u:Ty}{x y:t.den}{o:Nat}{l:List u.den}(h:bY base n W t x y) (hg:pX (.list u) t x o=some l):pX (.list u) t y o=some l:=by
  rcases h with⟨_,rfl⟩ |h
  ·exact hg
  ·exact Y3 (BJ base n W) (fun _ _ _=>rfl) (fun _ _=>rfl) h hg
theorem a8S: ∀(cs:List (Nat×Nat)) {l:List (Nat×Nat)}{vs:List Value},wM g' cs vs→K6 base r.H.length W cs=some l→wM (sF g g' base W (pE upd)) l vs
  |[],l,vs,h,e=>by cases e;exact h
  | (c,o)::cs,l,vs,⟨p,vs',hp,hv,hr'⟩,e=>by
    unfold K6 at e;cases h1:WC base r.H.length c o (zT W c) with
    |none=>rw[h1] at e;cases e
    | some q=>
      cases h2:K6 base r.H.length W cs with
      |none=>rw[h1,h2] at e;cases e
      | some l'=>
        rw[h1,h2] at e;cases e;refine(?_ : ∃p vs',_);have ih:=a8S cs hr' h2;unfold WC at h1;split at h1
        · rename_i i uu x toks o' hwh
          cases h1;rw[zB] at hwh;obtain⟨_,hlt,b,hL,hok⟩:=DZ hH hm hr hb hf hwh;cases b with
          | cells t y ts=>
            have hJ:=hr.J c t y ts hL;rw[hp] at hJ;have hJ':uN g W[c]? =some p:=hJ.symm;rw[hwh] at hJ';obtain⟨p0,hp0,rfl⟩:=aQz.1 hJ';exact⟨p0,vs',by rw[(NS hH hm hr hb hf hwh).1];exact hp0,by rw[hv];simp [aQ1],ih⟩
          |_=>exact hok.elim
        · split at h1
          · rename_i hn
            cases h1;obtain⟨h3,h4⟩:=SJ.1 hn;rw[zB] at h4;exact⟨p,vs',by rw[(KU hH hm hr hb hf h3 h4).1];exact hp,hv,ih⟩
          ·cases h1
theorem aHK {s:pA}{u:Value}(h:qJ g' w' s u):qJ (sF g g' base W (pE upd)) w' (QQ base r.H.length W s) u:=by
  obtain⟨d,k⟩:=s
  have tokk: ∀{t:Ty}(hp:t.pure=true) {x:t.den}{k:Option Nat},qJ g' w' (.val t x,k) u→qJ (sF g g' base W (pE upd)) w' (.val t x,I5 base r.H.length W k) u:=by
    intro t hp x k h;cases k with
    |none=>exact SB (g:=g') (g':=sF g g' base W (pE upd)) (k:=none) (k':=none) rfl hp h (fun c e=>by cases e) (fun _=>rfl)
    | some c=>
      simp only[I5,zB];cases hn:zU base r.H.length c W[c]? with
      | some i=>
        refine SB (g:=g') (g':=sF g g' base W (pE upd)) (k:=some c) (k':=some i) rfl hp h (fun c' e=> ?_) (fun e=>by cases e);cases e;refine⟨_,rfl,fun n u hu=> ?_⟩;rw[(IL hH hm hr hb hf hn).2];exact hu
      | none=>
        exact SB (g:=g') (g':=sF g g' base W (pE upd)) (k:=none) (k':=none) rfl hp ⟨h.1,trivial⟩ (fun c e=>by cases e) (fun _=>rfl)
  unfold QQ;split
  · rename_i c m k' heq
    simp only[aQQ] at heq;obtain⟨rfl,rfl⟩:=heq;simp only[I5,zB];cases hn:zU base r.H.length c W[c]? with
    | some i=>
      obtain⟨h3,h4⟩:=h.1;exact⟨⟨by rw[(IL hH hm hr hb hf hn).2];exact h3,h4⟩,trivial⟩
    |none=>exact⟨trivial,trivial⟩
  · rename_i c o k' heq
    simp only[aQQ] at heq;obtain⟨rfl,rfl⟩:=heq;obtain⟨p,hp,hv⟩:=zV h.1;unfold a7c;split
    · rename_i i uu x toks o' hwh
      rw[zB] at hwh;obtain⟨_,hlt,b,hL,hok⟩:=DZ hH hm hr hb hf hwh;cases b with
      | cells t y ts=>
        have hJ:=hr.J c t y ts hL;rw[hp] at hJ;have hJ':uN g W[c]? =some p:=hJ.symm;rw[hwh] at hJ';obtain⟨p0,hp0,rfl⟩:=aQz.1 hJ';refine⟨.inr ⟨rfl,p0,by rw[(NS hH hm hr hb hf hwh).1];exact hp0,?_⟩,trivial⟩;rw[hv];simp [aQ1]
      |_=>exact hok.elim
    · split
      · rename_i hn
        obtain⟨h1,h2⟩:=SJ.1 hn;rw[zB] at h2;exact⟨.inr ⟨rfl,p,by rw[(KU hH hm hr hb hf h1 h2).1];exact hp,by rw[hv]⟩,trivial⟩
      ·exact⟨trivial,trivial⟩
  · rename_i k' heq
    simp only[aQQ] at heq;obtain⟨rfl,rfl⟩:=heq;rcases h.1 with⟨h1,_⟩ |⟨h1,h2⟩
    ·cases h1
    ·exact⟨.inr ⟨h1,h2⟩,trivial⟩
  · rename_i c k' heq
    simp only[aQQ] at heq;obtain⟨rfl,rfl⟩:=heq;simp only[I5,zB];cases hn:zU base r.H.length c W[c]? with
    | some i=>
      obtain⟨p,hp,hv⟩:KJ g' (some c) [u]:=BO rfl h.1;exact⟨.inr ⟨rfl,p,by rw[(IL hH hm hr hb hf hn).1];exact hp,hv⟩,trivial⟩
    |none=>exact⟨trivial,trivial⟩
  · rename_i f cs k' heq
    simp only[aQQ] at heq;obtain⟨rfl,rfl⟩:=heq;cases hc:K6 base r.H.length W cs with
    |none=>exact⟨trivial,trivial⟩
    | some l=>
      rcases h.1 with⟨h1,_⟩ |⟨_,vs,h2,h3⟩
      ·cases h1
      ·exact⟨.inr ⟨rfl,vs,a8S hH hm hr hb hf cs h2 hc,h3⟩,trivial⟩
  · rename_i t x k' hno hno0 hno2 hno3 heq
    simp only[aQQ] at heq;obtain⟨rfl,rfl⟩:=heq;split
    · rename_i hp
      exact tokk hp (a8q h)
    ·exact⟨trivial,trivial⟩
  ·exact⟨trivial,trivial⟩
end
theorem a8T {g:Gh}{w:World}{H:r5}{W:List qB}{L:List p9}(hH:rK g w H) (hm:NR H W L) {bb oo:Nat}(h:yE (tV g W) (pM 0 L) bb oo):
  ∃(c:Nat) (wh:qB) (b blk:p9),W[c]? =some wh/\L[c]? =some b/\r7 (tV g W) c b bb oo/\pC H wh.id=some blk/\r7 g wh.id blk bb oo:=by
 obtain⟨c,b,hc,ho⟩:=h;rw[wN] at hc;have hlt:c<W.length:=hm.len▸(aQA.1 hc).1;have hwh:W[c]? =some W[c]:=aQs hlt;have hw:=hm.ok c _ b hwh hc;refine⟨c,W[c],b,?_⟩;generalize W[c]=wh at hwh hw;cases wh with
 |box i u x toks off=>
  cases b with
  |cells t y ts=>
   obtain⟨h1,⟨y0,h2,h3⟩,h4⟩:=hw;obtain⟨p,hp,e1,e2,e3⟩:=ho;have hp':uN g W[c]? =some p:=hp;rw[hwh] at hp';obtain⟨p0,hp0,rfl⟩:=aQz.1 hp';obtain⟨p1,cs,hp1,hR,_⟩:=hH.blk i _ h1;obtain⟨c1,c2,c3,hcs,hl,hR2⟩:=DX hR h2;have l1:=rS hR;have l2:=rS hR2;rw[hcs] at l1;simp only[aQm] at l1;exact⟨_,hwh,hc,⟨_,hp,e1,e2,e3⟩,h1,p0,hp0,e1,by simp at e2;omega,by simp at e3;omega⟩
  |_=>exact hw.elim
 |tok k=>
  cases b with
  |grow e cc m=>
   obtain⟨v,hv,hb⟩:=ho;have hv':AQ g W[c]? m=some v:=hv;rw[hwh] at hv';exact⟨_,hwh,hc,⟨v,hv,hb⟩,hw,v,hv',hb⟩
  |map s t l=>
   obtain⟨p,hp,hb⟩:=ho;have hp':uN g W[c]? =some p:=hp;rw[hwh] at hp';exact⟨_,hwh,hc,⟨p,hp,hb⟩,hw.1,p,hp',hb⟩
  |row e t l m=>
   obtain⟨v,hv,hb⟩:=ho;have hv':AQ g W[c]? m=some v:=hv;rw[hwh] at hv';exact⟨_,hwh,hc,⟨v,hv,hb⟩,hw.1,v,hv',hb⟩
  |_=>exact hw.elim
section
variable {g g':Gh}{w w':World}{H:r5}{W:List qB}{L:List p9}{r:pF}{v:Value}{base:Nat}{upd:List (Nat×p9)}
variable (hH:rK g w H) (hm:NR H W L) (hr:IJ (tV g W) w L r g' w' v) (hb:AM base r.H.length W 0 W r.H=some upd) (hf: ∀i,i∈pE upd->base<=i->g.J i=none/\∀n,g.cur i n=none)
include hH hm hr hb hf
theorem Y8 {b o:Nat}(h:yE (tV g W) (pM 0 L) b o):rY g H (pE upd) b o:=by
 obtain⟨c,wh,b0,blk,h1,h2,h3,h4,h5⟩:=a8T hH hm h;exact⟨wh.id,blk,(DZ hH hm hr hb hf h1).1,h4,h5⟩
theorem aHL:Fr (rY g H (pE upd)) w w' g.S (sF g g' base W (pE upd)).S:=hr.fr.mono fun _ _ h=>Y8 hH hm hr hb hf h
theorem SM {id:Nat}{b:p9}(hi:id∈pE upd) (hg:pC (pO upd H) id=some b):GM base r.H.length W W r.H 0 id b:=by
 obtain⟨_,k2,k3,_⟩:=KT hb;obtain⟨b',hb'⟩:=k3 id hi;have:pC (pO upd H) id=some b':=by
  have: ∀{u:List (Nat×p9)},pC u id=some b'->pC (pO u H) id=some b':=by
   intro u
   induction u with
   |nil=>intro h;cases h
   |cons q u ih=>
    intro h;simp only[pO,pC] at h⊢;split
    ·rename_i e;rw[aQj e] at h;exact h
    ·rename_i e;rw[aQl e] at h;exact ih h
  exact this hb'
 rw[this] at hg;obtain rfl:=aQo hg;exact k2 id b' hb'
theorem Y9 {c i o:Nat}{u:Ty}{x:u.den}{toks:List (Nat×Nat)}{b0 b:p9}(hW:W[c]? =some (.box i u x toks o)) (hR:r.H[c]? =some b0) (hbb:w8 base r.H.length i o W u x toks b0=some (i,b)):
  z6 (sF g g' base W (pE upd)) w' i b/\(∀bb oo,r7 (sF g g' base W (pE upd)) i b bb oo->r7 g i (.cells u x toks) bb oo/\pC H i=some (.cells u x toks))/\
   ∀bb oo,r7 (sF g g' base W (pE upd)) i b bb oo->r7 g' c b0 bb oo\/(bb<w.heap.size/\¬yE (tV g W) (pM 0 L) bb oo):=by
 obtain⟨hin,hlt,bL,hL,hok⟩:=DZ hH hm hr hb hf hW;have hJi:=(NS hH hm hr hb hf hW).1;have hle:=a8P hH hm hr hb hf;cases bL with
 |grow=>exact hok.elim
 |row=>exact hok.elim
 |map=>exact hok.elim
 |iter=>exact hok.elim
 |dead=>exact hok.elim
 |cells tL yL tsL=>
  obtain⟨h1,h2,h4⟩:=hok;obtain⟨p,cs,hp,hRd,hra,hth,hns,htk⟩:=hH.blk i _ h1;cases b0 with
  |grow=>simp [w8] at hbb
  |row=>simp [w8] at hbb
  |map=>simp [w8] at hbb
  |iter=>simp [w8] at hbb
  |dead=>
   simp only[w8,aQk,aQQ,true_and] at hbb;subst hbb;exact⟨trivial,fun _ _ h=>h.elim,fun _ _ h=>h.elim⟩
  |cells t y ts=>
   have htt:=hr.ty c _ _ _ _ _ _ hL hR;subst htt;obtain⟨y2,z,hbY,hset,hq⟩:=Y6 hbb
   ·simp only[aQQ,true_and] at hq;subst hq;have hblk:=hr.heap.blk c _ (by rw[wN];exact hR);obtain⟨p',cs',hp',hRd',hra',hth',hns',htk'⟩:=hblk;have hJc:=hr.J c _ _ _ hL;have hpc:g'.J c=some ⟨p.1,p.2+o,p.3⟩:=by
     rw[hJc];show uN g W[c]? =_;rw[hW];simp [uN,hp]
    rw[hpc] at hp';obtain rfl:=aQo hp';have hRdx:Rd (sF g g' base W (pE upd)) w' u x cs:=wC hle hRd;have hRdy:Rd (sF g g' base W (pE upd)) w' t y2 cs':=a8Q hH hm hr hb hf hRd' hbY;obtain⟨c1,c2,c3,hcs,hl1,hl2,hz⟩:=RW hRdy hRdx hset;subst hcs;subst hl1;have l0:=rS hRd;have l1:=rS hRd';simp only[aQm] at l0;have hfar: ∀q,q<u.cells->¬(c1.length<=q/\q<c1.length+t.cells)->¬yE (tV g W) (pM 0 L) p.1 (p.2+q):=by
     intro q hq hno hown;obtain⟨c',wh',b',blk',k1,k2,k3,k4,k5⟩:=a8T hH hm hown;by_cases hcc:c'=c
     ·subst hcc;rw[hW] at k1;obtain rfl:=aQo k1;rw[hL] at k2;obtain rfl:=aQo k2;obtain⟨pp,hpp,e1,e2,e3⟩:=k3;have hpp':uN g W[c']? =some pp:=hpp;rw[hW] at hpp';simp only[uN,hp,Option.map_some,aQk] at hpp';subst hpp';simp only at e2 e3;exact hno ⟨by omega,by omega⟩
     ·have hid:wh'.id≠i:=fun e=>hcc (SG hm.nodup k1 hW e);exact hH.dis wh'.id i blk' _ p.1 (p.2+q) hid k4 h1 k5 ⟨p,hp,rfl,by omega,by omega⟩
    have hlt': ∀q,q<u.cells->p.1<w.heap.size:=fun q hq=>NH (hH.blk i _ h1) (b:=p.1) (o:=p.2+q) ⟨p,hp,rfl,by omega,by omega⟩;have hkeep: ∀q,q<u.cells->¬(c1.length<=q/\q<c1.length+t.cells)->w'.cell? ⟨p.1,p.2+q,none⟩=w.cell? ⟨p.1,p.2+q,none⟩/\w'.frozen? ⟨p.1,p.2+q,none⟩=w.frozen? ⟨p.1,p.2+q,none⟩:=fun q hq hno=>hr.fr.cell _ _ (hlt' q hq) (hfar q hq hno);refine⟨⟨p,c1++cs'++c3,by rw[hJi];exact hp,hz,fun q vv hv=> ?_,⟨fun q hq=> ?_,fun h0 s hs=> ?_⟩,fun q hq hs=> ?_,?_⟩,fun bb oo ho=>⟨?_,h1⟩,fun bb oo ho=> ?_⟩
    ·by_cases a1:q<c1.length
     ·rw[(hkeep q (by omega) (by omega)).1];refine hra q vv ?_;rw[aQt,aQE a1] at hv⊢;exact hv
     ·by_cases a2:q<c1.length+t.cells
      ·rw[aQt,aQv (by omega),aQE (by omega)] at hv;have:=hra' (q-c1.length) vv hv;rwa [show p.2+c1.length+(q-c1.length)=p.2+q from by omega] at this
      ·rw[aQt,aQv (by omega),aQv (by omega)] at hv;have hq:q<u.cells:=by
        have:=(aQA.1 hv).1;omega
       rw[(hkeep q hq (by omega)).1];refine hra q vv ?_;rw[aQt,aQv (by omega),aQv (by omega),hl2];rw[l1] at hv;exact hv
    ·by_cases a1:c1.length<=q/\q<c1.length+t.cells
     ·have:=hth'.1 (q-c1.length) (by omega);rwa [show p.2+c1.length+(q-c1.length)=p.2+q from by omega] at this
     ·rw[(hkeep q hq a1).1,(hkeep q hq a1).2];exact hth.1 q hq
    ·by_cases ht0:0<t.cells
     ·exact hth'.2 ht0 s hs
     ·exact(hr.fr.shape p.1 s (hth.2 h0 s hs)).resolve_right fun h=>hfar 0 h0 (by omega) (h (p.2+0))
    ·by_cases a1:c1.length<=q/\q<c1.length+t.cells
     ·exact hns' (q-c1.length) (by omega) (by rw[show p.2+c1.length+(q-c1.length)=p.2+q from by omega];exact hs)
     ·rcases hr.fr.new _ _ hs with k|k|k
      ·exact hns q hq k
      ·have:=hlt' q hq;omega
      ·exact hfar q hq a1 k
    ·intro q kk hmem;rcases vH.1 hmem with hmem|hmem
     ·obtain⟨q',c',k1,k2,rfl⟩:=SL hmem;rw[zB] at k2;obtain⟨u',l,vv,g1,g2,g3⟩:=htk' q' c' k1;have hq':=a8i g1;refine⟨u',l,vv,a8h hset (a8R hbY g1) hq',?_,?_⟩
      ·rw[aQt,aQv (by omega),aQ4,aQE (by omega)];exact g2
      ·rw[(IL hH hm hr hb hf k2).2];exact g3
     ·obtain⟨k1,k2⟩:=Y7 hmem;obtain⟨u',l,vv,g1,g2,g3⟩:=htk q kk k1;refine⟨u',l,vv,a78 hH hset g1 k2,?_,hle.cur _ _ _ g3⟩;rcases aRV q c1.length with a1|a1
      ·rw[aQt,aQE a1] at g2⊢;exact g2
      ·rw[aQt,aQv (by omega),aQv (by omega)] at g2⊢;rw[l1];rw[hl2] at g2;exact g2
    ·obtain⟨pp,hpp,e1,e2,e3⟩:=ho;rw[hJi,hp] at hpp;obtain rfl:=aQo hpp;exact⟨p,hp,e1,e2,e3⟩
    ·obtain⟨pp,hpp,e1,e2,e3⟩:=ho;rw[hJi,hp] at hpp;obtain rfl:=aQo hpp;subst e1;by_cases a1:c1.length<=oo-p.2/\oo-p.2<c1.length+t.cells
     ·exact .inl ⟨_,hpc,rfl,by simp only;omega,by simp only;omega⟩
     ·right;refine⟨hlt' (oo-p.2) (by omega),?_⟩;have:=hfar (oo-p.2) (by omega) a1;rwa [show p.2+(oo-p.2)=oo from by omega] at this
theorem YA {c:Nat}{b0 b:p9}(hn:W[c]? =none) (hR:r.H[c]? =some b0) (hbn:CS base r.H.length c W b0=some (base+c,b)):
  z6 (sF g g' base W (pE upd)) w' (base+c) b/\∀bb oo,r7 (sF g g' base W (pE upd)) (base+c) b bb oo->r7 g' c b0 bb oo:=by
 have hc:=(aQA.1 hR).1;obtain⟨hJ,hcur⟩:=KU hH hm hr hb hf hc hn;have hblk:=hr.heap.blk c _ (by rw[wN];exact hR);cases b0 with
 |dead=>
  simp only[CS,aQk,aQQ,true_and] at hbn;subst hbn;exact⟨trivial,fun _ _ h=>h.elim⟩
 |grow e m k=>
  simp only[CS,aQk,aQQ,true_and] at hbn;subst hbn;obtain⟨u,xs,hv,h1,h2,h3⟩:=hblk;exact⟨⟨u,xs,by rw[hcur];exact hv,h1,fun m hm'=>by rw[hcur];exact h2 m hm',h3⟩,fun bb oo ⟨v',hv',hb'⟩=>⟨v',by rw[hcur] at hv';exact hv',hb'⟩⟩
 |row e t l n=>
  simp only[CS] at hbn;split at hbn
  ·rename_i hp;simp only[aQk,aQQ,true_and] at hbn;subst hbn;obtain⟨h0,u,xs,hv,h1,h4,h2,h3⟩:=hblk;exact⟨⟨h0,u,xs,by rw[hcur];exact hv,h1,C9 (fun _ _ h=>uF (g:=g') (g':=sF g g' base W (pE upd)) rfl hp h) h4,fun m hm'=>by rw[hcur];exact h2 m hm',h3⟩,fun bb oo ⟨v',hv',hb'⟩=>⟨v',by rw[hcur] at hv';exact hv',hb'⟩⟩
  ·cases hbn
 |iter s n=>simp [CS] at hbn
 |map k v l=>
  simp only[CS] at hbn;split at hbn
  ·rename_i hp;rw[aQr] at hp;simp only[aQk,aQQ,true_and] at hbn;subst hbn;obtain⟨p,es,cl,hp1,hp0,hh,hM,hS⟩:=hblk;exact⟨⟨p,es,cl,by rw[hJ];exact hp1,hp0,hh,ND (g:=g') (g':=sF g g' base W (pE upd)) rfl hp.1 hp.2 hM,hS⟩,fun bb oo ⟨pp,hpp,e⟩=>⟨pp,by rw[hJ] at hpp;exact hpp,e⟩⟩
  ·cases hbn
 |cells t y ts=>
  have vP: ∀y2,bY base r.H.length W t y y2->z6 (sF g g' base W (pE upd)) w' (base+c) (.cells t y2 (CR base r.H.length W 0 ts))/\∀bb oo,r7 (sF g g' base W (pE upd)) (base+c) (.cells t y2 (CR base r.H.length W 0 ts)) bb oo->r7 g' c (.cells t y ts) bb oo:=by
   intro y2 hbY;obtain⟨p,cs,hp1,hR1,h1,h2,h3,h4⟩:=hblk;refine⟨⟨p,cs,by rw[hJ];exact hp1,a8Q hH hm hr hb hf hR1 hbY,h1,h2,h3,fun q kk hmem=> ?_⟩,fun bb oo ⟨pp,hpp,e⟩=>⟨pp,by rw[hJ] at hpp;exact hpp,e⟩⟩;obtain⟨q',c',k1,k2,rfl⟩:=SL hmem;rw[zB] at k2;obtain⟨u',l,vv,g1,g2,g3⟩:=h4 q' c' k1;exact⟨u',l,vv,by rw[aQV];exact a8R hbY g1,by rw[aQV];exact g2,by rw[(IL hH hm hr hb hf k2).2];exact g3⟩
  simp only[CS] at hbn;split at hbn
  ·rename_i hp;simp only[aQk,aQQ,true_and] at hbn;subst hbn;exact vP y (.inl ⟨hp,rfl⟩)
  ·obtain⟨y2,hy,hq⟩:=a8M hbn;simp only[aQQ,true_and] at hq;subst hq;exact vP y2 (.inr hy)
theorem YB {c k:Nat}{b0 b:p9}(hW:W[c]? =some (.tok k)) (hR:r.H[c]? =some b0) (hbk:yW k b0=some (k,b)):
  z6 (sF g g' base W (pE upd)) w' k b/\∀bb oo,r7 (sF g g' base W (pE upd)) k b bb oo->r7 g' c b0 bb oo:=by
 obtain⟨hJ,hcur⟩:=a8O hH hm hr hb hf hW;have hblk:=hr.heap.blk c _ (by rw[wN];exact hR);cases b0 with
 |dead=>
  simp only[yW,aQk,aQQ,true_and] at hbk;subst hbk;exact⟨trivial,fun _ _ h=>h.elim⟩
 |grow e m n=>
  simp only[yW,aQk,aQQ,true_and] at hbk;subst hbk;obtain⟨u,xs,hv,h1,h2,h3⟩:=hblk;exact⟨⟨u,xs,by rw[hcur];exact hv,h1,fun m hm'=>by rw[hcur];exact h2 m hm',h3⟩,fun bb oo ⟨v',hv',hb'⟩=>⟨v',by rw[hcur] at hv';exact hv',hb'⟩⟩
 |row e t l n=>
  simp only[yW] at hbk;split at hbk
  ·rename_i hp;simp only[aQk,aQQ,true_and] at hbk;subst hbk;obtain⟨h0,u,xs,hv,h1,h4,h2,h3⟩:=hblk;exact⟨⟨h0,u,xs,by rw[hcur];exact hv,h1,C9 (fun _ _ h=>uF (g:=g') (g':=sF g g' base W (pE upd)) rfl hp h) h4,fun m hm'=>by rw[hcur];exact h2 m hm',h3⟩,fun bb oo ⟨v',hv',hb'⟩=>⟨v',by rw[hcur] at hv';exact hv',hb'⟩⟩
  ·cases hbk
 |iter s n=>simp [yW] at hbk
 |map s v l=>
  simp only[yW] at hbk;split at hbk
  ·rename_i hp;rw[aQr] at hp;simp only[aQk,aQQ,true_and] at hbk;subst hbk;obtain⟨p,es,cl,hp1,hp0,hh,hM,hS⟩:=hblk;exact⟨⟨p,es,cl,by rw[hJ];exact hp1,hp0,hh,ND (g:=g') (g':=sF g g' base W (pE upd)) rfl hp.1 hp.2 hM,hS⟩,fun bb oo ⟨pp,hpp,e⟩=>⟨pp,by rw[hJ] at hpp;exact hpp,e⟩⟩
  ·cases hbk
 |cells t y ts=>simp [yW] at hbk
theorem aHM {side:List Prop}{s:pA}{rds:List Nat}{vv:Value}(hs:qJ (sF g g' base W (pE upd)) w' s vv):qW g w H ⟨side,s,upd,rds⟩ (sF g g' base W (pE upd)) w' vv:=by
 have le:=a8P hH hm hr hb hf;have fr:=aHL hH hm hr hb hf;have gho: ∀i,i∉pE upd->(sF g g' base W (pE upd)).J i=g.J i/\(sF g g' base W (pE upd)).cur i=g.cur i:=fun i hi=>
  a8N hH hm hr hb hf (fun h=>hi h.2) (SK fun c hc=>hi ((DZ hH hm hr hb hf hc).1))
 have perm: ∀i blk b o,i∈pE upd->pC (pO upd H) i=some blk->r7 (sF g g' base W (pE upd)) i blk b o->w.heap.size<=b\/rY g H (pE upd) b o:=by
  intro i blk b o hi hg ho;rcases SM hH hm hr hb hf hi hg with⟨c,i',u,x,toks,off,b0,h1,h2,h3,h4⟩ |⟨c,k,b0,h1,h2,h3,h4⟩ |⟨c,b0,h1,h2,h3,h4⟩
  ·subst h2;obtain⟨_,k2,_⟩:=Y9 hH hm hr hb hf h1 h3 h4;exact .inr ⟨i,_,hi,(k2 b o ho).2,(k2 b o ho).1⟩
  ·subst h2;obtain⟨_,k2⟩:=YB hH hm hr hb hf h1 h3 h4;exact(hr.perm c b0 b o h3 (k2 b o ho)).imp id fun h=>Y8 hH hm hr hb hf h
  ·rw[aQV] at h2 h4;subst h2;obtain⟨_,k2⟩:=YA hH hm hr hb hf h3 h1 h4;exact(hr.perm c b0 b o h1 (k2 b o ho)).imp id fun h=>Y8 hH hm hr hb hf h
 refine⟨le,hs,hH.upd le fr perm gho (fun i blk hi hg=> ?_) (fun i j bi bj b o hi hj hij hgi hgj hoi hoj=> ?_) (fun b o h=>hr.heap.sl b o h),fr,perm,gho,fun i u' y us h=> ?_⟩
 ·rcases SM hH hm hr hb hf hi hg with⟨c,i',u,x,toks,off,b0,h1,h2,h3,h4⟩ |⟨c,k,b0,h1,h2,h3,h4⟩ |⟨c,b0,h1,h2,h3,h4⟩
  ·subst h2;exact(Y9 hH hm hr hb hf h1 h3 h4).1
  ·subst h2;exact(YB hH hm hr hb hf h1 h3 h4).1
  ·rw[aQV] at h2 h4;subst h2;exact(YA hH hm hr hb hf h3 h1 h4).1
 ·have cls: ∀{i:Nat}{blk:p9},i∈pE upd->pC (pO upd H) i=some blk->r7 (sF g g' base W (pE upd)) i blk b o->
    (∃c u x toks off b0,W[c]? =some (.box i u x toks off)/\r.H[c]? =some b0/\r7 g i (.cells u x toks) b o/\pC H i=some (.cells u x toks)/\(r7 g' c b0 b o\/(b<w.heap.size/\¬yE (tV g W) (pM 0 L) b o)))\/
    (∃c b0,zU base r.H.length c W[c]? =some i/\r.H[c]? =some b0/\r7 g' c b0 b o):=by
   intro i blk hi hg ho;rcases SM hH hm hr hb hf hi hg with⟨c,i',u,x,toks,off,b0,h1,h2,h3,h4⟩ |⟨c,k,b0,h1,h2,h3,h4⟩ |⟨c,b0,h1,h2,h3,h4⟩
   ·subst h2;obtain⟨_,k2,k3⟩:=Y9 hH hm hr hb hf h1 h3 h4;exact .inl ⟨c,u,x,toks,off,b0,h1,h3,(k2 b o ho).1,(k2 b o ho).2,k3 b o ho⟩
   ·subst h2;obtain⟨_,k2⟩:=YB hH hm hr hb hf h1 h3 h4;exact .inr ⟨c,b0,by rw[h1];rfl,h3,k2 b o ho⟩
   ·rw[aQV] at h2 h4;subst h2;obtain⟨_,k2⟩:=YA hH hm hr hb hf h3 h1 h4;exact .inr ⟨c,b0,by rw[h3];simp only[zU];rw[aQj (aQA.1 h1).1],h1,k2 b o ho⟩
  have cross: ∀{c c':Nat}{b0 b1:p9},c≠c'->r.H[c]? =some b0->r.H[c']? =some b1->r7 g' c b0 b o->r7 g' c' b1 b o->False:=fun hne h1 h2 o1 o2=>
   hr.heap.dis _ _ _ _ b o hne (by rw[wN];exact h1) (by rw[wN];exact h2) o1 o2
  rcases cls hi hgi hoi with⟨c,u,x,toks,off,b0,h1,h2,h3,h4,h5⟩ |⟨c,b0,h1,h3,h4⟩<;>rcases cls hj hgj hoj with⟨c',u',x',toks',off',b0',k1,k2,k3,k4,k5⟩ |⟨c',b0',k1,k3,k4⟩
  ·exact hH.dis i j _ _ b o hij h4 k4 h3 k3
  ·rcases h5 with h5|⟨h5,h6⟩
   ·exact cross (fun e=>by subst e;rw[h1] at k1;cases k1) h2 k3 h5 k4
   ·rcases hr.perm c' b0' b o k3 k4 with h|h
    ·omega
    ·exact h6 h
  ·rcases k5 with k5|⟨k5,k6⟩
   ·exact cross (fun e=>by subst e;rw[k1] at h1;cases h1) h3 k2 h4 k5
   ·rcases hr.perm c b0 b o h3 h4 with h|h
    ·omega
    ·exact k6 h
  ·exact cross (fun e=>by subst e;rw[h1] at k1;exact hij (aQo k1)) h3 k3 h4 k4
 ·by_cases hi:i∈pE upd
  ·rcases SM hH hm hr hb hf hi h with⟨c,i',u,x,toks,off,b0,h1,h2,h3,h4⟩ |⟨c,k,b0,h1,h2,h3,h4⟩ |⟨c,b0,h1,h2,h3,h4⟩
   ·subst h2;obtain⟨_,_,bL,hL,hok⟩:=DZ hH hm hr hb hf h1;cases b0 with
    |cells t y0 ts=>
     obtain⟨y2,z,_,hset,hq⟩:=Y6 h4;simp only[aQQ,p9.cells.injEq,true_and] at hq;obtain⟨rfl,_⟩:=hq;cases bL with
     |cells=>exact .inl ⟨x,toks,hok.1⟩
     |_=>exact hok.elim
    |grow=>simp [w8] at h4
    |row=>simp [w8] at h4
    |map=>simp [w8] at h4
    |iter=>simp [w8] at h4
    |dead=>simp [w8] at h4
   ·cases b0 with
    |cells t y0 ts=>simp [yW] at h4
    |iter=>simp [yW] at h4
    |map=>simp only[yW] at h4;split at h4<;>simp at h4
    |row=>simp only[yW] at h4;split at h4<;>simp at h4
    |_=>simp [yW] at h4
   ·rw[aQV] at h2;exact .inr (hf i hi (by omega))
  ·exact .inl ⟨y,us,(BN hi).symm.trans h⟩
end
section
variable {P:Program}{g:Gh}{w:World}
def aHN (P:Program) (g:Gh) (w:World) (d:Nat) (ty:Ty) (x y:ty.den):XC->Prop
 | .ty t=> ∀vx vy,s9 g w ty x vx->s9 g w ty y vy->∃b,BE ty x y=some b/\(Op.equalIn (d+1) t vx vy).run P w= .ok b w
 | .fs o l=> ∀px py cx cy,px.length=o->py.length=o->Rd g w ty x cx->Rd g w ty y cy->∃b,BE ty x y=some b/\(Op.eqFields (d+1) (px++cx).toArray (py++cy).toArray l).run P w= .ok b w
 | .el e i m=> ∀px py cx cy,px.length=i*P.cellsOf e->py.length=i*P.cellsOf e->Rd g w ty x cx->Rd g w ty y cy->∃b,BE ty x y=some b/\(Op.eqItems (d+1) e (P.cellsOf e) (px++cx).toArray (py++cy).toArray (List.range' i m)).run P w= .ok b w
theorem aHO {e:TypeId}{n:Nat}(h:(P.info? e).map (·.size)=some n):P.cellsOf e=n:=by
 obtain⟨i,h1,h2⟩:=aQz.1 h;simp [Program.cellsOf,h1,h2]
theorem xD.run {n:Nat}{ix:XC}{ty:Ty}(h:xD P n ix ty): ∀(d:Nat),n<=d->∀x y:ty.den,aHN P g w d ty x y ix:=by
 induction h with
 |bool hu=>
  intro d _ x y vx vy hx hy;obtain rfl:=vU hx;obtain rfl:=vU hy;exact⟨_,rfl,run_equalIn_bool' w d _ _ _ hu⟩
 |int hu=>
  intro d _ x y vx vy hx hy;obtain rfl:=uM hx;obtain rfl:=uM hy;refine⟨_,rfl,(run_equalIn_int w d _ _ _ _ _ hu).trans ?_⟩;congr 1
 |str hu=>
  intro d _ x y vx vy hx hy;obtain rfl:=xT hx;obtain rfl:=xT hy;refine⟨_,rfl,(run_equalIn_string w d _ _ _ hu).trans ?_⟩;congr 1;rw[ByteArray.toList_eq,ByteArray.toList_eq];exact NK _ _
 | @struct h0 t0 fs0 ty0 hr hu hs _ ih=>
  intro d hd x y vx vy hx hy;obtain⟨cx,rfl,rx⟩:=IH hr hx;obtain⟨cy,rfl,ry⟩:=IH hr hy;obtain⟨d,rfl⟩: ∃d',d=d'+1:=⟨d-1,by omega⟩;obtain⟨b,h1,h2⟩:=ih d (by omega) x y [] [] cx cy rfl rfl rx ry;refine⟨b,h1,?_⟩;have hf:P.fieldsOf t0=fs0:=by unfold Program.fieldsOf;rw[hu]
  rw[run_equalIn_struct w _ _ _ _ (by rw[hf];exact hu) hs,hf];simpa using h2
 |arr hr hu hi _ ih=>
  intro d hd x y vx vy hx hy;obtain⟨cx,rfl,rx⟩:=IH hr hx;obtain⟨cy,rfl,ry⟩:=IH hr hy;obtain⟨d,rfl⟩: ∃d',d=d'+1:=⟨d-1,by omega⟩;obtain⟨b,h1,h2⟩:=ih d (by omega) x y [] [] cx cy (by simp) (by simp) rx ry;refine⟨b,h1,?_⟩;obtain⟨i,hi⟩:=aQn.1 hi;rw[run_equalIn_array w _ _ _ hu hi,List.range_eq_range'];simpa using h2
 |nil=>
  intro d _ x y px py cx cy _ _ _ _;exact⟨true,rfl,by simp [Op.eqFields]⟩
 |anil=>
  intro d _ x y px py cx cy _ _ _ _;exact⟨true,rfl,by simp [Op.eqItems]⟩
 | @cons h o f r a b hn ho hsz hrow _ _ iha ihb=>
  intro d hd x y px py cx cy hpx hpy ⟨x1,x2,ex,rx1,rx2⟩ ⟨y1,y2,ey,ry1,ry2⟩;subst ex;subst ey;obtain⟨vx,p1,v1⟩:=NL (P:=P) (c1:=px) (c3:=x2) hsz hrow rx1;obtain⟨vy,p2,v2⟩:=NL (P:=P) (c1:=py) (c3:=y2) hsz hrow ry1;obtain⟨b1,e1,r1⟩:=iha d hd x.1 y.1 vx vy v1 v2;obtain⟨b2,e2,r2⟩:=ihb d hd x.2 y.2 (px++x1) (py++y1) x2 y2 (by rw[aQm,hpx,rS rx1]) (by rw[aQm,hpy,rS ry1]) rx2 ry2;refine⟨b1&&b2,by simp only[BE,e1,e2,BE.eqAnd],?_⟩;rw[aQt] at p1 p2 r2;rw[aQt] at r2;rw[hpx,<-ho] at p1;rw[hpy,<-ho] at p2;simp only[Op.eqFields,aQj hn,aQB,p1,p2,aQu,r1];cases b1
  ·simp
  ·simpa using r2
 | @acons h e i m a b hsz hrow _ _ iha ihb=>
  intro d hd x y px py cx cy hpx hpy ⟨x1,x2,ex,rx1,rx2⟩ ⟨y1,y2,ey,ry1,ry2⟩;subst ex;subst ey;have hc:=aHO hsz;obtain⟨vx,p1,v1⟩:=NL (P:=P) (c1:=px) (c3:=x2) hsz hrow rx1;obtain⟨vy,p2,v2⟩:=NL (P:=P) (c1:=py) (c3:=y2) hsz hrow ry1;obtain⟨b1,e1,r1⟩:=iha d hd x.1 y.1 vx vy v1 v2;obtain⟨b2,e2,r2⟩:=ihb d hd x.2 y.2 (px++x1) (py++y1) x2 y2 (by rw[aQm,hpx,rS rx1,hc,aRn]) (by rw[aQm,hpy,rS ry1,hc,aRn]) rx2 ry2;refine⟨b1&&b2,by simp only[BE,e1,e2,BE.eqAnd],?_⟩;rw[aQt] at p1 p2 r2;rw[aQt] at r2;rw[hpx] at p1;rw[hpy] at p2;simp only[aR4,Op.eqItems,aQB,p1,p2,aQu,r1];cases b1
  ·simp
  ·simpa using r2
variable {o:Oper}{a:Act}{H:r5}{T:rQ}(hT:vT P T) (hH:rK g w H)
include hT hH
theorem aHP {op:BinOp}{xt yt:TypeId}{x y:Operand}(ho:o.op= .binOp op xt x y yt) {sx sy:pA}(hx:qJ g w sx (a.eval x)) (hy:qJ g w sy (a.eval y)) {e:pJ}
  (hr:AJ (W7 (qQ T xt) op sx sy)=some e):qD P o a g w H e:=by
 obtain⟨q,hq,rfl⟩:=II hr;have go: ∀{u v:Value},a.eval x=u->a.eval y=v->(∃z,(do eqGuard op xt x y u v;Go.binOp op xt u v:Sem Value).run P w= .ok z w/\yZ g w q.2 z)->qD P o a g w H ⟨q.1,(q.2,none),[],[]⟩:=by
  rintro u v rfl rfl ⟨z,hz,hd⟩;refine qD.pure hH (v:=z) ?_ hd;unfold execOp;rw[ho];simp only[aQB,aQN] at hz⊢;rw[hz];rfl
 replace hx:=hx.1;replace hy:=hy.1;generalize hti:qQ T xt=oti at hq;unfold W7 at hq;split at hq
 ·rename_i u el by' ar ls_ t l k k';have hd:=(s5 hT hti).2;simp only[xE] at hd;obtain⟨ax,cx,ex,hle,hll⟩:=D0 hx;have hnil:ax=none->l=[]:=fun h=>by
   rcases hll with h1|⟨b,o,h1,_⟩
   ·exact h1
   ·rw[h] at h1;cases h1
  have ey:a.eval y= .slice none 0 0:=hy;refine go ex ey ?_;unfold QI at hq;split at hq
  ·cases hq;have h1:(do eqGuard .eql xt x y (.slice ax (List.length l) cx) (.slice none 0 0);Go.binOp .eql xt (.slice ax (List.length l) cx) (.slice none 0 0):Sem Value).run P w= .ok (.bool ax.isNone) w:=by
    simp only[aQB];rw[show (eqGuard .eql xt x y (.slice ax (List.length l) cx) (.slice none 0 0)).run P w= .ok () w from by simp [eqGuard]];exact Lib.run_eql_slice_nil (P:=P) w xt _ ax (List.length l) cx 0 0 hd.1
   exact⟨_,h1,_,rfl,fun h=>hnil (by simpa using h),fun _=>trivial⟩
  ·cases hq;have h1:(do eqGuard .neq xt x y (.slice ax (List.length l) cx) (.slice none 0 0);Go.binOp .neq xt (.slice ax (List.length l) cx) (.slice none 0 0):Sem Value).run P w= .ok (.bool (!ax.isNone)) w:=by
    simp only[aQB];rw[show (eqGuard .neq xt x y (.slice ax (List.length l) cx) (.slice none 0 0)).run P w= .ok () w from by simp [eqGuard]];exact run_neq_slice_nil_any (P:=P) w xt _ ax (List.length l) cx 0 0 hd.1
   exact⟨_,h1,_,rfl,fun _=>trivial,fun h=>hnil (by simpa using h)⟩
  ·cases hq
 ·rename_i u el by' ar ls_ k t l k';have hd:=(s5 hT hti).2;simp only[xE] at hd;obtain⟨ay,cy,ey,hle,hll⟩:=D0 hy;have hnil:ay=none->l=[]:=fun h=>by
   rcases hll with h1|⟨b,o,h1,_⟩
   ·exact h1
   ·rw[h] at h1;cases h1
  have ex:a.eval x= .slice none 0 0:=hx;refine go ex ey ?_;unfold QI at hq;split at hq
  ·cases hq;have h1:(do eqGuard .eql xt x y (.slice none 0 0) (.slice ay (List.length l) cy);Go.binOp .eql xt (.slice none 0 0) (.slice ay (List.length l) cy):Sem Value).run P w= .ok (.bool ay.isNone) w:=by
    simp only[aQB];rw[show (eqGuard .eql xt x y (.slice none 0 0) (.slice ay (List.length l) cy)).run P w= .ok () w from by simp [eqGuard]];exact run_eql_nil_slice (P:=P) w xt _ ay (List.length l) cy 0 0 hd.1
   exact⟨_,h1,_,rfl,fun h=>hnil (by simpa using h),fun _=>trivial⟩
  ·cases hq;have h1:(do eqGuard .neq xt x y (.slice none 0 0) (.slice ay (List.length l) cy);Go.binOp .neq xt (.slice none 0 0) (.slice ay (List.length l) cy):Sem Value).run P w= .ok (.bool (!ay.isNone)) w:=by
    simp only[aQB];rw[show (eqGuard .neq xt x y (.slice none 0 0) (.slice ay (List.length l) cy)).run P w= .ok () w from by simp [eqGuard]];exact run_neq_nil_slice (P:=P) w xt _ ay (List.length l) cy 0 0 hd.1
   exact⟨_,h1,_,rfl,fun _=>trivial,fun h=>hnil (by simpa using h)⟩
  ·cases hq
 ·rename_i u el b ar ls_ t x' k t' y' k';unfold a66 at hq;split at hq
  ·rename_i htt;subst htt;split at hq
   ·rename_i hc;obtain⟨rfl,hc⟩:=hc;simp only[sU] at hq;obtain⟨r,hr1,hr2⟩: ∃r,BE t' x' y'=some r/\((op= .eql/\q=([],.val .bool r))\/(op= .neq/\q=([],.val .bool (!r)))):=by
     generalize hgen:BE t' x' y'=od at hq;unfold a65 at hq;split at hq
     ·rename_i r;cases hq;exact⟨r,rfl,.inl ⟨rfl,rfl⟩⟩
     ·rename_i r;cases hq;exact⟨r,rfl,.inr ⟨rfl,rfl⟩⟩
     ·cases hq
    have hti':=s5 hT hti;rcases hc with rfl|⟨hrow,rfl⟩
    ·have hd:=hti'.2;simp only[xE] at hd;obtain hbx:=vU hx;obtain hby:=vU hy;refine go hbx hby ?_;have hrr:r=(x'==y'):=(aQo hr1).symm;subst hrr;have hrun:=run_equalIn_bool' (P:=P) w 9999 xt x' y' hd;rcases hr2 with⟨rfl,rfl⟩ |⟨rfl,rfl⟩
     ·refine⟨.bool (x'==y'),?_,vC _ _ _⟩;simp only[aQB];rw[show (eqGuard .eql xt x y (.bool x') (.bool y')).run P w= .ok () w from by simp [eqGuard]];simp only[aQu,Go.binOp,Op.equal,Op.maxDepth,aQB,hrun,aQN]
     ·refine⟨.bool (!(x'==y')),?_,vC _ _ _⟩;simp only[aQB];rw[show (eqGuard .neq xt x y (.bool x') (.bool y')).run P w= .ok () w from by simp [eqGuard]];simp only[aQu,Go.binOp,Op.equal,Op.maxDepth,aQB,hrun,aQN]
    ·have h2:=hti'.2;have heq:P.eqGuardType P.depth xt=false/\∃h,h<9000/\xD P h (.ty xt) t':=by
      unfold xE at h2;cases t'<;>simp only[Ty.isRow,aRC] at hrow
      all_goals exact h2.2 rfl
     obtain⟨hg1,hh,hlt,hE⟩:=heq;obtain⟨cx,ex,rx⟩:=IH hrow hx;obtain⟨cy,ey,ry⟩:=IH hrow hy;obtain⟨b',hb1,hb2⟩:=hE.run (g:=g) (w:=w) 9999 (by omega) x' y' _ _ hx hy;rw[hr1] at hb1;obtain rfl:=aQo hb1;rw[ex,ey] at hb2;refine go ex ey ?_;rcases hr2 with⟨rfl,rfl⟩ |⟨rfl,rfl⟩
     ·refine⟨.bool r,?_,vC _ _ _⟩;simp only[aQB];rw[run_eqGuard_agg w _ _ _ _ _ _ hg1];simp only[aQu];rw[run_eql_struct,hb2];rfl
     ·refine⟨.bool (!r),?_,vC _ _ _⟩;simp only[aQB];rw[run_eqGuard_agg w _ _ _ _ _ _ hg1];simp only[aQu];rw[run_neq_struct,hb2];rfl
   ·cases hq
  ·cases hq
 ·cases hq
end
end Go.Proofs.YtbbpilohihldiaaGreatDoor.Vc
namespace Go.Proofs.YtbbpilohihldiaaGreatDoor.Vc
open Go.RowKit
theorem aHQ (s:List UInt8):Lib.strCells ⟨s.toArray⟩=s.map fun b=>Value.int .u8 b.toNat:=by
 simp [Lib.strCells]
theorem aHR {P:Program}(w:World) (t u ty e:TypeId) (i:TypeInfo) (ht:P.underlying t=some (.slice e)) (hu:P.underlying u=some .string) (hi:P.info? e=some i) (hz:i.zero=some (.int .u8 0))
  (hsize:i.size=1) (hby:i.bytes=1) (v:Value) (n:Nat) (xs:List Value) (hown:w.ownsRow 0 e 1 v n xs) (s:ByteArray) (hm:0<s.size)
  (h63:n+s.size<=maxLen) (hbytes:n+s.size<=140737488355328):
  ∃q cap w',(Builtin.append_ #[t,u] ty #[v,.string s]).run P w= .ok (.slice (some ⟨q,0,none⟩) (n+s.size) cap) w'/\w'.ownsRow 0 e 1 (.slice (some ⟨q,0,none⟩) (n+s.size) cap) (n+s.size) (xs++Lib.strCells s)/\
   (q=w.heap.size\/v.ownBlock=some q)/\w.grownBy w' v.ownBlock/\n+s.size<=cap/\
   ∀b o,b<w.heap.size->(v.ownBlock=some b->o<n*1)->w'.cell? ⟨b,o,none⟩=w.cell? ⟨b,o,none⟩:=by
 have hsmall:n+s.size<=9223372036854775807:=by simp only[maxLen] at h63;omega
 have hxl:xs.length=n:=by simpa using hown.1
 have hlen:(xs++Lib.strCells s).length=(n+s.size)*1:=by rw[aQm,hxl,Lib.strCells_length,aSt]
 have grown: ∀(old:Nat),old<n+s.size->∀(row:Option Nat),
   (w.drew.alloc (.cells (xs.toArray++(Lib.strCells s).toArray++Builtin.zeroCells (Value.int .u8 0).cells (grownCap w (n+s.size) old e- (n+s.size))) e)).ownsRow 0 e 1
    (.slice (some ⟨w.heap.size,0,none⟩) (n+s.size) (grownCap w (n+s.size) old e)) (n+s.size) (xs++Lib.strCells s)/\
   w.grownBy (w.drew.alloc (.cells (xs.toArray++(Lib.strCells s).toArray++Builtin.zeroCells (Value.int .u8 0).cells (grownCap w (n+s.size) old e- (n+s.size))) e)) row/\n+s.size<=grownCap w (n+s.size) old e/\
   ∀b o,b<w.heap.size->(w.drew.alloc (.cells (xs.toArray++(Lib.strCells s).toArray++Builtin.zeroCells (Value.int .u8 0).cells (grownCap w (n+s.size) old e- (n+s.size))) e)).cell? ⟨b,o,none⟩=w.cell? ⟨b,o,none⟩:=by
  intro old ho row;have hge:=grownCap_ge w (n+s.size) old e;have hcm:grownCap w (n+s.size) old e<=maxLen:=grownCap_le_maxLen w (n+s.size) old e h63;refine⟨⟨hlen,.inr ⟨w.heap.size,_,_,rfl,aRc _,aSv w.drew _,hge,hcm,?_,?_⟩⟩,⟨rfl,rfl,rfl,by simp,fun k hk _=>aQP w.drew _ k hk⟩,hge,fun b o hb=>aQK (w:=w) (a:=⟨b,o,none⟩) (aQP w.drew _ b hb)⟩
  ·have hz1:(Value.int IntKind.u8 0).cells.size=1:=rfl;simp only[aSu,aRb,size_zeroCells,hz1,hxl,Lib.strCells_length];omega
  ·simp only[Array.toList_append,aQt];rw[<-aQt,<-hlen];exact aRw
 rcases hown.2 with⟨rfl,rfl⟩ |⟨g,cap,cur,rfl,hbg,hg,hnc,hcm,hcs,htake⟩
 ·have hx:xs=[]:=aQS hxl;subst hx;have hr:=run_append_nil_string (P:=P) w t u ty e i (.int .u8 0) ht hu hi hz s (by omega) (by omega) (by rw[hby];omega);have hgr:=grown 0 (by omega) (Value.ownBlock (.slice none 0 0));simp only[aQV,List.nil_append,Array.empty_append] at hgr⊢;have e1:(s.data.map fun b=>Value.int .u8 b.toNat)=(Lib.strCells s).toArray:=by
   apply Array.ext';simp [Lib.strCells]
  rw[e1] at hr;exact⟨_,_,_,hr,hgr.1,.inl rfl,hgr.2.1,hgr.2.2.1,fun b o hb _=>hgr.2.2.2 b o hb⟩
 ·by_cases hroom:n+s.size<=cap
  ·have hcs':cur.size=cap:=by simpa using hcs
   have hr:=Lib.run_append_room_string (P:=P) w t u ty e i ht hu hi hsize g n cap cur hg s hroom (by omega);refine⟨_,_,_,hr,⟨hlen,.inr ⟨g,cap,_,rfl,hbg,aSj w g cur _ e _ hg,hroom,hcm,?_,?_⟩⟩,.inr rfl,⟨rfl,rfl,rfl,by simp,fun k _ hk=>aRU w g k _ (fun e=>hk (by simp [Value.ownBlock,e]))⟩,hroom,fun b o hb hso=> ?_⟩
   ·simp only[aRb,aQm,aQM,aQw,aQT,Lib.strCells_length];omega
   ·have ht':cur.toList.take n=xs:=by simpa using htake
    rw[ht',<-hlen];exact aRw
   ·by_cases hbg':b=g
    ·subst hbg';have ho:=hso rfl;rw[cell_setRow_same w b o cur _ e _ hg,cell_of_row w b o cur e (0,0) hg];have hlt:o<(cur.toList.take n).length:=by rw[aQM,aQT];omega
     have hlt2:o<cur.size:=by rw[aQM,aQT] at hlt;omega
     simp only[List.getElem?_toArray,aQt];rw[aQE hlt,aR8,aQj (by omega)];simp
    ·exact aQK (a:=⟨b,o,none⟩) (aRU w g b _ hbg')
  ·have holds: ∀j u,xs[j]? =some u->w.cell? ((⟨g,0,none⟩:Addr).add j)=some u:=hown.cells (g:=g) rfl;have hr:=Lib.run_append_grow_string (P:=P) w t u ty e i (.int .u8 0) ht hu hi hz ⟨g,0,none⟩ n cap xs (by rw[hsize];simpa using hxl) holds s (by omega) (by omega) (by rw[hby];exact growslice_fits (by omega) (by omega));have hgr:=grown cap (by omega) (Value.ownBlock (.slice (some ⟨g,0,none⟩) n cap));exact⟨_,_,_,hr,hgr.1,.inl rfl,hgr.2.1,hgr.2.2.1,fun b o hb _=>hgr.2.2.2 b o hb⟩
theorem aHS {P:Program}(w:World) (t u ty e:TypeId) (i:TypeInfo) (ht:P.underlying t=some (.slice e)) (hu:P.underlying u=some .string) (hi:P.info? e=some i) (hsize:i.size=1) (ad:Option Addr) (n c:Nat) (hle:n<=c):
  (Builtin.append_ #[t,u] ty #[.slice ad n c,.string ⟨#[]⟩]).run P w= .ok (.slice ad n c) w:=by
 have hf:=Lib.run_firstCells_string (P:=P) w 1 ⟨#[]⟩;have hm:(⟨#[]⟩:ByteArray).size=0:=rfl;rw[hm] at hf;cases ad<;>simp [Builtin.append_,aQD ht,aQD hu,sizeOf,typeInfo,hi,hsize,Builtin.lenOf,hm,hf,hle,Lib.strCells,storeCells]
theorem a8U (g:Gh) (w:World): ∀s:List UInt8,sC (Rd g w (.int .u8)) 1 (sE s) (s.map fun b=>Value.int .u8 b.toNat)
 |[]=>rfl
 |b::s=>⟨[.int .u8 b.toNat],_,rfl,rfl,rfl,a8U g w s⟩
section
variable {P:Program}{o:Oper}{a:Act}{g:Gh}{w:World}{H:r5}{T:rQ}(hT:vT P T) (hH:rK g w H)
include hT hH
theorem aHT {t t':TypeId}{x:Operand}(ho:o.op= .convert t t' x) {sx:pA}(hx:qJ g w sx (a.eval x)) {e:pJ}
  (hr:AJ (W9 T (qQ T t) (qQ T t') sx)=some e):qD P o a g w H e:=by
 obtain⟨q,hq,rfl⟩:=II hr;replace hx:=hx.1;generalize h1:qQ T t=o1 at hq;generalize h2:qQ T t'=o2 at hq;unfold W9 at hq;split at hq
 ·rename_i e b1 a1 l1 e2 b2 a2 l2 l k;generalize h3:qQ T e=o3 at hq;unfold a68 at hq;split at hq
  ·cases hq;have d1:=(s5 hT h1).2;have d2:=(s5 hT h2).2;have d3:=(s5 hT h3).2;simp only[xE] at d1 d2 d3;obtain⟨ad,cap,hv,hle,hl⟩:=D0 hx;refine qD.pure hH (v:= .string ⟨(rW l).toArray⟩) ?_ (F2 _ _ _);simp only[execOp,ho,hv,aQB];have run:(convert t t' (.slice ad (List.length l) cap)).run P w= .ok (.string ⟨(rW l).toArray⟩) w:=by
    rcases hl with rfl|⟨b,off,rfl,hL⟩
    ·rw[run_convert_bytes_string w t t' e ad _ cap d1.1 d3 d2];cases ad with
     |none=>simp [Conv.bytesToString,rW];rfl
     |some ad=>simp [Conv.bytesToString,loadCells,loadCellsFrom,rW];rfl
    ·have:=run_convert_bytes_arg (P:=P) w t e d1.1 d3 b off (List.length l) cap l rfl (fun i hi=>by
      obtain⟨cs,_,c2,_,c4⟩:=S0 hL (aQs hi);have c5:cs=[.int .u8 (l[i]:Int)]:=c4;subst c5;have:=c2 0 _ rfl;have hcell:Ty.cells (.int .u8)=1:=rfl;rw[hcell,aSt,aRW] at this;rw[this,aQI,aQs hi];rfl) t' d2
     exact this
   rw[run];rfl
  ·cases hq
 ·cases hq
theorem aHU {args:Array Operand}{tys:Array TypeId}(ho:o.op= .call ⟨.builtin .append,args,tys⟩) {ρ:Operand->pA}(hρ: ∀x∈args.toList,qJ g w (ρ x) (a.eval x)) {e:pJ}
  (hr:RI T H (tY ρ args.toList) tys.toList=some e) (hs: ∀p∈e.side,p):qD P o a g w H e:=by
 unfold RI at hr;split at hr
 ·rename_i t u htu;have htys:tys= #[t,u]:=by apply aRv.1;rw[htu]
  split at hr
  ·rename_i e1;subst e1;exact aHg hT hH ho hρ htys hr hs
  ·clear htu;subst htys;generalize hst:qQ T t=ot at hr;generalize hsu:qQ T u=ou at hr;generalize hss:tY ρ args.toList=ss at hr;unfold WZ at hr;split at hr
   ·rename_i el ar ls_ e2 b2 a2 ls2 l k s k2;generalize hk:pC H k=ob at hr;unfold RH at hr;split at hr
    ·rename_i e' c n;split at hr
     ·rename_i hec;obtain⟨rfl,rfl⟩:=hec;cases hr;rw[aQm];have hsl:List.length (sE s)=List.length s:=by simp [sE]
      rw[hsl];have hln:=hs _ (by simp:(List.length l=n)∈_);have hby:=hs _ (by simp:(List.length l+List.length s<=140737488355328)∈_);obtain⟨v,vr,hv,hs1,hs2⟩:=S4 hT hH hρ hss;obtain⟨h2,h3,_⟩:=(s5 hT hst).2;have hu:=(s5 hT hsu).2;simp only[xE] at hu;obtain⟨ei,hei,hz⟩:=aQz.1 h3;simp only[aQQ] at hz;obtain⟨cs,hx⟩:=F4 (a:=a) hT hH ho;obtain⟨v0,xs,hv0,hown,hnone,hseal⟩:=hH.blk k _ hk;have hcur:g.cur k (List.length l)=some v:=hs1.2;rw[hln,hv0] at hcur;obtain rfl:=aQo hcur;obtain⟨adl,capl,hvl,hlel,hll⟩:=D0 hs1.1;have hvr:=xT hs2.1;have hsz:(⟨List.toArray s⟩:ByteArray).size=List.length s:=by simp [ByteArray.size]
      by_cases hm:List.length s=0
      ·obtain rfl:s=[]:=aQS hm;have hget: ∀i,pC (pO [(k,p9.grow e' 1 (List.length l+List.length ([]:List UInt8)))] H) i=pC H i:=by
        intro i;simp only[pO,pC];by_cases hi:k=i
        ·subst hi;rw[aQj rfl,hk,hln];rfl
        ·rw[aQl hi]
       have hkeep:qW g w H ⟨[List.length l=n,List.length l+List.length ([]:List UInt8)<=140737488355328],(.val (.list (.int .u8)) (l++sE []),some k),[(k,.grow e' 1 (List.length l+List.length ([]:List UInt8)))],[k]⟩ g w v0:=by
        refine⟨.refl _ _,?_,⟨fun i b h=>hH.blk i b ((hget i).symm.trans h),fun i j bi bj b o' hij h1 h2=>hH.dis i j bi bj b o' hij ((hget i).symm.trans h1) ((hget j).symm.trans h2),hH.sl,hH.tab.1,fun i blk b o' h ho'=>hH.tab.2 i blk b o' ((hget i).symm.trans h) ho'⟩,.refl _ _ _,fun i blk b o' hi hg ho'=> .inr ⟨i,blk,hi,(hget i).symm.trans hg,ho'⟩,fun _ _=>⟨rfl,rfl⟩,fun i u' y us h=> .inl ⟨y,us,(hget i).symm.trans h⟩⟩;rw[show l++sE []=l from by simp [sE]];exact hs1
       refine qD.value (v:=v0) (w':=w) ?_ hkeep;rw[hx,hv,hvr,hvl];have:=aHS (P:=P) w t u o.type e' ei h2 hu hei (by rw[hz.1];rfl) adl (List.length l) capl hlel;simp only[builtin,aQB];rw[this];simp only[aQu,aQN]
      ·have hxs:sC (Rd g w (.int .u8)) 1 l xs:=by
        by_cases h0:List.length l=0
        ·obtain rfl:l=[]:=aQS h0;have:xs=[]:=aQS (by rw[hown.1,<-hln];simp);exact this
        ·rcases hll with rfl|⟨b0,off0,rfl,hL0⟩
         ·exact absurd rfl h0
         ·obtain⟨ls,hF0,hra0,_⟩:=KN hL0;rcases hown.2 with⟨e1,e2⟩ |⟨q,cap,cur,e1,e2⟩
          ·exact absurd (hln.trans e2) h0
          ·rw[hvl] at e1;simp only[aSs,aQk,Addr.mk.injEq] at e1;obtain⟨⟨rfl,rfl,_⟩,_,rfl⟩:=e1;have hvn:v0= .slice (some ⟨b0,0,none⟩) n capl:=by rw[hvl,hln]
           have hrx:=XQ (hvn▸hown);have:ls=xs:=by
            have hl1:=GJ hF0;have hl2:=hown.1;have hc1:Ty.cells (.int .u8)=1:=rfl;rw[hc1] at hl1;apply List.ext_getElem?;intro j;by_cases hj:j<ls.length
            ·have h1:=hra0 j ls[j] (aQs hj);have hj':j<xs.length:=by rw[hl2,<-hln,<-hl1];exact hj
             have h2:=hrx j xs[j] (aQs hj');rw[h1] at h2;rw[aQs hj,aQs hj',aQo h2]
            ·rw[aRu (by omega),aRu (by rw[hl2,<-hln,<-hl1];omega)]
           rw[<-this];exact hF0
       obtain⟨q,cap,w',hrun,hown',hq,hg,hcap,hcell⟩:=aHR (P:=P) w t u o.type e' ei h2 hu hei hz.2.2 hz.1 hz.2.1 v0 n xs hown ⟨List.toArray s⟩ (by rw[hsz];omega) (by rw[hsz];unfold maxLen;omega) (by rw[hsz];omega);rw[hsz] at hrun hown' hcap;rw[aHQ] at hown';refine qD.value (v:= .slice (some ⟨q,0,none⟩) (n+List.length s) cap) (w':=w') ?_ (by
        have:=qW.append (side:=[List.length l=n,List.length l+List.length s<=140737488355328]) (rds:=[k]) (u:= .int .u8) (r:=sE s) hH hk (show (1:Nat)=Ty.cells (.int .u8) from rfl) hln hv0 hown hnone hseal hxs (a8U g w s) (by rw[hsl];omega) (by rw[hsl];exact hown') hq hg (by rw[hsl];exact hcap) hcell;rw[hsl] at this;rw[hln];rw[hln] at this;exact this)
       rw[hx,hv,hvr];simp only[builtin,aQB,hrun,aQu,aQN]
     ·cases hr
    ·cases hr
   ·cases hr
 ·cases hr
end
theorem aHV {g g':Gh}{w:World}{f:pA→pA}(hf: ∀s u,qJ g w s u→qJ g' w (f s) u): ∀{l:List pA}{v:Value}{s:pA},NQ g w l v→K7 (l.map f)=some s→qJ g' w s v:=by
  have un: ∀{l:List pA}{vs:List Value}{q},tZ g w l vs→I7 (l.map f)=some q→KK g' w q vs:=by
    intro l
    induction l with
    | nil=>
      intro vs q h hq;simp only[List.map_nil,I7,aQk] at hq;subst hq;exact h
    | cons s l ih=>
      rintro vs q ⟨v,vs',rfl,h1,h2⟩ hq;have h1':=hf s v h1;simp only[aRt] at hq;generalize f s=fs at hq h1';obtain⟨d,k⟩:=fs;cases d with
      | val t x=>
        simp only[I7] at hq;obtain⟨q',hq',rfl⟩:=aQz.1 hq;refine⟨v,vs',rfl,h1'.1,?_,ih h2 hq'⟩;cases k with
        |none=>trivial
        |some k=>exact h1'.2
      |_=>simp [I7] at hq
  intro l v s h hs
  match l,h,hs with
  | [],⟨vs,e,h⟩,hs=>
    simp only[List.map_nil,K7,aQk] at hs;subst hs;rw[show vs=[] from h] at e;exact⟨⟨[],e,rfl⟩,trivial⟩
  | [x],h,hs=>
    simp only[aRt,List.map_nil,K7,aQk] at hs;subst hs;exact hf x v h
  | x::y::l,⟨vs,e,h⟩,hs=>
    simp only[aRt,K7,aQk] at hs;subst hs;cases hq:I7 (f x::f y::l.map f) with
    |none=>exact⟨trivial,trivial⟩
    |some q=>exact⟨⟨vs,e,un (l:=x::y::l) h (by simpa using hq)⟩,trivial⟩
theorem a8V {base n:Nat}{W:List qB}: ∀l:List pA,MV base n W l=l.map (QQ base n W)
  |[]=>rfl
  |s::l=>by simp [MV,a8V l]
theorem a8W {P:Program}{f:FuncId}{sg:pY}(hcon:zA P f sg.C) {g:Gh}{w:World}{H:r5}(hH:rK g w H) {args:List pA}{vals:List Value}(hargs:tZ g w args vals) {base:Nat}{e:pJ}
    (hr:EV H base args (some sg)=some e) (hs: ∀p∈e.side,p) (hfr:z7 g base e):Calls P f vals.toArray w (fun en w'=> ∃v g',en= .returned v∧qW g w H e g' w' v):=by
  simp only[EV] at hr;cases hp0:w7 H sg.ps args (some ⟨[],[],[],0⟩) with
  |none=>rw[hp0] at hr;cases hgs:sg.gs<;>(rw[hgs] at hr;simp [MW,AL] at hr)
  |some q0=>
   rw[hp0] at hr;cases hp:AL H sg.gs (some q0) with
   |none=>rw[hp] at hr;simp [MW] at hr
   |some q=>
    rw[hp] at hr;simp only[MW,a8L,List.append_nil] at hr;have hpo0:=a8G hH (AR.nil g w H) hargs hp0;rw[List.nil_append] at hpo0;have hpo:=a8I hH hpo0 hp;cases hcl:GA q.ws.reverse q.H.reverse with
    |none=>rw[hcl] at hr;simp [QT] at hr
    |some L=>
    rw[hcl] at hr;simp only[QT] at hr;have hm:=hpo.m.ren hcl;cases hc:sg.C q.args.reverse L with
    |none=>rw[hc] at hr;simp [QS] at hr
    | some r=>
      rw[hc] at hr;simp only[QS,a8K] at hr;cases hbh:AM base r.H.length q.ws.reverse 0 q.ws.reverse r.H with
      |none=>rw[hbh] at hr;simp [MU] at hr
      | some upd=>
        rw[hbh] at hr;cases hrs:K7 (MV base r.H.length q.ws.reverse r.ret) with
        |none=>rw[hrs] at hr;simp [MU] at hr
        | some s=>
          rw[hrs] at hr;simp only[MU,aQk] at hr;subst hr;refine(hcon.2 (tV g q.ws.reverse) w q.args.reverse _ L r (aHw hH hm) hpo.args hc hs).mono ?_;rintro en w' ⟨v,g',rfl,hret⟩;refine⟨v,_,rfl,aHM hH hm hret hbh hfr ?_⟩;rw[a8V] at hrs;exact aHV (fun s u h=>aHK hH hm hret hbh hfr h) hret.ret hrs
theorem NT {g g':Gh}{w w':World}: ∀{t:Ty}{x:t.den}{cs:List Value},GB t=true→Rd g w t x cs→Rd g' w' t x cs
  | .bool,_,_,_,r=>r
  | .int _,_,_,_,r=>r
  | .str,_,_,_,r=>r
  | .unit,_,_,_,r=>r
  | .fn,_,_,_,r=>r
  | .pair a b,_,_,h,⟨c1,c2,e,r1,r2⟩=>by
    simp only[GB,aQr] at h;exact⟨c1,c2,e,NT h.1 r1,NT h.2 r2⟩
  | .list _,_,_,h,_=>by cases h
  | .ref,_,_,h,_=>by cases h
  | .clo,_,_,h,_=>by cases h
  | .mp,_,_,h,_=>by cases h
  | .rl _ _,_,_,h,_=>by cases h
  | .mref,_,_,h,_=>by cases h
theorem a8X {g g':Gh}{w:World}{k n:Nat}{t:Ty}{l:List t.den}(le:Le g w g' w) (hk: ∀u,g.cur k n=some u→((u= .slice none 0 0∧n=0)∨∃b cap,u= .slice (some ⟨b,0,none⟩) n cap∧n≤cap)→s9 g' w (.list t) l u):
    ∀{args:List pA}{vals:List Value},tZ g w args vals→(∀p∈I8 k n args,p)→tZ g' w (MY k t l args) vals
  |[],_,h,_=>h
  | s::ss,_,⟨v,vs,rfl,h1,h2⟩,hp=>by
    refine⟨v,vs,rfl,?_,a8X le hk h2 (fun p hp'=>hp p ?_)⟩
    · obtain⟨d,x⟩:=s
      cases d with
      | own j m=>
        simp only[a7h];split
        · rename_i e
          subst e;have hm:m=n:=hp (j=j→m=n) (by simp only[I8];exact aQH) rfl;subst hm;exact⟨hk _ h1.1.1 h1.1.2,trivial⟩
        ·exact AO le h1
      |_=>exact AO le h1
    · obtain⟨d,x⟩:=s
      cases d with
      |own j m=>simp only[I8];exact aQy _ hp'
      |_=>exact hp'
theorem aHW {P:Program}{f:FuncId}{sg:pY}(hcon:zA P f sg.C) {g:Gh}{w:World}{H:r5}(hH:rK g w H) {args:List pA}{vals:List Value}(hargs:tZ g w args vals) {base:Nat}{e:pJ}{k:Nat}
    (hr:MZ H base args sg k (pC H k)=some e) (hs: ∀p∈e.side,p) (hfr:z7 g base e):Calls P f vals.toArray w (fun en w'=> ∃v g',en= .returned v∧qW g w H e g' w' v):=by
  cases hk:pC H k with
  |none=>rw[hk] at hr;cases hr
  | some b=>
    rw[hk] at hr;cases b with
    | row e0 t l m=>
      simp only[MZ] at hr;cases hi:EV ((k,.dead)::H) base (MY k t l args) (some sg) with
      |none=>rw[hi] at hr;cases hr
      | some e1=>
        rw[hi] at hr;unfold WE at hr;split at hr
        · rename_i side t' x kk U rds heq
          simp only[aQk] at heq;subst heq;split at hr
          · rename_i hnl
            simp only[aQr,aQO] at hnl;obtain⟨⟨hnl,hU⟩,hkU⟩:=hnl;have hkU':k∉pE U:=fun h=>by rw[IK.2 h] at hkU;cases hkU
            cases hr;obtain⟨hl,v,xs,hv,hown,hF,hnone,hseal⟩:=hH.blk k _ hk
            let g':Gh:={g with S:=fun b o=>g.S b o∨(v.ownBlock=some b∧o<m*t.cells)}
            have le:Le g w g' w:=⟨fun _ _ h=> .inl h,fun _ _ _=>rfl,fun _ _ h=>h,fun _ _ _ h=>h⟩;have hown2: ∀b,v.ownBlock=some b→∀o,r7 g k (.row e0 t l m) b o:=fun b hb o=>⟨v,hv,hb⟩
            have hlist: ∀u,g.cur k m=some u→((u= .slice none 0 0∧m=0)∨∃b cap,u= .slice (some ⟨b,0,none⟩) m cap∧m≤cap)→s9 g' w (.list t) l u:=by
              intro u hu hshape;rw[hv] at hu;obtain rfl:=aQo hu;rcases hshape with⟨rfl,h0⟩ |⟨b,cap,rfl,hcap⟩
              · have:l=[]:=aQS (by rw[hl,h0])
                subst this;exact .inr ⟨rfl,none,0,rfl,aQF _,.inl rfl⟩
              · refine .inr ⟨rfl,some ⟨b,0,none⟩,cap,by rw[hl],by rw[hl];exact hcap,.inr ⟨b,0,rfl,KO (C9 (fun _ _ h=>wC le h) hF) (fun j u hu=> ?_) (fun j hj=> ?_)⟩⟩
                · have:=hown.cells (g:=b) rfl j u hu
                  rwa [aRz] at this
                · right
                  exact⟨rfl,by rw[hl] at hj;omega⟩
            have hget: ∀i b,pC ((k,p9.dead)::H) i=some b→(i=k∧b= .dead)∨(i≠k∧pC H i=some b):=by
              intro i b hb;simp only[pC] at hb;split at hb
              ·rename_i e1;exact .inl ⟨e1.symm,(aQo hb).symm⟩
              ·rename_i e1;exact .inr ⟨Ne.symm e1,hb⟩
            have hH':rK g' w ((k,p9.dead)::H):=by
              refine⟨fun i b hb=> ?_,fun i j bi bj b o hij h1 h2 o1 o2=> ?_,fun b o hS=> ?_,hH.tab.1,fun i b bb oo hb ho=> ?_⟩
              · rcases hget i b hb with⟨rfl,rfl⟩ |⟨hne,h1⟩
                ·trivial
                ·exact KL (hH.blk i b h1) le rfl rfl (fun _ _ _=>⟨rfl,rfl⟩) (fun _ _=>rfl) (fun bb o ho hS=>by
                    rcases hS with hS|hS
                    ·exact hS
                    ·exact absurd (hown2 bb hS.1 o) (fun h5=>hH.dis i k b _ bb o hne h1 hk ho h5)) (fun _ _ _ _ h=>h)
              · rcases hget i bi h1 with⟨_,rfl⟩ |⟨_,h1⟩
                ·exact o1.elim
                · rcases hget j bj h2 with⟨_,rfl⟩ |⟨_,h2⟩
                  ·exact o2.elim
                  ·exact hH.dis i j bi bj b o hij h1 h2 ((yD (g':=g') (g:=g) rfl rfl).1 o1) ((yD (g':=g') (g:=g) rfl rfl).1 o2)
              · rcases hS with hS|hS
                ·exact hH.sl b o hS
                ·exact NF hown hS.1
              · rcases hget i b hb with⟨_,rfl⟩ |⟨_,h1⟩
                ·exact ho.elim
                ·exact hH.tab.2 i b bb oo h1 ((yD (g':=g') (g:=g) rfl rfl).1 ho)
            have hsp: ∀p,p∈I8 k m args∨p∈side→p:=fun p hp=>hs p (NP.2 hp)
            have hget2: ∀i,i≠k→pC ((k,p9.dead)::H) i=pC H i:=fun i hi=>by
              simp only[pC];rw[aQl (Ne.symm hi)]
            have hin: ∀{i},i∈pE U→i≠k:=fun h e=>hkU' (e▸h)
            have hup: ∀{i blk},i∈pE U→pC (pO U H) i=some blk→pC (pO U ((k,p9.dead)::H)) i=some blk:=by
              intro i blk hi h
              have: ∀{U:List (Nat×p9)},i∈pE U→pC (pO U ((k,p9.dead)::H)) i=pC (pO U H) i:=by
                intro U
                induction U with
                |nil=>intro h;cases h
                | cons q U ih=>
                  intro h;obtain⟨j,b⟩:=q;simp only[pO,pC];split
                  ·rfl
                  · rename_i hne
                    simp only[pE,aQC] at h;exact ih (h.resolve_left (fun e=>hne e.symm))
              rw[this hi];exact h
            have hcells: ∀{i blk},i∈pE U→pC (pO U H) i=some blk→∃t y,blk= .cells t y []∧GB t=true:=by
              intro i blk hi h
              have: ∀{U:List (Nat×p9)},K8 U=true→i∈pE U→pC (pO U H) i=some blk→∃t y,blk= .cells t y []∧GB t=true:=by
                intro U
                induction U with
                |nil=>intro _ h;cases h
                | cons q U ih=>
                  intro hU hi h;obtain⟨j,b⟩:=q;cases b with
                  | cells t y ts=>
                    cases ts with
                    |cons _ _=>simp [K8] at hU
                    | nil=>
                      simp only[K8,aQr] at hU;simp only[pO,pC] at h;split at h
                      · obtain rfl:=aQo h
                        exact⟨t,y,rfl,hU.1⟩
                      · rename_i hne
                        simp only[pE,aQC] at hi;exact ih hU.2 (hi.resolve_left (fun e=>hne e.symm)) h
                  |_=>simp [K8] at hU
              exact this hU hi h
            have hownI: ∀b o,rY g' ((k,p9.dead)::H) (pE U) b o→rY g H (pE U) b o:=fun b o ⟨i,blk,hi,h1,h2⟩=>⟨i,blk,hi,(hget2 i (hin hi)).symm.trans h1,(yD (g':=g') (g:=g) rfl rfl).1 h2⟩;refine(a8W hcon hH' (a8X le hlist hargs (fun p hp=>hsp p (.inl hp))) hi (fun p hp=>hsp p (.inr hp)) (fun i hi' hb=>hfr i hi' hb)).mono ?_;rintro en w' ⟨v1,g1,rfl,hE⟩
            let g2:Gh:={g1 with S:=g.S}
            have hle:Le g w g2 w':=⟨fun _ _ h=>h,fun b o h=>hE.le.cell b o (.inl h),fun i p h=>hE.le.J i p h,fun i n u h=>hE.le.cur i n u h⟩
            have hfr2:Fr (rY g H (pE U)) w w' g.S g2.S:=
              ⟨hE.fr.os,hE.fr.tape,hE.fr.output,hE.fr.size,fun b hb hno=>hE.fr.blk b hb (fun o h=>hno o (hownI b o h)),fun b o hb hno=>hE.fr.cell b o hb (fun h=>hno (hownI b o h)),fun _ _ h=> .inl h,fun b s h=>(hE.fr.shape b s h).imp id fun h o=>hownI b o (h o)⟩
            have hgho: ∀i,i∉pE U→g2.J i=g.J i∧g2.cur i=g.cur i:=fun i hi=>hE.gho i hi
            have hperm: ∀i blk b o,i∈pE U→pC (pO U H) i=some blk→r7 g2 i blk b o→w.heap.size≤b∨rY g H (pE U) b o:=fun i blk b o hi hg ho=>
              (hE.perm i blk b o hi (hup hi hg) ((yD (g':=g2) (g:=g1) rfl rfl).1 ho)).imp id (hownI b o)
            refine⟨v1,g2,rfl,hle,⟨?_,trivial⟩,hH.upd hle hfr2 hperm hgho (fun i blk hi hg=> ?_) (fun i j bi bj b o hi hj hij hgi hgj hoi hoj=> ?_) (fun b o h=>aQZ (hH.sl b o h) hE.fr.size),hfr2,hperm,hgho,fun i u y us h=> ?_⟩
            ·exact hE.slot.1.imp (fun⟨a,cs,e,q⟩=>⟨a,cs,e,NT hnl q⟩) (fun⟨a,q⟩=>⟨a,NT hnl q⟩)
            · obtain⟨t2,y2,rfl,hn2⟩:=hcells hi hg
              obtain⟨p,cs,q1,q2,q3,q4,q5,_⟩:=hE.heap.blk i _ (hup hi hg);exact⟨p,cs,q1,NT hn2 q2,q3,q4,fun j hj hS=>q5 j hj (hE.le.S _ _ (.inl hS)),fun _ _ hm=>by cases hm⟩
            ·exact hE.heap.dis i j bi bj b o hij (hup hi hgi) (hup hj hgj) ((yD (g':=g2) (g:=g1) rfl rfl).1 hoi) ((yD (g':=g2) (g:=g1) rfl rfl).1 hoj)
            · by_cases hiU:i∈pE U
              · rcases hE.ty i u y us (hup hiU h) with⟨x',ts',q⟩ |q
                ·exact .inl ⟨x',ts',(hget2 i (hin hiU)).symm.trans q⟩
                ·exact .inr q
              ·exact .inl ⟨y,us,(BN hiU).symm.trans h⟩
          ·cases hr
        ·cases hr
    |_=>cases hr
theorem aHX {P:Program}{f:FuncId}{F:(t:Ty)→List t.den→Option (List t.den)}(hF:SA P f F) {g:Gh}{w:World}{H:r5}(hH:rK g w H) {args:List pA}{vals:List Value}(hargs:tZ g w args vals) {e:pJ}
    (hr:QU H F args=some e) (hs: ∀p∈e.side,p):Calls P f vals.toArray w (fun en w'=> ∃v g',en= .returned v∧qW g w H e g' w' v):=by
  unfold QU at hr;split at hr
  · rename_i k n x
    obtain⟨v,vs,rfl,ha,hv⟩:=hargs;rw[show vs=[] from hv];cases hk:pC H k with
    |none=>rw[hk] at hr;cases hr
    | some b=>
      rw[hk] at hr;cases b with
      | row e0 t l m=>
        simp only[WF] at hr;cases hf:F t l with
        |none=>rw[hf] at hr;cases hr
        | some l'=>
          rw[hf] at hr;cases hr;have hnm:n=m:=hs _ aQH;subst hnm;obtain⟨hl,v0,xs,hv0,hown,hFx,hnone,hseal⟩:=hH.blk k _ hk;have h1:=ha.1.1;rw[hv0] at h1;obtain rfl:=aQo h1;refine(hF g w e0 t l l' v0 n xs hH.tab.1 hown hFx hl (hs _ (by simp)) hf).mono ?_;rintro en w' ⟨rfl,hl',xs',k1,k2,k3⟩;have hownk: ∀b,v0.ownBlock=some b→∀o,rY g H [k] b o:=fun b hb o=>⟨k,_,by simp,hk,v0,hv0,hb⟩;refine⟨_,_,rfl,qW.row (v:=v0) (xs:=xs') hH hl' k1 k2 hnone (fun u hu=>by rw[hv0] at hu;exact(aQo hu).symm) (.inr ⟨v0.ownBlock,k3,hownk⟩) (fun b o hS=> ?_) hseal (fun b hb=> .inr (hownk b hb)) ⟨⟨[],rfl,rfl⟩,trivial⟩⟩;have hne:v0.ownBlock≠some b:=fun e=>hseal b e o hS;exact aQK (a:=⟨b,o,none⟩) (k3.block b (hH.sl b o hS) (fun e=>hne e.symm))
      |_=>cases hr
  ·cases hr
section
variable {P:Program}{o:Oper}{a:Act}{g:Gh}{w:World}{H:r5}{T:rQ}{Γ:tG}(hT:vT P T) (hΓ:D2 P Γ) (hH:rK g w H)
include hT hΓ hH
theorem a8Y {f:FuncId}{args:List pA}{vals:List Value}(hargs:tZ g w args vals) {base:Nat}{e:pJ}(hr:IB H base args (Γ f)=some e) (hs: ∀p∈e.side,p) (hfr:z7 g base e):
    (∀args w,(callFunc f args).run P w= .ok (.enter f args) w)∧Calls P f vals.toArray w (fun en w'=> ∃v g',en= .returned v∧qW g w H e g' w' v):=by
  cases hg:Γ f with
  |none=>rw[hg] at hr;cases hr
  | some sg=>
    rw[hg] at hr;obtain⟨hcon,hrow⟩:=hΓ f sg hg;refine⟨hcon.1,?_⟩;simp only[IB] at hr;cases hF:sg.row with
    | some F=>
      rw[hF] at hr;exact aHX (hrow F hF) hH hargs hr hs
    | none=>
      rw[hF] at hr;simp only[RF] at hr;cases hn:MX sg.ps args with
      | some k=>
        rw[hn] at hr;exact aHW hcon hH hargs hr hs hfr
      | none=>
        rw[hn] at hr;exact a8W hcon hH hargs hr hs hfr
theorem aHY {fop:Operand}{args:Array Operand}{tys:Array TypeId}(ho:o.op= .call ⟨.value fop,args,tys⟩) {ρ:Operand→pA}(hf:qJ g w (ρ fop) (a.eval fop)) (hρ: ∀x∈args.toList,qJ g w (ρ x) (a.eval x)) {base:Nat}{e:pJ}
    (hr:KB Γ H base (EX T ρ args.toList tys.toList) (ρ fop)=some e) (hs: ∀p∈e.side,p) (hfr:z7 g base e) (hlen:args.size=tys.size):qD P o a g w H e:=by
  have hargs:=a8r (a:=a) (ρ:=ρ) hT hΓ hH (xs:=args.toList) (ts:=tys.toList) (by simpa using hlen) hρ;unfold KB at hr;split at hr
  · rename_i f caps k heq
    rw[heq] at hf
    obtain⟨vs,hcv,hfv⟩: ∃vs,wM g caps vs∧a.eval fop= .func (.func f) #[] vs.toArray:=by
      rcases hf.1 with⟨h1,_⟩ |⟨_,vs,h2,h3⟩
      ·cases h1
      · simp only[aRf,and_true] at h3
        exact⟨vs,h2,h3⟩
    obtain⟨hen,hc⟩:=a8Y hT hΓ hH (aHp hT hΓ hH hargs (a8s hT hΓ hH hcv)) hr hs hfr;intro K Q hK;refine a8t ho hfv hen (hc.mono ?_);rintro en w' ⟨v,g',rfl,hE⟩;exact⟨v,rfl,hK _ w' v hE⟩
  · rename_i f k heq
    rw[heq] at hf
    have hfv:a.eval fop= .func (.func f) #[] ([]:List Value).toArray:=by
      rcases hf.1 with⟨h1,_⟩ |⟨_,h2⟩
      ·cases h1
      ·simpa[Rd,a7H] using h2
    obtain⟨hen,hc⟩:=a8Y hT hΓ hH hargs hr hs hfr;intro K Q hK;refine a8t ho hfv hen ?_;rw[List.append_nil];refine hc.mono ?_;rintro en w' ⟨v,g',rfl,hE⟩;exact⟨v,rfl,hK _ w' v hE⟩
  ·cases hr
theorem a8Z: ∀{xs:List Operand}{ts:List TypeId},IC xs ts=true→xs.length=ts.length
  |[],[],_=>rfl
  |_::xs,_::ts,h=>by simp only[IC] at h;simp [a8Z h]
  |[],_::_,h=>by cases h
  |_::_,[],h=>by cases h
theorem YC {op:Op}(ho:o.op=op) {ρ:Operand→pA}(hρ: ∀x∈rL op,qJ g w (ρ x) (a.eval x)) {base:Nat}{e:pJ}(hr:sV T Γ o.type ρ base H op=some e) (hs: ∀p∈e.side,p) (hf:z7 g base e):qD P o a g w H e:=by
  unfold sV at hr;split at hr
  · rename_i x
    exact a79 hT hH (.inl ho) (hρ x (by simp [rL])) hr hf
  · rename_i x
    exact a79 hT hH (.inr ho) (hρ x (by simp [rL])) hr hf
  ·exact aHa hT hH ho hr hf
  · rename_i t x
    exact aG9 hT hH ho (Y0 hT hΓ hH (hρ x (by simp [rL]))) hr hf
  · rename_i t ps
    exact aGS hT hH ho (ρ:=ρ) (fun q hq=>hρ q.2 (by
      simp only[rL];generalize ps.toList=l at hq
      induction l with
      |nil=>cases hq
      |cons p l ih=>rcases aQC.1 hq with rfl|h<;>simp_all [rL.parts])) hr
  · rename_i t n ps
    exact aHf hT hH ho (ρ:=ρ) (fun q hq=>hρ q.2 (by
      simp only[rL];generalize ps.toList=l at hq
      induction l with
      |nil=>cases hq
      |cons p l ih=>rcases aQC.1 hq with rfl|h<;>simp_all [rL.parts])) hr hf
  · rename_i t x
    exact aG2 hT hH ho (hρ x (by simp [rL])) hr hs
  · rename_i t x y
    exact aHe hT hH ho (hρ x (by simp [rL])) (Y0 hT hΓ hH (hρ y (by simp [rL]))) hr hs hf
  · rename_i x
    exact aGM hT hH ho (hρ x (by simp [rL])) hr
  · rename_i op t x y t'
    cases hb:QH op (ρ x) (ρ y) with
    | some r=>
      rw[hb] at hr;exact aGD hH ho (hρ x (by simp [rL])) (hρ y (by simp [rL])) (by rw[hb];exact hr) hs
    | none=>
      rw[hb] at hr;exact aHP hT hH ho (hρ x (by simp [rL])) (hρ y (by simp [rL])) hr
  · rename_i op t x
    exact aGE hH ho (hρ x (by simp [rL])) hr hs
  · rename_i t t' x
    cases hb:QJ (qQ T t) (qQ T t') (ρ x) with
    | some r=>
      rw[hb] at hr;exact aGF hT hH ho (hρ x (by simp [rL])) (by rw[hb];exact hr)
    | none=>
      rw[hb] at hr;exact aHT hT hH ho (hρ x (by simp [rL])) hr
  · rename_i f first caps
    have hfi:first= #[]:=by
      cases hl:first.toList with
      |nil=>apply aRv.1;simpa using hl
      |cons x l=>rw[hl] at hr;cases hr
    subst hfi;exact aGW hT hH ho (ρ:=ρ) (fun x hx=>hρ x (by simpa[rL] using hx)) hr
  · rename_i t x lo hi
    refine aG3 hT hH ho (ρ:=ρ) (hρ x (by simp [rL])) (fun y hy=>hρ y ?_) (fun y hy=>hρ y ?_) hr hs
    · cases lo with
      |none=>simp at hy
      |some l=>simp at hy;subst hy;simp [rL,rL.opt,pO]
    · cases hi with
      |none=>simp at hy
      |some l=>simp at hy;subst hy;cases lo<;>simp [rL,rL.opt,pO]
  · rename_i t x f
    exact aGK hT hH ho (hρ x (by simp [rL])) hr
  · rename_i t x f
    exact aGJ hT hH ho (hρ x (by simp [rL])) hr
  · rename_i t x ix
    exact aGO hT hH ho (hρ x (by simp [rL])) (hρ ix (by simp [rL])) hr hs
  · rename_i t x ix
    exact aGN hT hH ho (hρ x (by simp [rL])) (hρ ix (by simp [rL])) hr hs
  · rename_i x i
    exact aGL hT hH ho (hρ x (by simp [rL])) hr hs
  · rename_i t r
    exact aHi hT hH ho hr hf
  · rename_i t x
    exact aHn hT hH ho (hρ x (by simp [rL])) hr hf
  · rename_i x b
    exact aHo hT hH ho (hρ x (by simp [rL])) hr
  · rename_i t x i ok
    exact aHk hT hH ho (hρ x (by simp [rL])) (hρ i (by simp [rL])) hr
  · rename_i t m k x
    exact a8o hT hH (.inl ho) (hρ m (by simp [rL])) (hρ k (by simp [rL])) (a8n (hρ x (by simp [rL]))) hr
  · rename_i t m k x
    exact a8o hT hH (.inr ho) (hρ m (by simp [rL])) (hρ k (by simp [rL])) (a8n (hρ x (by simp [rL]))) hr
  · rename_i c
    obtain⟨cal,args,tys⟩:=c;simp only at hr;unfold ID at hr;split at hr
    ·exact aGV hT hH ho (ρ:=ρ) (fun x hx=>hρ x (by simpa[rL] using hx)) hr
    ·exact aHU hT hH ho (ρ:=ρ) (fun x hx=>hρ x (by simpa[rL] using hx)) hr hs
    ·exact a7W (mx:=true) hT hH ho (ρ:=ρ) (fun x hx=>hρ x (by simpa[rL] using hx)) hr
    ·exact a7W (mx:=false) hT hH ho (ρ:=ρ) (fun x hx=>hρ x (by simpa[rL] using hx)) hr
    · rename_i f
      cases hsl:IC args.toList tys.toList with
      |false=>rw[hsl] at hr;cases hr
      | true=>
        rw[hsl] at hr;simp only[X0] at hr;exact aHY hT hΓ hH ho (hρ f (by simp [rL])) (fun x hx=>hρ x (by simp [rL];right;simpa using hx)) hr hs hf (by simpa using a8Z hT hΓ hH hsl)
    ·cases hr
  ·cases hr
end
def AS (g:Gh) (w:World) (env:List (Nat×pA)) (tmps:Array Value):Prop:= ∀t,qJ g w (lk env t) (tmps.getD t undef)
def yF (B:Nat) (w:World) (ds:List Deferred):Prop:=ds.Nodup/\∀d∈ds,∃D,d={target:= .collected D,args:= #[]}/\B<=D/\NG<=D/\w.heap[D]? =some (.deferred (some []))
theorem a80 (B:Nat) (w:World):yF B w []:=⟨List.nodup_nil,fun d hd=>by cases hd⟩
theorem yF.same {B:Nat}{w w':World}{ds:List Deferred}(h:yF B w ds) (hb: ∀D:Nat,w.heap[D]? =some (Obj.deferred (some []))->w'.heap[D]? =some (Obj.deferred (some []))):yF B w' ds:=
 ⟨h.1,fun d hd=>by obtain⟨D,h1,h2,h0,h3⟩:=h.2 d hd;exact⟨D,h1,h2,h0,hb D h3⟩⟩
def F6:Obj->Bool
 | .deferred _=>true
 | .loop _=>true
 |_=>false
theorem YD {w:World}{b:Nat}{ob:Obj}(hd:w.heap[b]? =some ob) (hm:F6 ob=true) (o:Nat):w.cell? ⟨b,o,none⟩=none:=by
 unfold World.cell?;simp only[hd];cases ob<;>first|rfl|cases hm
theorem SN {g:Gh}{w:World}{i:Nat}{blk:p9}(h:z6 g w i blk) {b o:Nat}(ho:r7 g i blk b o) {ob:Obj}(hd:w.heap[b]? =some ob) (hm:F6 ob=true):False:=by
 have hrow: ∀{e:TypeId}{c n:Nat}{v:Value}{xs:List Value},w.ownsRow 0 e c v n xs->v.ownBlock=some b->False:=by
  intro e c n v xs hr hb;rcases hr.2 with⟨rfl,_⟩ |⟨g',cap,cur,rfl,_,h3,_⟩
  ·cases hb
  ·simp only[Value.ownBlock,aQk] at hb;subst hb;rw[hd] at h3;cases h3;cases hm
 cases blk with
 |cells t x toks=>
  obtain⟨p,cs,hp,_,_,ht,_⟩:=h;obtain⟨q,hq,rfl,h1,h2⟩:=ho;rw[hp] at hq;obtain rfl:=aQo hq;have:=(ht.1 (o-p.2) (by omega)).1;rw[YD hd hm] at this;cases this
 |grow e c n=>
  obtain⟨v,xs,hv,hr,_⟩:=h;obtain⟨v',hv',hb⟩:=ho;rw[hv] at hv';obtain rfl:=aQo hv';exact hrow hr hb
 |row e t l n=>
  obtain⟨_,v,xs,hv,hr,_⟩:=h;obtain⟨v',hv',hb⟩:=ho;rw[hv] at hv';obtain rfl:=aQo hv';exact hrow hr hb
 |map k v l=>
  obtain⟨p,es,cl,hp,h0,h2,_⟩:=h;obtain⟨q,hq,h1⟩:=ho;rw[hp] at hq;obtain rfl:=aQo hq;rw[show b=p.1 from h1] at hd;rw[h2] at hd;cases hd;cases hm
 |iter s n=>
  obtain⟨p,hp,h0,h2,_⟩:=h;obtain⟨q,hq,h1⟩:=ho;rw[hp] at hq;obtain rfl:=aQo hq;rw[show b=p.1 from h1] at hd;rw[h2] at hd;cases hd;cases hm
 |dead=>exact ho.elim
theorem yF.eff {B:Nat}{g g':Gh}{w w':World}{H:r5}{e:pJ}{v:Value}{ds:List Deferred}(h:yF B w ds) (hH:rK g w H) (k:qW g w H e g' w' v):yF B w' ds:=
 h.same fun D hD=>by
  rw[k.fr.blk D (aQJ.1 hD).1 (fun o ⟨i,blk,_,h1,h2⟩=>SN (hH.blk i blk h1) h2 hD rfl)];exact hD
structure tP (B:Nat) (g:Gh) (w:World) (s:St) (a:Act):Prop where
 env:AS g w s.env a.tmps
 heap:rK g w s.H
 size:a.tmps.size=s.N
 nb: ∀i,s.nb<=i->g.J i=none/\∀n,g.cur i n=none
 def_:yF B w a.defers
 np:s.np<=s.nb
theorem aHZ (g:Gh) (w:World) (v:Value):yZ g w (W3 v) v:=by
 unfold W3;split
 ·exact vC _ _ _
 ·exact vB _ _ _ _
 ·rename_i s;have:=F2 g w s.data.toList;rw[aRS] at this;exact this
 ·exact rfl
 ·exact .inr ⟨rfl,rfl⟩
 ·exact .inr ⟨rfl,rfl⟩
 ·exact .inr ⟨rfl,rfl⟩
 ·exact trivial
theorem zC {g:Gh}{w:World}{env:List (Nat×pA)}{a:Act}(h:AS g w env a.tmps) (x:Operand):qJ g w (sN env x) (a.eval x):=by
 cases x with
 |tmp t=>exact h t
 |const v=>exact⟨aHZ g w v,trivial⟩
 |func f=>exact⟨.inr ⟨rfl,[],rfl,rfl⟩,trivial⟩
 |global i=>exact⟨trivial,trivial⟩
theorem KV {g:Gh}{w:World}{G:Bool}(hG:G=true): ∀{ss:List pA}{s:pA}{v:Value},s∈ss->(∀p∈xR G ss,p)->qJ g w s v->qJ g w (w9 s) v
 |x::ss,s,v,hm,hn,hs=>by
  have hcase: ∀{s:pA},(∀p∈xR G [s],p)->qJ g w s v->qJ g w (w9 s) v:=by
   intro s hn hs;obtain⟨d,k⟩:=s;cases d with
   |cond p d=>
    refine⟨hs.1.1 (hn (G=true->p=true) (by simp [xR]) hG),?_⟩;simp only[w9]
   |_=>exact hs
  have hsplit: ∀p,p∈xR G [x]->p∈xR G (x::ss):=by
   intro p hp;unfold xR at hp⊢;split at hp
   ·cases hp
   ·rename_i heq;simp only[aRf] at heq;obtain⟨rfl,rfl⟩:=heq;rcases aQC.1 hp with h|h
    ·exact h▸aQH
    ·cases h
   ·rename_i h0 heq;simp only[aRf] at heq;obtain⟨_,rfl⟩:=heq;cases hp
  have hsplit2: ∀p,p∈xR G ss->p∈xR G (x::ss):=by
   intro p hp;generalize hL:xR G ss=L at hp;unfold xR;split
   ·rename_i h;cases h
   ·rename_i heq;simp only[aRf] at heq;obtain⟨_,rfl⟩:=heq;rw[hL];exact aQy _ hp
   ·rename_i heq;simp only[aRf] at heq;obtain⟨_,rfl⟩:=heq;rw[hL];exact hp
  rcases aQC.1 hm with rfl|hm
  ·exact hcase (fun p hp=>hn p (hsplit p hp)) hs
  ·exact KV hG hm (fun p hp=>hn p (hsplit2 p hp)) hs
theorem SO {env:List (Nat×pA)}: ∀{xs:List Operand}{x:Operand},x∈xs->sN env x∈BL env xs
 |y::xs,x,h=>by
  simp only[BL];rcases aQC.1 h with rfl|h
  ·exact aQH
  ·exact aQy _ (SO h)
theorem YE: ∀(ops:List Oper) (j:Nat),CU ops j=(ops[j]?).bind (·.dst)
 |[],j=>by simp [CU]
 |o::_,0=>rfl
 |_::r,j+1=>by simpa[CU] using YE r j
section
variable {P:Program}{g:Gh}{w:World}{T:rQ}{Γ:tG}(hT:vT P T) (hΓ:D2 P Γ)
include hT hΓ
theorem aH0 {ops:List Oper}{o:Oper}{a:Act}{env:List (Nat×pA)}(henv:AS g w env a.tmps) {j:Nat}{b:Bool}(hg:o.guard=some (j,b)) {G:Bool}(h:EZ env b (CU ops j)=some G):Region.wanted o (yielded ops.toArray a.tmps)=G:=by
 rw[YE] at h;unfold Region.wanted;rw[hg];simp only;cases hd:(ops[j]?).bind (·.dst) with
 |none=>rw[hd] at h;cases h
 |some t=>
  rw[hd] at h;simp only[EZ] at h;have hy:yielded ops.toArray a.tmps j=match a.tmps[t]? with|some (.bool b)=>some b|_=>none:=by
   unfold yielded;have:(ops.toArray[j]?).bind (·.dst)=some t:=by simpa using hd
   rw[this];rfl
  have hv:=henv t;generalize hl:lk env t=s at h hv;unfold a7x at h;have hb: ∀c,a.tmps.getD t undef= .bool c->a.tmps[t]? =some (.bool c):=by
   intro c hc;rw[aQU] at hc;cases hq:a.tmps[t]? with
   |none=>rw[hq] at hc;simp [undef] at hc
   |some v=>rw[hq] at hc;simp at hc;rw[hc]
  split at h
  ·rename_i c k;simp only[aQk] at h;have:=hb _ (vU hv.1);rw[hy,this,<-h];cases c<;>cases b<;>rfl
  ·rename_i p c k;simp only[aQk] at h;subst h;cases p with
   |true=>
    have:=hb _ (vU (hv.1.1 rfl));rw[hy,this];cases c<;>cases b<;>rfl
   |false=>
    have hu:=hv.1.2 rfl;have: ∀c,a.tmps[t]? ≠some (.bool c):=by
     intro c hc;rw[aQU,hc] at hu;simp [undef] at hu
    rw[hy];cases hq:a.tmps[t]? with
    |none=>cases b<;>rfl
    |some v=>cases v<;>first|(exact absurd hq (this _)) |(cases b<;>rfl)
  ·cases h
theorem NU {G:Bool}{p:Prop}: ∀{l:List Prop},p∈l->(G=true->p)∈N4 G l
 |q::l,h=>by
  simp only[N4];rcases aQC.1 h with rfl|h
  ·exact aQH
  ·exact aQy _ (NU h)
theorem YF {o:Oper}{a:Act}{H:r5}(hH:rK g w H) {c x y:Operand}(hop:o.op= .pick c x y) {sc sx sy:pA}(hc:qJ g w sc (a.eval c)) (hx:qJ g w sx (a.eval x)) (hy:qJ g w sy (a.eval y)) {e:pJ}(hr:N3 sc sx sy=some e) (hs: ∀p∈e.side,p):qD P o a g w H e:=by
 intro K Q hK;unfold N3 at hr;split at hr
 ·rename_i z k;have hz:=vU hc.1;have run:(execOp a.eval o).run P w= .ok (.value (if z then a.eval x else a.eval y)) w:=by
   unfold execOp;rw[hop];simp [hz,asBool]
  have vP: ∀{v:Bool}{side:List Prop},(if z then a.eval x else a.eval y)= .bool v->e=⟨side,(.val .bool v,none),[],[]⟩->o.wp P a w K Q:=by
   intro v side hv he;subst he;refine qD.value (v:= .bool v) (g':=g) (w':=w) (H:=H) (by rw[run,hv]) (.pure hH (s:=(.val .bool v,none)) ⟨(vC g w v:yZ g w (.val .bool v) (.bool v)),trivial⟩) K Q hK
  unfold a7y at hr;split at hr
  ·rename_i m1 _ m2 _;simp only[aQk] at hr;refine vP (v:=cond z m1 m2) ?_ hr.symm;cases z
   ·exact vU hy.1
   ·exact vU hx.1
  ·rename_i p m1 _ m2 _;simp only[aQk] at hr;refine vP (v:=cond z m1 m2) ?_ hr.symm;cases z
   ·exact vU hy.1
   ·exact vU (hx.1.1 (hs (true=true->p=true) (by rw[<-hr];simp) rfl))
  ·rename_i m1 _ p m2 _;simp only[aQk] at hr;refine vP (v:=cond z m1 m2) ?_ hr.symm;cases z
   ·exact vU (hy.1.1 (hs (false=false->p=true) (by rw[<-hr];simp) rfl))
   ·exact vU hx.1
  ·rename_i q m1 _ p m2 _;simp only[aQk] at hr;refine vP (v:=cond z m1 m2) ?_ hr.symm;cases z
   ·exact vU (hy.1.1 (hs (false=false->p=true) (by rw[<-hr];simp) rfl))
   ·exact vU (hx.1.1 (hs (true=true->q=true) (by rw[<-hr];simp) rfl))
  ·cases hr
 ·cases hr
theorem a81 {ops:List Oper}{o:Oper}{a:Act}{s:St}{e:pJ}(henv:AS g w s.env a.tmps) (hH:rK g w s.H) (hr:C6 T Γ ops o s=some e) (hs: ∀p∈e.side,p) (hf:z7 g s.nb e) {K:Act->World->Prop}{Q:Exit->Act->World->Prop}
  (hK: ∀g' w' v,qW g w s.H e g' w' v->K (a.put o.dst v) w'):
  if Region.wanted o (yielded ops.toArray a.tmps) then o.wp P a w K Q else K (a.put o.dst undef) w:=by
 unfold C6 at hr;cases hgd:o.guard with
 |none=>
  rw[hgd] at hr;simp only at hr;have hw:Region.wanted o (yielded ops.toArray a.tmps)=true:=by unfold Region.wanted;rw[hgd]
  rw[aQj hw];cases hop:o.op with
  |pick c x y=>
   rw[hop] at hr;simp only[KG] at hr;exact YF hT hΓ hH hop (zC henv c) (zC henv x) (zC henv y) hr hs K Q hK
  |_=>
   rw[hop] at hr;simp only[KG] at hr;rw[<-hop] at hr;generalize hpl:sV T Γ o.type (fun x=>w9 (sN s.env x)) s.nb s.H o.op=op at hr;cases op with
   |none=>cases hr
   |some e0=>
    simp only[KE,aQk] at hr;subst hr;refine YC hT hΓ hH rfl (ρ:=fun x=>w9 (sN s.env x)) (fun x hx=> ?_) hpl (fun p hp=>hs p (vH.2 (.inr hp))) hf K Q (fun g' w' v h=>hK g' w' v ⟨h.le,h.slot,h.heap,h.fr,h.perm,h.gho,h.ty⟩);exact KV rfl (SO hx) (fun p hp=>hs p (vH.2 (.inl hp))) (zC henv x)
 |some jb=>
  obtain⟨j,b⟩:=jb;rw[hgd] at hr;simp only at hr;generalize hG:EZ s.env b (CU ops j)=oG at hr;cases oG with
  |none=>cases hr
  |some G=>
   have hw:=aH0 hT hΓ henv hgd hG;rw[hw];by_cases hpk: ∃c x y,o.op= .pick c x y
   ·obtain⟨c,x,y,hop⟩:=hpk;rw[hop] at hr;simp only[KF] at hr;generalize hpl:N3 (w9 (sN s.env c)) (sN s.env x) (sN s.env y)=op at hr;cases op with
    |none=>cases hr
    |some e0=>
     unfold GD at hr;split at hr
     ·rename_i side d k rds heq;simp only[aQk] at hr heq;subst hr;subst heq;by_cases hGt:G=true
      ·rw[aQj hGt];refine YF hT hΓ hH hop (KV hGt (ss:=[sN s.env c]) (by simp) (fun p hp=>hs p (vH.2 (.inl hp))) (zC henv c)) (zC henv x) (zC henv y) hpl (fun p hp=>hs (G=true->p) (vH.2 (.inr (NU hT hΓ hp))) hGt) K Q (fun g' w' v h=>hK g' w' v ⟨h.le,⟨⟨fun _=>h.slot.1,fun hc=>by rw[hGt] at hc;cases hc⟩,trivial⟩,h.heap,h.fr,h.perm,h.gho,h.ty⟩)
      ·rw[aQl hGt];exact hK g w undef (.pure hH ⟨⟨fun hc=>absurd hc hGt,fun _=>rfl⟩,trivial⟩)
     ·rename_i side sl u us rds heq;simp only[aQk] at hr heq;subst hr;subst heq;have hGt:G=true:=hs _ aQH;rw[aQj hGt];exact YF hT hΓ hH hop (KV hGt (ss:=[sN s.env c]) (by simp) (fun p hp=>hs p (aQy _ (vH.2 (.inl hp)))) (zC henv c)) (zC henv x) (zC henv y) hpl (fun p hp=>hs (G=true->p) (aQy _ (vH.2 (.inr (NU hT hΓ hp)))) hGt) K Q (fun g' w' v h=>hK g' w' v ⟨h.le,h.slot,h.heap,h.fr,h.perm,h.gho,h.ty⟩)
     ·cases hr
   ·have e1:KF T Γ o s (some G) o.op=GD G (xR G (BL s.env (rL o.op))) (sV T Γ o.type (fun x=>w9 (sN s.env x)) s.nb s.H o.op):=by
     cases ho:o.op<;>first|rfl|(exact absurd ⟨_,_,_,ho⟩ hpk)
    rw[e1] at hr;generalize hpl:sV T Γ o.type (fun x=>w9 (sN s.env x)) s.nb s.H o.op=op at hr;cases op with
    |none=>cases hr
    |some e0=>
     unfold GD at hr;split at hr
     ·rename_i side d k rds heq;simp only[aQk] at hr heq;subst hr;subst heq;by_cases hGt:G=true
      ·rw[aQj hGt];refine YC hT hΓ hH rfl (ρ:=fun x=>w9 (sN s.env x)) (fun x hx=> ?_) hpl (fun p hp=>hs (G=true->p) (vH.2 (.inr (NU hT hΓ hp))) hGt) (fun i hi=>by cases hi) K Q (fun g' w' v h=>hK g' w' v ⟨h.le,⟨⟨fun _=>h.slot.1,fun hc=>by rw[hGt] at hc;cases hc⟩,trivial⟩,h.heap,h.fr,h.perm,h.gho,h.ty⟩);exact KV hGt (SO hx) (fun p hp=>hs p (vH.2 (.inl hp))) (zC henv x)
      ·rw[aQl hGt];exact hK g w undef (.pure hH ⟨⟨fun hc=>absurd hc hGt,fun _=>rfl⟩,trivial⟩)
     ·rename_i side sl u us rds heq;simp only[aQk] at hr heq;subst hr;subst heq;have hGt:G=true:=hs _ aQH;rw[aQj hGt];refine YC hT hΓ hH rfl (ρ:=fun x=>w9 (sN s.env x)) (fun x hx=> ?_) hpl (fun p hp=>hs (G=true->p) (aQy _ (vH.2 (.inr (NU hT hΓ hp)))) hGt) hf K Q (fun g' w' v h=>hK g' w' v ⟨h.le,h.slot,h.heap,h.fr,h.perm,h.gho,h.ty⟩);exact KV hGt (SO hx) (fun p hp=>hs p (aQy _ (vH.2 (.inl hp)))) (zC henv x)
     ·cases hr
end
structure s3 (A:Nat->Nat->Prop) (L:List p9) (g0:Gh) (w0:World) (g:Gh) (w:World) (H:r5):Prop where
 shut: ∀b o,g0.S b o->g.S b o/\w.cell? ⟨b,o,none⟩=w0.cell? ⟨b,o,none⟩
 fr:Fr A w0 w g0.S g.S
 perm: ∀i blk b o,pC H i=some blk->r7 g i blk b o->w0.heap.size<=b\/A b o
 J: ∀i p,i<L.length->g0.J i=some p->g.J i=some p
 live: ∀i,i<L.length->(∃p,g.J i=some p)\/(∃n v,g.cur i n=some v)
 ty: ∀i u y us,i<L.length->pC H i=some (.cells u y us)->∃x ts,L[i]? =some (.cells u x ts)
 cur: ∀i n v,i<L.length->g0.cur i n=some v->g.cur i n=some v
theorem s3.eff {A:Nat->Nat->Prop}{L:List p9}{g0 g g':Gh}{w0 w w':World}{H:r5}{e:pJ}{v:Value}(h:s3 A L g0 w0 g w H) (k:qW g w H e g' w' v):s3 A L g0 w0 g' w' (pO e.upd H):=by
 have hown: ∀b o,rY g H (pE e.upd) b o->w0.heap.size<=b\/A b o:=fun b o ⟨i,blk,_,h2,h3⟩=>h.perm i blk b o h2 h3;refine⟨fun b o hs=> ?_,h.fr.trans k.fr hown,fun i blk b o hg ho=> ?_,fun i p hi hp=>k.le.J _ _ (h.J i p hi hp),fun i hi=> ?_,fun i u y us hi hg=> ?_,fun i n u hi hu=>k.le.cur _ _ _ (h.cur i n u hi hu)⟩
 ·obtain⟨h1,h2⟩:=h.shut b o hs;exact⟨k.le.S b o h1,(k.le.cell b o h1).trans h2⟩
 ·by_cases hi:i∈pE e.upd
  ·rcases k.perm i blk b o hi hg ho with h1|h1
   ·exact .inl (aRj h.fr.size h1)
   ·exact hown b o h1
  ·exact h.perm i blk b o ((BN hi).symm.trans hg) ((yD (k.gho i hi).1 (k.gho i hi).2).1 ho)
 ·rcases h.live i hi with⟨p,hp⟩ |⟨n,u,hu⟩
  ·exact .inl ⟨p,k.le.J _ _ hp⟩
  ·exact .inr ⟨n,u,k.le.cur _ _ _ hu⟩
 ·rcases k.ty i u y us hg with⟨x,ts,h1⟩ |⟨h1,h2⟩
  ·exact h.ty i u x ts hi h1
  ·rcases h.live i hi with⟨p,hp⟩ |⟨n,u,hu⟩
   ·rw[h1] at hp;cases hp
   ·rw[h2] at hu;cases hu
def yG:List (Nat×Nat)->Nat->Option Nat
 |[],_=>none
 |(n,o)::r,k=>if n=k then some o else yG r k
def t6 (g:Gh) (np:Nat) (m:List (Nat×Nat)):Gh:=
 ⟨g.S,fun i=>if i<np then g.J i else(yG m i).bind g.J,fun i n=>if i<np then g.cur i n else(yG m i).bind fun o=>g.cur o n⟩
theorem SP {n o:Nat}: ∀{m:List (Nat×Nat)},KI n o m=false->∀n' o',(n',o')∈m->n'≠n/\o'≠o
 |[],_,_,_,h=>by cases h
 |(a,b)::m,h,n',o',hm=>by
  simp only[KI,aRE,aQY] at h;rcases aQC.1 hm with h1|h1
  ·cases h1;exact h.1
  ·exact SP h.2 n' o' h1
theorem YG {np:Nat}: ∀{m:List (Nat×Nat)},wA np m=true->∀{n o:Nat},(n,o)∈m->yG m n=some o/\(n<np->o=n)
 |[],_,_,_,h=>by cases h
 |(a,b)::m,hk,n,o,h=>by
  simp only[wA,aQr,aQO,aRg,aQq] at hk;obtain⟨⟨h1,h2⟩,h3⟩:=hk;simp only[yG];rcases aQC.1 h with h4|h4
  ·cases h4;rw[aQj rfl];exact⟨rfl,fun h5=>by rcases h1 with h1|h1<;>omega⟩
  ·have h5:=SP h2 n o h4;rw[aQl (Ne.symm h5.1)];exact YG h3 h4
theorem CA: ∀{m:List (Nat×Nat)}{k j:Nat},vG m k=some j->(j,k)∈m
 |[],_,_,h=>by cases h
 |(a,b)::m,k,j,h=>by
  simp only[vG] at h;split at h
  ·rename_i e;subst e;simp only[aQk] at h;subst h;exact aQH
  ·exact aQy _ (CA h)
theorem zW {g:Gh}{np:Nat}{m:List (Nat×Nat)}(hk:wA np m=true) {n o:Nat}(h:(n,o)∈m):(t6 g np m).J n=g.J o/\(t6 g np m).cur n=g.cur o:=by
 obtain⟨h1,h2⟩:=YG hk h;refine⟨?_,?_⟩
 ·show (if n<np then g.J n else(yG m n).bind g.J)=_;by_cases hn:n<np
  ·rw[aQj hn,h2 hn]
  ·rw[aQl hn,h1];rfl
 ·funext q;show (if n<np then g.cur n q else(yG m n).bind fun o=>g.cur o q)=_;by_cases hn:n<np
  ·rw[aQj hn,h2 hn]
  ·rw[aQl hn,h1];rfl
theorem YH {g:Gh}{np:Nat}{m:List (Nat×Nat)}(hk:wA np m=true): ∀(l l':List (Nat×Nat)) (vs:List Value),wM g l vs->BM m l=some l'->wM (t6 g np m) l' vs
 |[],l',vs,h,hr=>by simp only[BM,aQk] at hr;subst hr;exact h
 |(i,o)::l,l',vs,⟨p,vs',h1,h2,h3⟩,hr=>by
  simp only[BM] at hr;cases hi:vG m i with
  |none=>rw[hi] at hr;cases hr2:BM m l<;>rw[hr2] at hr<;>cases hr
  |some j=>
   rw[hi] at hr;cases hr2:BM m l with
   |none=>rw[hr2] at hr;cases hr
   |some l2=>
    rw[hr2] at hr;simp only[BM.renCons,aQk] at hr;subst hr;exact⟨p,vs',by rw[(zW hk (CA hi)).1];exact h1,h2,YH hk l l2 vs' h3 hr2⟩
theorem aH1 {m:List (Nat×Nat)}{u t:Ty}{x y:t.den}{o:Nat}{l:List u.den}(h:yC m t x=some y) (hg:pX (.list u) t x o=some l):pX (.list u) t y o=some l:=
 Y3 (yC m) (fun _ _ _=>rfl) (fun _ _=>rfl) h hg
theorem NV {g:Gh}{w:World}{np:Nat}{m:List (Nat×Nat)}(hk:wA np m=true): ∀{t:Ty}{x y:t.den}{cs:List Value},Rd g w t x cs->yC m t x=some y->Rd (t6 g np m) w t y cs
 | .bool,_,_,_,r,h=>by cases h;exact r
 | .int _,_,_,_,r,h=>by cases h;exact r
 | .str,_,_,_,r,h=>by cases h;exact r
 | .unit,_,_,_,r,h=>by cases h;exact r
 | .list t,x,y,_,r,h=>by
  simp only[yC] at h;split at h
  ·rename_i hp;cases h;exact uF (g:=g) (g':=t6 g np m) rfl (t:= .list t) (by simpa[Ty.pure] using hp) r
  ·cases h
 | .ref,none,y,_,r,h=>by cases h;exact r
 | .ref,some (i,o),y,_,⟨p,h1,h2⟩,h=>by
  simp only[yC,RR] at h;cases hi:vG m i with
  |none=>rw[hi] at h;cases h
  |some j=>
   rw[hi] at h;cases h;exact⟨p,by rw[(zW hk (CA hi)).1];exact h1,h2⟩
 | .clo,none,y,_,r,h=>by cases h;exact r
 | .clo,some (f,l),y,_,⟨vs,h1,h2⟩,h=>by
  simp only[yC,a7C] at h;cases hi:BM m l with
  |none=>rw[hi] at h;cases h
  |some l'=>
   rw[hi] at h;cases h;exact⟨vs,YH hk l l' vs h1 hi,h2⟩
 | .fn,_,_,_,r,h=>by cases h;exact r
 | .rl _ _,none,y,_,r,h=>by cases h;exact r
 | .rl _ _,some (k,n),y,_,⟨v,h1,h2⟩,h=>by
  simp only[yC,a7E] at h;cases hi:vG m k with
  |none=>rw[hi] at h;cases h
  |some j=>
   rw[hi] at h;cases h;exact⟨v,by rw[(zW hk (CA hi)).2];exact h1,h2⟩
 | .mref,none,y,_,r,h=>by cases h;exact r
 | .mref,some (i,o),y,_,⟨p,h1,h2⟩,h=>by
  simp only[yC,RR] at h;cases hi:vG m i with
  |none=>rw[hi] at h;cases h
  |some j=>
   rw[hi] at h;cases h;exact⟨p,by rw[(zW hk (CA hi)).1];exact h1,h2⟩
 | .mp,none,y,_,r,h=>by cases h;exact r
 | .mp,some i,y,_,⟨p,h1,h2⟩,h=>by
  simp only[yC,a7D] at h;cases hi:vG m i with
  |none=>rw[hi] at h;cases h
  |some j=>
   rw[hi] at h;cases h;exact⟨p,by rw[(zW hk (CA hi)).1];exact h1,h2⟩
 | .pair a b,x,y,_,⟨c1,c2,e,r1,r2⟩,h=>by
  simp only[yC] at h;obtain⟨h1,h2⟩:=Y2 h;refine⟨c1,c2,e,?_,?_⟩
  ·split at h1
   ·rename_i hp;exact(aQo h1)▸uF (g:=g) (g':=t6 g np m) rfl hp r1
   ·exact NV hk r1 h1
  ·split at h2
   ·rename_i hp;exact(aQo h2)▸uF (g:=g) (g':=t6 g np m) rfl hp r2
   ·exact NV hk r2 h2
theorem SQ {g:Gh}{w:World}{np:Nat}{m:List (Nat×Nat)}(hk:wA np m=true) {s:pA}{v:Value}(h:qJ g w s v):qJ (t6 g np m) w (yY m s) v:=by
 have caps: ∀(l l':List (Nat×Nat)) (vs:List Value),wM g l vs->BM m l=some l'->wM (t6 g np m) l' vs:=YH hk;unfold yY;split
 ·rename_i k n k';cases hi:vG m k with
  |none=>exact⟨trivial,trivial⟩
  |some j=>
   obtain⟨h1,h2⟩:=h.1;exact⟨⟨by rw[(zW hk (CA hi)).2];exact h1,h2⟩,trivial⟩
 ·obtain h1:=h.1;refine⟨?_,trivial⟩;rcases h1 with⟨h1,_⟩ |⟨_,h2⟩
  ·cases h1
  ·exact .inr ⟨rfl,h2⟩
 ·rename_i p k;obtain⟨i,o⟩:=p;simp only[a7A];cases hi:vG m i with
  |none=>exact⟨trivial,trivial⟩
  |some j=>
   simp only[Option.map_some,yY.refSlot];obtain⟨q,hq,hv⟩:=zV h.1;exact⟨.inr ⟨rfl,q,by rw[(zW hk (CA hi)).1];exact hq,by rw[hv]⟩,trivial⟩
 ·rename_i f l k;cases hl:BM m l with
  |none=>exact⟨trivial,trivial⟩
  |some l'=>
   simp only[yY.cloSlot];rcases h.1 with⟨h1,_⟩ |⟨_,vs,h2,h3⟩
   ·cases h1
   ·exact⟨.inr ⟨rfl,vs,caps l l' vs h2 hl,h3⟩,trivial⟩
 ·rename_i i k;cases hi:vG m i with
  |none=>exact⟨trivial,trivial⟩
  |some j=>
   simp only[yY.mpSlot];rcases h.1 with⟨h1,_⟩ |⟨_,p,h2,h3⟩
   ·cases h1
   ·exact⟨.inr ⟨rfl,p,by rw[(zW hk (CA hi)).1];exact h2,h3⟩,trivial⟩
 ·rename_i t x k _ _ _ _;split
  ·rename_i hp;have hv:s9 (t6 g np m) w t x v:=h.1.imp (fun⟨a,cs,e,q⟩=>⟨a,cs,e,uF (g:=g) (g':=t6 g np m) rfl hp q⟩) (fun⟨a,q⟩=>⟨a,uF (g:=g) (g':=t6 g np m) rfl hp q⟩);refine⟨hv,?_⟩;replace h:=a8q h;generalize htk:ES t k=k' at h⊢;cases k' with
   |none=>trivial
   |some k=>
    simp only[a7B];cases hj:vG m k with
    |none=>trivial
    |some j=>
     have h2:=h.2;cases t with
     |list u=>
      show (t6 g np m).cur j _=_;rw[(zW hk (CA hj)).2];exact h2
     |pair a b=>exact h2
     |_=>exact h2.elim
  ·cases hy:yC m t x with
   |none=>exact⟨trivial,trivial⟩
   |some y=>
    simp only[yY.valSlot];exact⟨h.1.imp (fun⟨a,cs,e,q⟩=>⟨a,cs,e,NV hk q hy⟩) (fun⟨a,q⟩=>⟨a,NV hk q hy⟩),trivial⟩
 ·rename_i t x k;split
  ·rename_i hp;obtain⟨b,o,cs,h1,h2,h3,h4⟩:=h.1;exact⟨⟨b,o,cs,h1,h2,h3,uF (g:=g) (g':=t6 g np m) rfl hp h4⟩,trivial⟩
  ·exact⟨trivial,trivial⟩
 ·exact⟨trivial,trivial⟩
theorem a82 {q j:Nat}{x:Nat×Nat}: ∀{r:List (Nat×Nat)},x∈RS q j r->x=(q,j)\/x∈r
 |[],h=> .inl (aQx.1 h)
 |(a,b)::r,h=>by
  simp only[RS] at h;split at h
  ·exact aQC.1 h
  ·rcases aQC.1 h with h|h
   ·exact .inr (by rw[h];exact aQH)
   ·exact(a82 h).imp id (aQy _)
theorem SR {m:List (Nat×Nat)}: ∀{ts:List (Nat×Nat)}{q j:Nat},(q,j)∈IG m ts->∃k,(q,k)∈ts/\vG m k=some j
 |[],_,_,h=>by cases h
 |(a,b)::ts,q,j,h=>by
  simp only[IG] at h;cases hb:vG m b with
  |none=>
   rw[hb] at h;obtain⟨k,h1,h2⟩:=SR h;exact⟨k,aQy _ h1,h2⟩
  |some j'=>
   rw[hb] at h;simp only[IG.renTok1] at h;rcases a82 h with h1|h1
   ·cases h1;exact⟨b,aQH,hb⟩
   ·obtain⟨k,h1,h2⟩:=SR h1;exact⟨k,aQy _ h1,h2⟩
theorem IM {g:Gh}{w:World}{np:Nat}{m:List (Nat×Nat)}(hk:wA np m=true) {n o:Nat}(hm:(n,o)∈m) {b:Option p9}(h: ∀c,b=some c->z6 g w o c):
  z6 (t6 g np m) w n (GG m b)/\∀bb oo,r7 (t6 g np m) n (GG m b) bb oo->∃c,b=some c/\r7 g o c bb oo:=by
 obtain⟨hJ,hcur⟩:=zW (g:=g) hk hm;unfold GG;split
 ·rename_i t x toks;split
  ·rename_i hp;obtain⟨p,cs,h1,h2,h3,h4,h5,h6⟩:=h _ rfl;refine⟨⟨p,cs,by rw[hJ];exact h1,uF (g:=g) (g':=t6 g np m) rfl hp h2,h3,h4,h5,fun q j hmem=> ?_⟩,fun bb oo ⟨pp,e1,e2⟩=>⟨_,rfl,pp,by rw[hJ] at e1;exact e1,e2⟩⟩;obtain⟨k,k1,k2⟩:=SR hmem;obtain⟨u,l,v,g1,g2,g3⟩:=h6 q k k1;exact⟨u,l,v,g1,g2,by rw[(zW hk (CA k2)).2];exact g3⟩
  ·cases hy:yC m t x with
   |none=>exact⟨trivial,fun _ _ h=>h.elim⟩
   |some y=>
    obtain⟨p,cs,h1,h2,h3,h4,h5,h6⟩:=h _ rfl;simp only[X7];refine⟨⟨p,cs,by rw[hJ];exact h1,NV hk h2 hy,h3,h4,h5,fun q j hmem=> ?_⟩,fun bb oo ⟨pp,e1,e2⟩=>⟨_,rfl,pp,by rw[hJ] at e1;exact e1,e2⟩⟩;obtain⟨k,k1,k2⟩:=SR hmem;obtain⟨u,l,v,g1,g2,g3⟩:=h6 q k k1;exact⟨u,l,v,aH1 hy g1,g2,by rw[(zW hk (CA k2)).2];exact g3⟩
 ·rename_i e c k;obtain⟨v,xs,h1,h2,h3,h4⟩:=h _ rfl;exact⟨⟨v,xs,by rw[hcur];exact h1,h2,fun q hq=>by rw[hcur];exact h3 q hq,h4⟩,fun bb oo ⟨v',e1,e2⟩=>⟨_,rfl,v',by rw[hcur] at e1;exact e1,e2⟩⟩
 ·rename_i e t l n;split
  ·rename_i hp;obtain⟨h0,v,xs,h1,h2,h5,h3,h4⟩:=h _ rfl;exact⟨⟨h0,v,xs,by rw[hcur];exact h1,h2,C9 (fun _ _ h=>uF (g:=g) (g':=t6 g np m) rfl hp h) h5,fun q hq=>by rw[hcur];exact h3 q hq,h4⟩,fun bb oo ⟨v',e1,e2⟩=>⟨_,rfl,v',by rw[hcur] at e1;exact e1,e2⟩⟩
  ·exact⟨trivial,fun _ _ h=>h.elim⟩
 ·rename_i k v l;split
  ·rename_i hp;rw[aQr] at hp;obtain⟨p,es,cl,h1,h0,h2,h3,h4⟩:=h _ rfl;exact⟨⟨p,es,cl,by rw[hJ];exact h1,h0,h2,ND (g:=g) (g':=t6 g np m) rfl hp.1 hp.2 h3,h4⟩,fun bb oo ⟨pp,e1,e2⟩=>⟨_,rfl,pp,by rw[hJ] at e1;exact e1,e2⟩⟩
  ·exact⟨trivial,fun _ _ h=>h.elim⟩
 ·obtain⟨p,h1,h0,h2,h4⟩:=h _ rfl;exact⟨⟨p,by rw[hJ];exact h1,h0,h2,h4⟩,fun bb oo ⟨pp,e1,e2⟩=>⟨_,rfl,pp,by rw[hJ] at e1;exact e1,e2⟩⟩
 ·exact⟨trivial,fun _ _ h=>h.elim⟩
theorem GN {m:List (Nat×Nat)}{H:r5}: ∀{l:List (Nat×Nat)}{n:Nat}{b:p9},pC (RT m H l) n=some b->∃o,(n,o)∈l/\b=GG m (pC H o)
 |[],_,_,h=>by cases h
 |(a,c)::l,n,b,h=>by
  simp only[RT,pC] at h;split at h
  ·rename_i e;subst e;exact⟨c,aQH,(aQo h).symm⟩
  ·obtain⟨o,h1,h2⟩:=GN h;exact⟨o,aQy _ h1,h2⟩
theorem a83 {m:List (Nat×Nat)}{env:List (Nat×pA)}: ∀(l:List Nat) (t:Nat),lk (N7 m env l) t=(.any,none)\/lk (N7 m env l) t=yY m (lk env t)
 |[],_=> .inl rfl
 |a::l,t=>by
  simp only[N7,lk];split
  ·rename_i e;subst e;exact .inr rfl
  ·exact a83 l t
theorem a84: ∀{m:List (Nat×Nat)}{n o:Nat},(n,o)∈m->n<RU m
 |(a,b)::m,n,o,h=>by
  simp only[RU];rcases aQC.1 h with h1|h1
  ·cases h1;omega
  ·have:=a84 h1;omega
theorem YI: ∀{m:List (Nat×Nat)}{n o:Nat},yG m n=some o->(n,o)∈m
 |[],_,_,h=>by cases h
 |(a,b)::m,n,o,h=>by
  simp only[yG] at h;split at h
  ·rename_i e;subst e;simp only[aQk] at h;subst h;exact aQH
  ·exact aQy _ (YI h)
theorem YJ {B:Nat}{A:Nat->Nat->Prop}{L:List p9}{g0 g:Gh}{w0 w:World}{s:St}{a:Act}(h:tP B g w s a) (hg:s3 A L g0 w0 g w s.H) (hnp:s.np=L.length) (k:uV) (hk:wA s.np k.ids=true):
  tP B (t6 g s.np k.ids) w (s.keep k) a/\s3 A L g0 w0 (t6 g s.np k.ids) w (s.keep k).H/\(s.keep k).np=L.length/\(s.keep k).N=s.N:=by
 unfold St.keep;rw[hk];refine⟨⟨fun t=> ?_,⟨fun i b hb=> ?_,fun i j bi bj b o hij h1 h2 o1 o2=> ?_,h.heap.sl,h.heap.tab.1,fun i b bb oo hb ho=>by
   obtain⟨o,h1,rfl⟩:=GN hb;obtain⟨c1,e1,o1'⟩:=(IM hk h1 fun c hc=>h.heap.blk o c hc).2 bb oo ho;exact h.heap.tab.2 o c1 bb oo e1 o1'⟩,h.size,fun i hi=> ?_,h.def_,Nat.le_max_left _ _⟩,⟨hg.shut,hg.fr,fun i blk b o hb ho=> ?_,fun i p hi hp=> ?_,fun i hi=> ?_,fun i u y us hi hb=> ?_,fun i n u hi hu=>(by
   show (if i<s.np then g.cur i n else _)=_;rw[aQj (by omega)];exact hg.cur i n u hi hu)⟩,hnp,rfl⟩
 ·rcases a83 (m:=k.ids) (env:=s.env) k.slots t with e|e
  ·exact⟨by rw[show lk (N8 s k true).env t=_ from e];trivial,by rw[show lk (N8 s k true).env t=_ from e];trivial⟩
  ·have:=SQ hk (h.env t);rw[show lk (N8 s k true).env t=_ from e];exact this
 ·obtain⟨o,h1,rfl⟩:=GN hb;exact(IM hk h1 fun c hc=>h.heap.blk o c hc).1
 ·obtain⟨p,k1,rfl⟩:=GN h1;obtain⟨q,k2,rfl⟩:=GN h2;obtain⟨c1,e1,o1'⟩:=(IM hk k1 fun c hc=>h.heap.blk p c hc).2 b o o1;obtain⟨c2,e2,o2'⟩:=(IM hk k2 fun c hc=>h.heap.blk q c hc).2 b o o2;refine h.heap.dis p q c1 c2 b o (fun e=> ?_) e1 e2 o1' o2';subst e;have inj: ∀{m:List (Nat×Nat)},wA s.np m=true->∀{i j o:Nat},(i,o)∈m->(j,o)∈m->i=j:=by
   intro m
   induction m with
   |nil=>intro _ _ _ _ h;cases h
   |cons z m ih=>
    obtain⟨z1,z2⟩:=z;intro hk i j o h1 h2;simp only[wA,aQr,aQO] at hk;rcases aQC.1 h1 with h1|h1<;>rcases aQC.1 h2 with h2|h2
    ·cases h1;cases h2;rfl
    ·cases h1;exact absurd rfl (SP hk.1.2 _ _ h2).2
    ·cases h2;exact absurd rfl (SP hk.1.2 _ _ h1).2
    ·exact ih hk.2 h1 h2
  exact hij (inj hk k1 k2)
 ·have hi': ¬i<s.np:=by have:=aRj (Nat.le_max_left _ _) hi;omega
  have hold:yG k.ids i=none:=by
   cases ho:yG k.ids i with
   |none=>rfl
   |some o=>
    have:=a84 (YI ho);have:=aRj (Nat.le_max_right _ _) hi;omega
  refine⟨?_,fun n=> ?_⟩
  ·show (if i<s.np then g.J i else(yG k.ids i).bind g.J)=none;rw[aQl hi',hold];rfl
  ·show (if i<s.np then g.cur i n else(yG k.ids i).bind fun o=>g.cur o n)=none;rw[aQl hi',hold];rfl
 ·obtain⟨p,h1,rfl⟩:=GN hb;obtain⟨c,e1,e2⟩:=(IM hk h1 fun c hc=>h.heap.blk p c hc).2 b o ho;exact hg.perm p c b o e1 e2
 ·show (if i<s.np then g.J i else _)=_;rw[aQj (by omega)];exact hg.J i p hi hp
 ·rcases hg.live i hi with⟨p,hp⟩ |⟨n,v,hv⟩
  ·left;refine⟨p,?_⟩;show (if i<s.np then g.J i else _)=_;rw[aQj (by omega)];exact hp
  ·right;refine⟨n,v,?_⟩;show (if i<s.np then g.cur i n else _)=_;rw[aQj (by omega)];exact hv
 ·obtain⟨o,h1,h2⟩:=GN hb;have ho:=(YG hk h1).2 (by omega);subst ho;unfold GG at h2;split at h2
  ·rename_i t x toks heq;split at h2
   ·simp only[p9.cells.injEq] at h2;obtain⟨rfl,_⟩:=h2;exact hg.ty o u x toks hi heq
   ·cases hy:yC k.ids t x with
    |none=>rw[hy] at h2;cases h2
    |some y=>
     rw[hy] at h2;simp only[X7,p9.cells.injEq] at h2;obtain⟨rfl,_⟩:=h2;exact hg.ty o u x toks hi heq
  ·cases h2
  ·split at h2<;>cases h2
  ·split at h2<;>cases h2
  ·cases h2
  ·cases h2
theorem F7 {B:Nat}{A:Nat->Nat->Prop}{L:List p9}{g0 g:Gh}{w0 w:World}{s:St}{a:Act}(h:tP B g w s a) (hg:s3 A L g0 w0 g w s.H) (hnp:s.np=L.length) (k:uV):
  ∃g',tP B g' w (s.keep k) a/\s3 A L g0 w0 g' w (s.keep k).H/\(s.keep k).np=L.length/\(s.keep k).N=s.N:=by
 unfold St.keep;cases hk:wA s.np k.ids with
 |false=>
  refine⟨g,⟨fun t=>⟨trivial,trivial⟩,⟨(fun i b h=>by cases h),(fun i j bi bj b o _ h=>by cases h),h.heap.sl,h.heap.tab.1,(fun i b bb oo h=>by cases h)⟩,h.size,h.nb,h.def_,h.np⟩,⟨hg.shut,hg.fr,(fun i blk b o h=>by cases h),hg.J,hg.live,(fun i u y us _ h=>by cases h),hg.cur⟩,hnp,rfl⟩
 |true=>
  have:=YJ h hg hnp k hk;unfold St.keep at this;rw[hk] at this;exact⟨_,this⟩
theorem YK {g g':Gh}{w w':World}{env:List (Nat×pA)}{a:Act}{o:Oper}{sl:pA}{v:Value}(h:AS g w env a.tmps) (le:Le g w g' w') (hs:qJ g' w' sl v) {N:Nat}(hN:a.tmps.size=N) (hd:GE N o.dst=true):AS g' w' (sK o.dst sl env) (a.put o.dst v).tmps:=by
  intro t;cases ho:o.dst with
  |none=>exact AO le (h t)
  | some d=>
    rw[ho] at hd;simp only[GE,aQq] at hd;simp only[sK,lk,Act.put];by_cases hdt:d=t
    · subst hdt
      rw[aQj rfl];have hlt:d<a.tmps.size:=by rw[hN];exact hd
      have:(a.tmps.setIfInBounds d v).getD d undef=v:=by
        rw[aQU,Array.getElem?_setIfInBounds_self_of_lt hlt];rfl
      rw[this];exact hs
    · rw[aQl hdt]
      have:(a.tmps.setIfInBounds d v).getD t undef=a.tmps.getD t undef:=by
        rw[aQU,aRK hdt,←aQU]
      rw[this];exact AO le (h t)
theorem NW {n:Nat}: ∀{u:List (Nat×p9)},GF n u=true→∀{i:Nat},i∈pE u→i<n
  | (k,b)::u,h,i,hi=>by
    simp only[GF,aQr,aQq] at h;simp only[pE,aQC] at hi;rcases hi with rfl|hi
    ·exact h.1
    ·exact NW h.2 hi
theorem a85 (a:Act) (d:Option Tmp) (v:Value):(a.put d v).tmps.size=a.tmps.size:=by
  cases d<;>simp [Act.put]
theorem a86 (a:Act) (d:Option Tmp) (v:Value):(a.put d v).defers=a.defers:=by
  cases d<;>simp [Act.put]
theorem tP.step {B:Nat}{g g':Gh}{w w':World}{s:St}{a:Act}{o:Oper}{e:pJ}{v:Value}(h:tP B g w s a) (k:qW g w s.H e g' w' v) (hd:GE s.N o.dst=true) (hi:GF (s.nb+32) e.upd=true):
    tP B g' w' ⟨sK o.dst e.slot s.env,pO e.upd s.H,s.nb+32,s.N,s.np⟩ (a.put o.dst v):=by
  refine⟨YK h.env k.le k.slot h.size hd,k.heap,(a85 _ _ _).trans h.size,fun i hn=> ?_,by rw[a86];exact h.def_.eff h.heap k,aRj h.np (Nat.le_add_right _ _)⟩;have:i∉pE e.upd:=fun hm=>by have:=NW hi hm;simp only at hn;omega
  have hk:=k.gho i this;have hb:=h.nb i (by simp only at hn;omega);exact⟨hk.1.trans hb.1,fun n=>by rw[hk.2];exact hb.2 n⟩
theorem a87 {T:rQ}{Γ:tG}{ops:List Oper}: ∀(l:List Oper),uU T Γ ops l none=none
  |[]=>rfl
  |_::_=>rfl
theorem YL {T:rQ}{Γ:tG}{ops:List Oper}{o:Oper}{l:List Oper}{x y:uT}(h:uU T Γ ops (o::l) (some x)=some y):
    ∃ e,C6 T Γ ops o x.s=some e∧GE x.s.N o.dst=true∧GF (x.s.nb+32) e.upd=true∧
      uU T Γ ops l (some ⟨⟨sK o.dst e.slot x.s.env,pO e.upd x.s.H,x.s.nb+32,x.s.N,x.s.np⟩,pO x.side (pO (IE x.s.H e.upd e.rds e.upd) e.side),e::x.es⟩)=some y:=by
  simp only[uU] at h;cases he:C6 T Γ ops o x.s with
  |none=>rw[he] at h;simp only[X6] at h;rw[a87] at h;cases h
  | some e=>
    rw[he] at h;simp only[X6] at h;by_cases hc:(GE x.s.N o.dst&&GF (x.s.nb+32) e.upd)=true
    · rw[aQj hc] at h
      simp only[aQr] at hc;exact⟨e,rfl,hc.1,hc.2,h⟩
    ·rw[aQl hc,a87] at h;cases h
theorem IN {T:rQ}{Γ:tG}{ops:List Oper}: ∀{l:List Oper}{x y:uT},uU T Γ ops l (some x)=some y→(∀p∈x.side,p∈y.side)∧y.s.N=x.s.N∧y.s.np=x.s.np
  | [],x,y,h=>by
    simp only[uU,aQk] at h;subst h;exact⟨fun _ h=>h,rfl,rfl⟩
  | o::l,x,y,h=>by
    obtain⟨e,_,_,_,h4⟩:=YL h;obtain⟨h5,h6,h7⟩:=IN h4;exact⟨fun p hp=>h5 p (vH.2 (.inl hp)),h6,h7⟩
def E2 (ro:Option Nat):Fence:={Fence.wide with round:=ro}
theorem a88 {ro:Option Nat}{n:Nat}{P:Program}{f:FuncId}{args:Array Value}{w:World}{R:Ending→World→Prop}(h:Calls P f args w R):CallsIn (E2 ro) n P f args w R:=callsIn_wide.2 h
section
variable {B:Nat}{P:Program}{T:rQ}{Γ:tG}(hT:vT P T) (hΓ:D2 P Γ) {A:Nat→Nat→Prop}{L:List p9}{g0:Gh}{w0:World}{Q:Exit→Act→World→Prop}
include hT hΓ
theorem aH2 {g:Gh}{w:World}{s:St}{a:Act}(h:tP B g w s a) (e:pJ):z7 g s.nb e:=fun i _ hb=>h.nb i hb
omit hT hΓ in
theorem a89 {ops:List Oper}{o:Oper}{s:St}{e:pJ}(h:C6 T Γ ops o s=some e): ∀c,o.op≠.defer c:=by
  intro c hc;unfold C6 at h;cases hg:o.guard with
  |none=>rw[hg,hc] at h;simp [KG,sV,KE] at h
  |some jb=>rw[hg,hc] at h;simp only at h;cases hG:EZ s.env jb.2 (CU ops jb.1)<;>rw[hG] at h<;>simp [KF,sV,GD] at h
omit hT hΓ in
theorem a9a {ro:Option Nat}{o:Oper}{a:Act}{w:World}{K:Act→World→Prop}(hd: ∀c,o.op≠.defer c) (h:o.wp P a w K Q):o.wpIn (E2 ro) 0 P a w K Q:=by
  refine⟨fun _ _=>trivial,?_⟩;rw[Oper.semAt_eq _ _ _ hd];unfold Oper.wp at h;generalize (execOp a.eval o).run P w=r at h⊢;unfold Oper.upon at h;unfold Oper.uponIn;split at h
  ·exact h
  ·exact h
  ·exact h
  ·exact⟨fun h0=>(by cases h0),a88 h⟩
  ·exact⟨fun h0=>(by cases h0),fun c cs _=>let ⟨v,w',r,s⟩:=h c cs;⟨v,w',r,stepsIn_wide.2 s⟩⟩
  ·exact h
  ·exact h.elim
theorem a9b {ro:Option Nat}{ops:Array Oper}: ∀{l:List Oper}{x y:uT}{a:Act}{w:World}{g:Gh},uU T Γ ops.toList l (some x)=some y→(∀p∈y.side,p)→tP B g w x.s a→s3 A L g0 w0 g w x.s.H→
    (∀g' a' w',tP B g' w' y.s a'→s3 A L g0 w0 g' w' y.s.H→Q .normal a' w')→wpListIn (E2 ro) 0 P ops Q l a w
  | [],x,y,a,w,g,h,hs,hr,hg,hQ=>by
    simp only[uU,aQk] at h;subst h;exact hQ g a w hr hg
  | o::l,x,y,a,w,g,h,hs,hr,hg,hQ=>by
    obtain⟨e,h1,h2,h3,h4⟩:=YL h;have hside: ∀p∈e.side,p:=fun p hp=>hs p ((IN h4).1 p (vH.2 (.inr (vH.2 (.inr hp)))));have key:=a81 hT hΓ (ops:=ops.toList) (o:=o) (a:=a) (K:=wpListIn (E2 ro) 0 P ops Q l) (Q:=Q) hr.env hr.heap h1 hside (aH2 hT hΓ hr e) (fun g' w' v k=>a9b h4 hs (hr.step k h2 h3) (hg.eff k) hQ);simp only[aRS] at key;unfold wpListIn;split at key
    ·rename_i hw;rw[aQj hw];exact a9a (a89 h1) key
    ·rename_i hw;rw[aQl hw];exact⟨fun _ _=>trivial,key⟩
theorem aH3 {ro:Option Nat}{id:Nat}{ops:Array Oper}{s:St}{y:uT}{a:Act}{w:World}{g:Gh}(h:uU T Γ ops.toList ops.toList (some ⟨s,[],[]⟩)=some y) (hs: ∀p∈y.side,p) (hr:tP B g w s a) (hg:s3 A L g0 w0 g w s.H)
    (hQ: ∀g' a' w',tP B g' w' y.s a'→s3 A L g0 w0 g' w' y.s.H→Q .normal a' w'):(Code.region id ops false).wpIn (E2 ro) 0 P Q a w:=
  wpIn_region_list (a9b hT hΓ h hs hr hg hQ)
end
theorem YM {ρ ρ':Operand→pA}: ∀{xs:List Operand},(∀x∈xs,ρ' x=ρ x)→tY ρ' xs=tY ρ xs
  |[],_=>rfl
  |x::xs,h=>by simp only[tY,h x (by simp),YM (fun y hy=>h y (aQy _ hy))]
theorem YN {ρ ρ':Operand→pA}: ∀{xs:List (Nat×Operand)},(∀x∈xs,ρ' x.2=ρ x.2)→sZ ρ' xs=sZ ρ xs
  |[],_=>rfl
  |(i,x)::xs,h=>by simp only[sZ,h (i,x) (by simp),YN (fun y hy=>h y (aQy _ hy))]
theorem a9c {T:rQ}{ρ ρ':Operand→pA}: ∀{xs:List Operand}{ts:List TypeId},(∀x∈xs,ρ' x=ρ x)→EX T ρ' xs ts=EX T ρ xs ts
  |[],_,_=>by simp [EX]
  |_::_,[],_=>by simp [EX]
  |x::xs,t::ts,h=>by simp only[EX,h x (by simp),a9c (fun y hy=>h y (aQy _ hy))]
theorem aH4 {T:rQ}{Γ:tG}{ty:TypeId}{ρ ρ':Operand→pA}{base:Nat}{H:List (Nat×p9)}(op:Op) (h: ∀x∈op.operands,ρ' x=ρ x):sV T Γ ty ρ' base H op=sV T Γ ty ρ base H op:=by
  cases op
  case slice t x lo hi mx=>
    cases mx with
    |some m=>rfl
    | none=>
      have h1:=h x (by simp [Op.operands])
      have h2:yB ρ' lo=yB ρ lo:=by
        cases lo with
        |none=>rfl
        |some l=>simp only[yB,h l (by simp [Op.operands])]
      have h3:yB ρ' hi=yB ρ hi:=by
        cases hi with
        |none=>rfl
        |some l=>simp only[yB,h l (by simp [Op.operands])]
      simp only[sV,h1,h2,h3]
  case call c=>
    obtain⟨callee,args,tys⟩:=c
    have ha: ∀x∈args.toList,ρ' x=ρ x:=fun x hx=>h x (by
      have:x∈args:=by simpa using hx
      simp only[Op.operands,Call.operands];split<;>simp [this])
    cases callee with
    |builtin b=>cases b<;>simp only[sV,ID,YM ha]
    | value f=>
      have hf:=h f (by simp [Op.operands,Call.operands]);simp only[sV,ID,hf];cases IC args.toList tys.toList with
      |false=>rfl
      |true=>simp only[X0,a9c ha]
    |_=>rfl
  case build t ps=>simp only[sV,YN (fun x hx=>h x.2 (by simp only[Op.operands,aSi];exact List.mem_map_of_mem hx))]
  case buildSlice t n ps=>simp only[sV,YN (fun x hx=>h x.2 (by simp only[Op.operands,aSi];exact List.mem_map_of_mem hx))]
  case makeFunc f first caps=>
    cases f with
    | func f=>
      have hc: ∀x∈caps.toList,ρ' x=ρ x:=fun x hx=>h x (by
        have:x∈caps:=by simpa using hx
        simp [Op.operands,this])
      simp only[sV,YM hc]
    |_=>rfl
  all_goals first
    |rfl
    |(simp only[Op.operands,aSi,aQC,aSh,or_false,forall_eq,forall_eq_or_imp] at h;simp only[sV,h])
    |(simp [Op.operands] at h;simp only[sV,h])
theorem YO: ∀{l acc:List qB}{i:Nat},i∈rD (y9 l acc)↔i∈rD l∨i∈rD acc
  |[],_,_=>by simp [y9,rD]
  | w::l,acc,i=>by
    simp only[y9,YO,rD,aQC];constructor
    · rintro(h|h|h)
      ·exact .inl (.inr h)
      ·exact .inl (.inl h)
      ·exact .inr h
    · rintro((h|h) |h)
      ·exact .inr (.inl h)
      ·exact .inl h
      ·exact .inr (.inr h)
section
variable {H H':List (Nat×p9)}
theorem aH5 {k:Option Nat}{a b:rX}(h:yA H k (some a)=some b):(∀i,i∈rD a.ws→i∈rD b.ws)∧((∀i,i∈rD b.ws→pC H' i=pC H i)→yA H' k (some a)=some b):=by
  cases k with
  | none=>
    have h:none=some b:=h;cases h
  | some k=>
    simp only[yA] at h⊢
    have:(∃e c m,pC H k=some (.grow e c m)):=by
      cases hg:pC H k with
      |none=>rw[hg] at h;cases h
      | some bl=>cases bl with
        |grow e c m=>exact⟨_,_,_,rfl⟩
        |_=>rw[hg] at h;cases h
    obtain⟨e,c,m,hg⟩:=this;rw[hg] at h;simp only[BF] at h;split at h
    ·cases h
    · rename_i hm
      simp only[aQk] at h;subst h;refine⟨fun i hi=>by simp only[rD,aQC];exact .inr hi,fun hl=> ?_⟩;rw[hl k (by simp [rD,qB.id]),hg];simp only[BF];rw[aQl hm]
theorem aH6 (H:List (Nat×p9)) (k:Option Nat):yA H k none=none:=by
  cases k with
  |none=>rfl
  | some k=>
    simp only[yA];cases pC H k with
    |none=>rfl
    |some bl=>cases bl<;>rfl
theorem a9d (H:List (Nat×p9)) (toks:List (Nat×Nat)) (o:Nat): ∀(qs:List Nat),xB H toks o qs none=none
  |[]=>rfl
  |q::qs=>by simp only[xB,aH6,a9d H toks o qs]
theorem a9e {H H':List (Nat×p9)}{toks:List (Nat×Nat)}{o:Nat}: ∀{qs:List Nat}{a b:rX},xB H toks o qs (some a)=some b→(∀i,i∈rD a.ws→i∈rD b.ws)∧((∀i,i∈rD b.ws→pC H' i=pC H i)→xB H' toks o qs (some a)=some b)
  |[],a,b,h=>by simp only[xB,aQk] at h;subst h;exact⟨fun _ h=>h,fun _=>rfl⟩
  | q::qs,a,b,h=>by
    simp only[xB] at h⊢;cases hm:yA H (vR toks (o+q)) (some a) with
    |none=>rw[hm,a9d] at h;cases h
    | some m=>
      rw[hm] at h;obtain⟨h1,h2⟩:=aH5 (H':=H') hm;obtain⟨h3,h4⟩:=a9e (H':=H') h;exact⟨fun i hi=>h3 i (h1 i hi),fun hl=>by rw[h2 (fun i hi=>hl i (h3 i hi))];exact h4 hl⟩
theorem aH7 (H H':List (Nat×p9)) (a:rX) (s:pA):wK H' a .v s=wK H a .v s:=by
  obtain⟨d,k⟩:=s;cases d with
  | val t x=>
    cases t with
    | clo=>
      cases x with
      |none=>rfl
      |some q=>obtain⟨f,l⟩:=q;cases l<;>rfl
    |_=>rfl
  |_=>rfl
theorem a9f {H H':List (Nat×p9)}{t:Ty}{os:List Nat}{i o:Nat}{a b:rX}(h:uE H t os i o a (pC H i)=some b):(∀i,i∈rD a.ws→i∈rD b.ws)∧((∀i,i∈rD b.ws→pC H' i=pC H i)→uE H' t os i o a (pC H' i)=some b):=by
  cases hg:pC H i with
  |none=>rw[hg] at h;simp [uE] at h
  | some bl=>
    rw[hg] at h;cases bl with
    | cells u x toks=>
      simp only[uE] at h;cases hy:pX t u x o with
      |none=>rw[hy] at h;simp [DQ] at h
      | some y=>
        rw[hy] at h;simp only[DQ] at h;split at h
        · rename_i hc
          obtain⟨h3,h4⟩:=a9e (H':=H') h;refine⟨fun j hj=>h3 j (by simp only[rD,aQC];exact .inr hj),fun hl=> ?_⟩;rw[hl i (h3 i (by simp [rD,qB.id])),hg];simp only[uE,hy,DQ];rw[aQj hc];exact h4 hl
        ·cases h
    |_=>simp [uE] at h
theorem aH8 (H:List (Nat×p9)) (f:FuncId) (args:List pA) (ks:List (Ty×List Nat)) (cs ids:List (Nat×Nat)):w6 H f args ks cs ids none=none:=by cases ks<;>cases cs<;>rfl
theorem a9g {H H':List (Nat×p9)}{f:FuncId}{args:List pA}: ∀{ks:List (Ty×List Nat)}{cs ids:List (Nat×Nat)}{a b:rX},w6 H f args ks cs ids (some a)=some b→(∀i,i∈rD a.ws→i∈rD b.ws)∧((∀i,i∈rD b.ws→pC H' i=pC H i)→w6 H' f args ks cs ids (some a)=some b)
  | [],[],ids,a,b,h=>by
    simp only[w6,aQk] at h⊢;subst h;exact⟨fun _ h=>h,fun _=>rfl⟩
  |[],_::_,_,_,_,h=>by simp [w6] at h
  |_::_,[],_,_,_,h=>by simp [w6] at h
  | (t,os)::ks,(i,o)::cs,ids,a,b,h=>by
    simp only[w6] at h⊢;cases hb:uE H t os i o a (pC H i) with
    |none=>rw[hb,aH8] at h;cases h
    | some m=>
      rw[hb] at h;obtain⟨h1,h2⟩:=a9f (H':=H') hb;obtain⟨h3,h4⟩:=a9g (H':=H') h;exact⟨fun i hi=>h3 i (h1 i hi),fun hl=>by rw[h2 (fun i hi=>hl i (h3 i hi))];exact h4 hl⟩
theorem a9h {p:PK}{s:pA}{a b:rX}(h:wK H a p s=some b):(∀i,i∈rD a.ws→i∈rD b.ws)∧((∀i,i∈rD b.ws→pC H' i=pC H i)→wK H' a p s=some b):=by
  by_cases hpv:p= .v
  · subst hpv
    refine⟨?_,fun _=>by rw[aH7 H H'];exact h⟩;unfold wK at h;split at h
    ·simp only[QN,aQk] at h;subst h;exact fun _ h=>h
    · simp only[QM] at h
      split at h
      ·simp only[aQk] at h;subst h;exact fun _ h=>h
      ·cases h
    ·rename_i h1;cases h1
    ·rename_i h1;cases h1
    ·rename_i h1;cases h1
    ·rename_i h1;cases h1
    ·rename_i h1;cases h1
    ·cases h
  unfold wK at h;split at h
  ·exact absurd rfl hpv
  ·exact absurd rfl hpv
  · rename_i t x k
    simp only[wK];cases hg:pC H k with
    |none=>rw[hg] at h;simp [BG] at h
    | some bl=>
      rw[hg] at h;cases bl with
      | grow e c m=>
        simp only[BG] at h;split at h
        · rename_i hc
          simp only[aQk] at h;subst h;refine⟨fun i hi=>by simp only[rD,aQC];exact .inr hi,fun hl=> ?_⟩;rw[hl k (by simp [rD,qB.id]),hg];simp only[BG];rw[aQj hc]
        ·cases h
      |_=>simp [BG] at h
  · rename_i t os i o k
    simp only[wK];exact a9f h
  · rename_i i k
    simp only[wK];cases hg:pC H i with
    |none=>rw[hg] at h;simp [BH] at h
    | some bl=>
      rw[hg] at h;cases bl with
      | map s t l=>
        simp only[BH] at h;split at h
        · rename_i hc
          simp only[aQk] at h;subst h;refine⟨fun j hj=>by simp only[rD,aQC];exact .inr hj,fun hl=> ?_⟩;rw[hl i (by simp [rD,qB.id]),hg];simp only[BH];rw[aQj hc]
        ·cases h
      |_=>simp [BH] at h
  · rename_i k n k'
    simp only[wK];cases hg:pC H k with
    |none=>rw[hg] at h;simp [BI] at h
    | some bl=>
      rw[hg] at h;cases bl with
      | row e t l m=>
        simp only[BI] at h;split at h
        · rename_i hc
          simp only[aQk] at h;subst h;refine⟨fun j hj=>by simp only[rD,aQC];exact .inr hj,fun hl=> ?_⟩;rw[hl k (by simp [rD,qB.id]),hg];simp only[BI];rw[aQj hc]
        ·cases h
      |_=>simp [BI] at h
  · simp only[wK]
    exact a9g h
  ·cases h
theorem a9i (H:List (Nat×p9)) (gs:List (Nat×Nat×PK)):AL H gs none=none:=by cases gs<;>rfl
theorem a9j {H H':List (Nat×p9)}: ∀{gs:List (Nat×Nat×PK)}{a b:rX},AL H gs (some a)=some b→(∀i,i∈rD a.ws→i∈rD b.ws)∧((∀i,i∈rD b.ws→pC H' i=pC H i)→AL H' gs (some a)=some b)
  |[],a,b,h=>by simp only[AL,aQk] at h;subst h;exact⟨fun _ h=>h,fun _=>rfl⟩
  | (c,q,pk)::gs,a,b,h=>by
    simp only[AL] at h⊢;cases hm:wK H a pk (I3 q pk (G9 a.H (a.n-1-c))) with
    |none=>rw[hm] at h;simp only[K4,a9i] at h;cases h
    | some m=>
      rw[hm] at h;simp only[K4] at h;obtain⟨h1,h2⟩:=a9h (H':=H') hm;obtain⟨h3,h4⟩:=a9j (H':=H') h;exact⟨fun i hi=>h3 i (h1 i hi),fun hl=>by rw[h2 (fun i hi=>hl i (h3 i hi))];simp only[K4];exact h4 hl⟩
theorem aH9 (H:List (Nat×p9)): ∀(ps:List PK) (ss:List pA),w7 H ps ss none=none
  |[],[]=>rfl
  |[],_::_=>rfl
  |_::_,[]=>rfl
  |_::_,_::_=>rfl
theorem a9k {H H':List (Nat×p9)}: ∀{ps:List PK}{ss:List pA}{a b:rX},w7 H ps ss (some a)=some b→(∀i,i∈rD a.ws→i∈rD b.ws)∧((∀i,i∈rD b.ws→pC H' i=pC H i)→w7 H' ps ss (some a)=some b)
  |[],[],a,b,h=>by simp only[w7,aQk] at h;subst h;exact⟨fun _ h=>h,fun _=>rfl⟩
  |[],_::_,a,b,h=>by simp [w7] at h
  |_::_,[],a,b,h=>by simp [w7] at h
  | p::ps,s::ss,a,b,h=>by
    simp only[w7] at h⊢;cases hm:wK H a p s with
    |none=>rw[hm,aH9] at h;cases h
    | some m=>
      rw[hm] at h;obtain⟨h1,h2⟩:=a9h (H':=H') hm;obtain⟨h3,h4⟩:=a9k (H':=H') h;exact⟨fun i hi=>h3 i (h1 i hi),fun hl=>by rw[h2 (fun i hi=>hl i (h3 i hi))];exact h4 hl⟩
theorem a9l {H H':List (Nat×p9)}{base:Nat}{args:List pA}{s:pY}{e:pJ}(h:EV H base args (some s)=some e) (hl: ∀i∈e.rds,pC H' i=pC H i):EV H' base args (some s)=some e:=by
  simp only[EV] at h⊢;cases hp0:w7 H s.ps args (some ⟨[],[],[],0⟩) with
  |none=>rw[hp0,a9i] at h;cases h
  |some a0=>
   rw[hp0] at h;cases hp:AL H s.gs (some a0) with
   |none=>rw[hp] at h;cases h
   |some a=>
    rw[hp] at h
    have hrd: ∀i,i∈rD (y9 a.ws [])→i∈e.rds:=by
      simp only[MW] at h;cases hcl:GA (y9 a.ws []) (y9 a.H []) with
      |none=>rw[hcl] at h;cases h
      |some L=>
      rw[hcl] at h;simp only[QT] at h;cases hc:s.C (y9 a.args []) L with
      |none=>rw[hc] at h;cases h
      | some r=>
        rw[hc] at h;simp only[QS] at h;unfold MU at h;split at h
        · simp only[aQk] at h
          rw[←h];exact fun i hi=>vH.2 (.inl hi)
        ·cases h
    obtain⟨g1,g2⟩:=a9j (H':=H') hp;rw[(a9k (H':=H') hp0).2 (fun i hi=>hl i (hrd i (YO.2 (.inl (g1 i hi))))),g2 (fun i hi=>hl i (hrd i (YO.2 (.inl hi))))];exact h
theorem a9m {H H':List (Nat×p9)}{base:Nat}{args:List pA}{s:Option pY}{e:pJ}(h:IB H base args s=some e) (hl: ∀i∈e.rds,pC H' i=pC H i):IB H' base args s=some e:=by
  cases s with
  |none=>cases h
  | some s=>
    simp only[IB] at h⊢;cases hr:s.row with
    | some F=>
      rw[hr] at h;simp only[RF] at h⊢;unfold QU at h⊢;split at h
      · rename_i k n x
        cases hg:pC H k with
        |none=>rw[hg] at h;cases h
        | some b=>
          have hk:k∈e.rds:=by
            rw[hg] at h;cases b with
            | row e0 t l m=>
              simp only[WF] at h;unfold a7j at h;split at h
              ·simp only[aQk] at h;rw[←h];simp
              ·cases h
            |_=>cases h
          rw[hl k hk];exact h
      ·cases h
    | none=>
      rw[hr] at h;simp only[RF] at h⊢;cases hn:MX s.ps args with
      |none=>rw[hn] at h;exact a9l h hl
      | some k=>
        rw[hn] at h;simp only[a7i] at h⊢;cases hg:pC H k with
        |none=>rw[hg] at h;cases h
        | some b=>
          rw[hg] at h;cases b with
          | row e0 t l m=>
            simp only[MZ] at h;cases hi:EV ((k,.dead)::H) base (MY k t l args) (some s) with
            |none=>rw[hi] at h;cases h
            | some e1=>
              rw[hi] at h
              have hk:k∈e.rds∧∀i∈e1.rds,i∈e.rds:=by
                unfold WE at h;split at h
                · rename_i heq
                  simp only[aQk] at heq;subst heq;split at h
                  · simp only[aQk] at h
                    rw[←h];exact⟨by simp,fun i hi=>aQy _ hi⟩
                  ·cases h
                ·cases h
              rw[hl k hk.1,hg];simp only[MZ]
              rw[a9l hi (fun i hi'=>by
                simp only[pC];split
                ·rfl
                ·exact hl i (hk.2 i hi'))]
              exact h
          |_=>cases h
theorem aIa {Γ:tG}{base:Nat}{args:List pA}{f:pA}{e:pJ}(h:KB Γ H base args f=some e) (hl: ∀i∈e.rds,pC H' i=pC H i):KB Γ H' base args f=some e:=by
  unfold KB at h⊢;split at h
  ·exact a9m h hl
  ·exact a9m h hl
  ·cases h
theorem aIb {T:rQ}{Γ:tG}{ty:TypeId}{ρ:Operand→pA}{base:Nat}{op:Op}{e:pJ}(h:sV T Γ ty ρ base H op=some e) (hl: ∀i∈e.rds,pC H' i=pC H i):sV T Γ ty ρ base H' op=some e:=by
  cases op
  case load t x=>
    simp only[sV] at h⊢;unfold QZ at h⊢;split at h
    · rename_i ti k n c i o' _ e1 e2
      unfold N2 at h;split at h
      · rename_i e' t' l m hg
        split at h
        · rename_i hc
          have:e.rds=[k]:=by
            unfold a7p at h;split at h
            ·simp only[aQk] at h;rw[←h]
            ·cases h
          rw[hl k (by rw[this];simp),hg];simp only[N2];rw[aQj hc];exact h
        ·cases h
      ·cases h
    ·exact h
    · rename_i ti i off k e1 e2
      have hi:i∈e.rds:=by
        rcases a71 h with h|h
        · unfold N1 at h
          split at h
          · unfold a7o at h;split at h
            ·simp only[aQk] at h;rw[←h];simp
            ·cases h
          ·cases h
        · unfold QY at h
          split at h
          · unfold WP at h;split at h
            ·simp only[aQk] at h;rw[←h];simp
            ·cases h
          ·cases h
      rw[hl i hi];exact h
    ·cases h
  case store t x y=>
    simp only[sV] at h⊢;unfold R5 at h⊢;split at h
    · rename_i ti i off k kk n k' e1 e2 e3
      have hi:i∈e.rds:=by
        unfold WQ at h;split at h
        · unfold R0 at h;split at h
          ·simp only[aQk] at h;rw[←h];simp
          ·cases h
        ·cases h
      rw[hl i hi];exact h
    · rename_i ti k n c i o' _ t y k' e1 e2 e3
      split at h
      · rename_i ht
        rw[aQj ht];unfold R4 at h;split at h
        · rename_i e' t' l m hg
          split at h
          · rename_i hc
            have:e.rds=[k]:=by
              unfold a7r at h;split at h
              ·simp only[aQk] at h;rw[←h]
              ·cases h
            rw[hl k (by rw[this];simp),hg];simp only[R4];rw[aQj hc];exact h
          ·cases h
        ·cases h
      ·cases h
    · rename_i ti i off k t y k' e1 e2 e3
      split at h
      · rename_i ht
        have hi:e.rds=[i]:=by
          unfold R3 at h;split at h
          · unfold R2 at h
            split at h
            · unfold a7q at h;split at h
              ·simp only[aQk] at h;rw[←h]
              ·cases h
            ·cases h
          · unfold R1 at h
            split at h
            · unfold R0 at h;split at h
              ·simp only[aQk] at h;rw[←h]
              ·cases h
            ·cases h
        rw[hl i (by rw[hi];simp)];simp only[aQj ht];exact h
      ·cases h
    ·cases h
  case call c=>
    obtain⟨callee,args,tys⟩:=c;cases callee with
    | builtin b=>
      cases b
      case append=>
        simp only[sV,ID] at h⊢;unfold RI at h⊢;split at h
        · split at h
          · rename_i hu
            rw[aQj hu];unfold RD at h⊢;split at h
            · split at h
              · rename_i hbu
                rw[aQj hbu];unfold RC at h;split at h
                · rename_i hg
                  split at h
                  · rename_i hbt
                    split at h
                    · rename_i hc
                      simp only[aQk] at h;subst h;rw[hl _ (aQH),hg];simp only[RC];rw[aSw hbt,aQj hc]
                    ·cases h
                  ·cases h
                ·cases h
              ·cases h
            · split at h
              · rename_i hba
                rw[aSw hba];unfold RB at h;split at h
                · rename_i hg
                  split at h
                  · rename_i hc
                    simp only[aQk] at h;subst h;rw[hl _ (aQH),hg];simp only[RB];rw[aQj hc]
                  ·cases h
                ·cases h
              ·cases h
            ·cases h
          · rename_i hu
            rw[aQl hu];unfold WZ at h⊢;split at h
            · unfold RH at h
              split at h
              · rename_i hg
                split at h
                · rename_i hc
                  simp only[aQk] at h;subst h;rw[hl _ (aQH),hg];simp only[RH];rw[aQj hc]
                ·cases h
              ·cases h
            ·cases h
        ·cases h
      case len=>
        simp only[sV,ID] at h⊢;unfold RG at h⊢;split at h
        · unfold WX at h⊢
          split at h
          · unfold RA at h
            split at h
            · rename_i hg
              simp only[aQk] at h;subst h;rw[hl _ (aQH),hg];simp only[RA]
            ·cases h
          all_goals exact h
        ·cases h
      all_goals exact h
    | value f=>
      simp only[sV,ID] at h⊢;cases hsl:IC args.toList tys.toList with
      |false=>rw[hsl] at h;cases h
      |true=>rw[hsl] at h;exact aIa h hl
    |_=>exact h
  case makeFunc f first caps=>
    cases f with
    |func f=>exact h
    |_=>exact h
  case slice t x lo hi mx=>
    cases mx with
    |none=>exact h
    |some m=>exact h
  case next x b=>
    simp only[sV] at h⊢;unfold RN at h⊢;split at h
    · rename_i i k e1
      unfold X5 at h;split at h
      · rename_i hg
        have:e.rds=[i]:=by
          simp only[aQk] at h;rw[←h]
        rw[hl i (by rw[this];simp),hg];exact h
      ·cases h
    ·cases h
  case lookup xt x ix ok=>
    simp only[sV] at h⊢;unfold RK at h⊢;split at h
    · rename_i el fl ar ls_ i kk e1 e2
      unfold X2 at h⊢;split at h
      · rename_i kt vt k a _
        split at h
        · rename_i hk
          rw[aQj hk];unfold RJ at h;split at h
          · rename_i hg
            split at h
            · rename_i hkv
              split at h
              · rename_i hkey
                have:e.rds=[i]:=by
                  cases ok<;>(simp only[aQk] at h;rw[←h])
                rw[hl i (by rw[this];simp),hg];simp only[RJ];rw[aSw hkv,aQj hkey];exact h
              ·cases h
            ·cases h
          ·cases h
        ·cases h
      ·cases h
    ·cases h
  case mapUpdate mt m x y=>
    simp only[sV] at h⊢;unfold KD at h⊢;split at h
    · rename_i el fl ar ls_ i kk e1 e2
      unfold RL at h⊢;split at h
      · rename_i kt k a _ u b _
        split at h
        · rename_i hk
          rw[aQj hk];unfold KC at h;split at h
          · rename_i hg
            split at h
            · rename_i hkv
              split at h
              · rename_i hkey
                have:e.rds=[i]:=by
                  simp only[aQk] at h;rw[←h]
                rw[hl i (by rw[this];simp),hg];simp only[KC];rw[aSw hkv,aQj hkey];exact h
              ·cases h
            ·cases h
          ·cases h
        ·cases h
      ·cases h
    ·cases h
  case insert mt m x y=>
    simp only[sV] at h⊢;unfold KD at h⊢;split at h
    · rename_i el fl ar ls_ i kk e1 e2
      unfold RL at h⊢;split at h
      · rename_i kt k a _ u b _
        split at h
        · rename_i hk
          rw[aQj hk];unfold KC at h;split at h
          · rename_i hg
            split at h
            · rename_i hkv
              split at h
              · rename_i hkey
                have:e.rds=[i]:=by
                  simp only[aQk] at h;rw[←h]
                rw[hl i (by rw[this];simp),hg];simp only[KC];rw[aSw hkv,aQj hkey];exact h
              ·cases h
            ·cases h
          ·cases h
        ·cases h
      ·cases h
    ·cases h
  all_goals exact h
end
theorem aIc {T:rQ}{Γ:tG}{ops:Array Oper}{o:Oper}{s s':St}{e:pJ}(h:C6 T Γ ops.toList o s=some e) (ht: ∀t∈o.looksAt ops,lk s'.env t=lk s.env t) (hH: ∀i∈e.rds,pC s'.H i=pC s.H i) (hn:s'.nb=s.nb):C6 T Γ ops.toList o s'=some e:=by
 have hop: ∀x∈o.op.operands,sN s'.env x=sN s.env x:=fun x hx=>by
  cases x with
  |tmp t=>exact ht t (by simp only[Oper.looksAt,aRe,List.mem_filterMap];exact .inl ⟨.tmp t,by simpa using hx,rfl⟩)
  |_=>rfl
 have hops:BL s'.env (rL o.op)=BL s.env (rL o.op):=by
  have hsub: ∀x∈rL o.op,x∈o.op.operands:=by
   have hp: ∀(l:List (Nat×Operand)) x,x∈rL.parts l->x∈l.map (·.2):=by
    intro l
    induction l with
    |nil=>intro x h;exact h
    |cons q l ih=>
     intro x h;obtain⟨i,y⟩:=q;simp only[rL.parts,aQC] at h;rcases h with rfl|h
     ·simp
     ·simp only[aRt,aQC];exact .inr (ih x h)
   have ho: ∀(y:Option Operand) x,x∈rL.opt y->y=some x:=by
    intro y x h;cases y with
    |none=>cases h
    |some y=>simp only[rL.opt,aQx] at h;rw[h]
   intro x hx;cases hop:o.op
   case call c=>
    rw[hop] at hx;obtain⟨callee,args,tys⟩:=c;cases callee<;>simp_all [rL,Op.operands,Call.operands]
   case slice t y lo hi mx=>
    rw[hop] at hx;simp only[rL,aQC,vH] at hx;simp only[Op.operands,Array.mem_append];rcases hx with rfl|hx|hx
    ·simp
    ·have:=ho _ _ hx;subst this;simp
    ·have:=ho _ _ hx;subst this;simp
   case build t ps=>rw[hop] at hx;simp only[Op.operands,aSi];exact hp _ _ hx
   case buildSlice t n ps=>rw[hop] at hx;simp only[Op.operands,aSi];exact hp _ _ hx
   all_goals (rw[hop] at hx;simp_all [rL,Op.operands])
  have: ∀(l:List Operand),(∀x∈l,x∈o.op.operands)->BL s'.env l=BL s.env l:=by
   intro l
   induction l with
   |nil=>intro _;rfl
   |cons x l ih=>intro h;simp only[BL,hop x (h x (by simp)),ih (fun y hy=>h y (aQy _ hy))]
  exact this _ hsub
 have hpl: ∀{e0:pJ},sV T Γ o.type (fun x=>w9 (sN s.env x)) s.nb s.H o.op=some e0->e0.rds=e.rds->sV T Γ o.type (fun x=>w9 (sN s'.env x)) s'.nb s'.H o.op=some e0:=by
  intro e0 h1 h2;rw[aH4 (ρ:=fun x=>w9 (sN s.env x)) (ρ':=fun x=>w9 (sN s'.env x)) o.op (fun x hx=>by simp only[hop x hx]),hn];exact aIb h1 (by rw[h2];exact hH)
 unfold C6 at h⊢;cases hg:o.guard with
 |none=>
  rw[hg] at h;simp only at h⊢;by_cases hpk: ∃c x y,o.op= .pick c x y
  ·obtain⟨c,x,y,hp⟩:=hpk;rw[hp] at h⊢;simp only[KG] at h⊢;rw[hop c (by rw[hp];simp [Op.operands]),hop x (by rw[hp];simp [Op.operands]),hop y (by rw[hp];simp [Op.operands])];exact h
  ·have e1: ∀s,KG T Γ o s o.op=KE (xR true (BL s.env (rL o.op))) (sV T Γ o.type (fun x=>w9 (sN s.env x)) s.nb s.H o.op):=by
    intro s;cases ho:o.op<;>first|rfl|(exact absurd ⟨_,_,_,ho⟩ hpk)
   rw[e1] at h⊢;rw[hops];cases hp0:sV T Γ o.type (fun x=>w9 (sN s.env x)) s.nb s.H o.op with
   |none=>rw[hp0] at h;cases h
   |some e0=>
    rw[hp0] at h;simp only[KE,aQk] at h;rw[hpl hp0 (by rw[<-h])];simp only[KE,h]
 |some jb=>
  obtain⟨j,b⟩:=jb;rw[hg] at h;simp only at h⊢;have hgu:EZ s'.env b (CU ops.toList j)=EZ s.env b (CU ops.toList j):=by
   rw[YE];cases hd:(ops.toList[j]?).bind (·.dst) with
   |none=>rfl
   |some t=>
    simp only[EZ];rw[ht t (by
     simp only[Oper.looksAt,hg,aRe];right;have:(ops[j]?).bind (·.dst)=some t:=by simpa using hd
     rw[this];simp)]
  rw[hgu];cases hG:EZ s.env b (CU ops.toList j) with
  |none=>rw[hG] at h;cases h
  |some G=>
   rw[hG] at h;by_cases hpk: ∃c x y,o.op= .pick c x y
   ·obtain⟨c,x,y,hp⟩:=hpk;rw[hp] at h⊢;simp only[KF] at h⊢;rw[hop c (by rw[hp];simp [Op.operands]),hop x (by rw[hp];simp [Op.operands]),hop y (by rw[hp];simp [Op.operands])];exact h
   have e1: ∀s,KF T Γ o s (some G) o.op=GD G (xR G (BL s.env (rL o.op))) (sV T Γ o.type (fun x=>w9 (sN s.env x)) s.nb s.H o.op):=by
    intro s;cases ho:o.op<;>first|rfl|(exact absurd ⟨_,_,_,ho⟩ hpk)
   rw[e1] at h⊢;rw[hops];cases hp0:sV T Γ o.type (fun x=>w9 (sN s.env x)) s.nb s.H o.op with
   |none=>rw[hp0] at h;cases h
   |some e0=>
    rw[hp0] at h;have hrd:e0.rds=e.rds:=by
     unfold GD at h;split at h
     ·rename_i heq;simp only[aQk] at h heq;subst heq;rw[<-h]
     ·rename_i heq;simp only[aQk] at h heq;subst heq;rw[<-h]
     ·cases h
    rw[hpl hp0 hrd];exact h
def u6 {α:Type}(p:Nat->Bool) (wr:Nat->Option α) (b:α):Nat->α
 |0=>b
 |k+1=>if p k=true then(wr k).getD (u6 p wr b k) else u6 p wr b k
theorem KW {α:Type}{p q:Nat->Bool}{wr:Nat->Option α}{b:α}: ∀{n:Nat},(∀j,j<n->wr j≠none->p j=q j)->u6 p wr b n=u6 q wr b n
 |0,_=>rfl
 |n+1,h=>by
  simp only[u6];have ih:=KW (p:=p) (q:=q) (wr:=wr) (b:=b) (n:=n) (fun j hj=>h j (by omega));cases hw:wr n with
  |none=>simp [ih]
  |some v=>rw[h n (by omega) (by rw[hw];simp),ih]
theorem a9n {α:Type}{wr:Nat->Option α}{b:α}{i:Nat}: ∀{n:Nat},i<=n->u6 (fun j=>decide (j<i)) wr b n=u6 (fun _=>true) wr b i
 |0,h=>by
  have:i=0:=by omega
  subst this;rfl
 |n+1,h=>by
  by_cases hi:i=n+1
  ·subst hi;exact KW (fun j hj _=>by simp [hj])
  ·have: ¬n<i:=by omega
   simp only[u6];rw[aQl (by simp [this])];exact a9n (by omega)
theorem YP {α:Type}{p q:Nat->Bool}{wr:Nat->Option α}{b:α}{i:Nat}(hi:p i=false) (hq: ∀j,q j=if j=i then true else p j): ∀{n:Nat},i<n->(∀j,i<j->j<n->p j=true->wr j=none\/wr i=none)->u6 q wr b n=(wr i).getD (u6 p wr b n)
 |0,h,_=>by omega
 |n+1,h,hd=>by
  simp only[u6];by_cases hn:n=i
  ·subst hn;rw[aQj (by rw[hq];simp),aQl (by simp [hi])];rw[KW (p:=q) (q:=p) (fun j hj _=>by rw[hq,aQl (by omega)])]
  ·have ih:=YP (b:=b) hi hq (n:=n) (by omega) (fun j h1 h2=>hd j h1 (by omega));rw[hq,aQl hn,ih];by_cases hp:p n=true
   ·rw[aQj hp,aQj hp];rcases hd n (by omega) (by omega) hp with h1|h1
    ·rw[h1];rfl
    ·rw[h1];rfl
   ·rw[aQl hp,aQl hp]
theorem YQ {α:Type}{p:Nat->Bool}{wr:Nat->Option α}{b:α}: ∀(k:Nat),u6 p wr b (k+1)=u6 (fun j=>p (j+1)) (fun j=>wr (j+1)) (if p 0=true then(wr 0).getD b else b) k
 |0=>rfl
 |k+1=>by
  rw[u6,YQ k];rfl
theorem YR {rds:List Nat}{i:Nat}: ∀{u:List (Nat×p9)},i∈pE (KH rds u)↔i∈pE u/\CV i rds=false
 |[]=>by simp [KH,pE]
 |(j,b)::u=>by
  simp only[KH];cases h:CV j rds with
  |true=>
   rw[aQj rfl,YR (u:=u)];simp only[pE,aQC];constructor
   ·rintro⟨h1,h2⟩;exact⟨.inr h1,h2⟩
   ·rintro⟨rfl|h1,h2⟩
    ·rw[h] at h2;cases h2
    ·exact⟨h1,h2⟩
  |false=>
   rw[aQl (by simp)];simp only[pE,aQC,YR (u:=u)];constructor
   ·rintro(rfl|⟨h1,h2⟩)
    ·exact⟨.inl rfl,h⟩
    ·exact⟨.inr h1,h2⟩
   ·rintro⟨rfl|h1,h2⟩
    ·exact .inl rfl
    ·exact .inr ⟨h1,h2⟩
theorem SS {e:pJ}{i:Nat}:i∈pE (C7 e)↔i∈pE e.upd/\CV i e.rds=false:=YR
theorem a9o {i:Nat}: ∀{l:List Nat},CV i l=true->i∈l
 |[],h=>by cases h
 |j::l,h=>by
  simp only[CV] at h;split at h
  ·rename_i e;subst e;exact aQH
  ·exact aQy _ (a9o h)
theorem a9p {H U:List (Nat×p9)}{rds:List Nat}{i:Nat}(h:CV i rds=true): ∀{u:List (Nat×p9)},i∈pE u->(pC U i=pC H i)∈IE H U rds u
 |[],hi=>by cases hi
 |(j,b)::u,hi=>by
  simp only[IE];simp only[pE,aQC] at hi;rcases hi with rfl|hi
  ·rw[aQj h];exact aQH
  ·have:=a9p (H:=H) (U:=U) h hi;split
   ·exact aQy _ this
   ·exact this
theorem aId {H:List (Nat×p9)}{e:pJ}(hs: ∀p∈IE H e.upd e.rds e.upd,p) {i:Nat}(h1:i∈pE e.upd) (h2:i∉pE (C7 e)):pC e.upd i=pC H i/\i∈e.rds:=by
 have h:CV i e.rds=true:=by
  cases h3:CV i e.rds with
  |true=>rfl
  |false=>exact absurd (SS.2 ⟨h1,h3⟩) h2
 exact⟨hs _ (a9p h h1),a9o h⟩
def AT (os:List Oper) (es:List pJ) (t j:Nat):Option pA:=
 match os[j]?,es[j]? with
 |some o,some e=>if o.dst=some t then some e.slot else none
 |_,_=>none
def AU (es:List pJ) (id j:Nat):Option (Option p9):=
 match es[j]? with
 |some e=>if id∈pE (C7 e) then some (pC e.upd id) else none
 |none=>none
theorem YS {id:Nat}{H:r5}: ∀{u:List (Nat×p9)},pC (pO u H) id=if id∈pE u then pC u id else pC H id
 |[]=>by simp [pO,pE]
 |(k,b)::u=>by
  simp only[pO,pC,pE,aQC];by_cases h:k=id
  ·subst h;simp
  ·rw[aQl h,aQl h,YS (u:=u)];have:(id=k\/id∈pE u)↔id∈pE u:=⟨fun h'=>h'.resolve_left (Ne.symm h),.inr⟩;simp only[this]
theorem a9q {d:Option Tmp}{s:pA}{env:List (Nat×pA)}{t:Nat}:lk (sK d s env) t=if d=some t then s else lk env t:=by
 cases d with
 |none=>simp [sK]
 |some d=>simp only[sK,lk,aQk]
structure aIe (T:rQ) (Γ:tG) (ops:List Oper) (os:List Oper) (es:List pJ) (s:St) (y:uT) (k:Nat) (o:Oper) (e:pJ) (sk:St):Prop where
 ev:C6 T Γ ops o sk=some e
 nb:sk.nb=s.nb+32*k
 dst:GE s.N o.dst=true
 ids:GF (s.nb+32*k+32) e.upd=true
 side: ∀p∈e.side,p∈y.side
 env: ∀t,lk sk.env t=u6 (fun _=>true) (AT os es t) (lk s.env t) k
 heap: ∀id,pC sk.H id=u6 (fun _=>true) (AU es id) (pC s.H id) k
 same: ∀id,id∈pE e.upd->id∉pE (C7 e)->pC e.upd id=pC sk.H id/\id∈e.rds
structure a9r (T:rQ) (Γ:tG) (ops:List Oper) (os:List Oper) (es:List pJ) (s:St) (y:uT):Prop where
 len:es.length=os.length
 nb:y.s.nb=s.nb+32*os.length
 step: ∀k o e,os[k]? =some o->es[k]? =some e->∃sk,aIe T Γ ops os es s y k o e sk
 env: ∀t,lk y.s.env t=u6 (fun _=>true) (AT os es t) (lk s.env t) os.length
 heap: ∀id,pC y.s.H id=u6 (fun _=>true) (AU es id) (pC s.H id) os.length
theorem a9s {T:rQ}{Γ:tG}{ops:List Oper}: ∀{l:List Oper}{x y:uT},uU T Γ ops l (some x)=some y->(∀p∈y.side,p)->∃es:List pJ,y.es=es.reverse++x.es/\a9r T Γ ops l es x.s y
 |[],x,y,h,_=>by
  simp only[uU,aQk] at h;subst h;exact⟨[],rfl,rfl,rfl,fun k o e h=>by simp at h,fun _=>rfl,fun _=>rfl⟩
 |o::l,x,y,h,hsy=>by
  obtain⟨e,h1,h2,h3,h4⟩:=YL h;obtain⟨es,h5,h6⟩:=a9s h4 hsy;have hsame: ∀{i:Nat},i∈pE e.upd->i∉pE (C7 e)->pC e.upd i=pC x.s.H i/\i∈e.rds:=fun h1 h2=>aId (fun p hp=>hsy p ((IN h4).1 p (vH.2 (.inr (vH.2 (.inl hp)))))) h1 h2;have envs: ∀t k,u6 (fun _=>true) (AT (o::l) (e::es) t) (lk x.s.env t) (k+1)=u6 (fun _=>true) (AT l es t) (lk (sK o.dst e.slot x.s.env) t) k:=fun t k=>by
   rw[YQ,aQj rfl,a9q];have:(AT (o::l) (e::es) t 0).getD (lk x.s.env t)=if o.dst=some t then e.slot else lk x.s.env t:=by
    simp only[AT,aQR];split<;>rfl
   rw[this];rfl
  have heaps: ∀id k,u6 (fun _=>true) (AU (e::es) id) (pC x.s.H id) (k+1)=u6 (fun _=>true) (AU es id) (pC (pO e.upd x.s.H) id) k:=fun id k=>by
   rw[YQ,aQj rfl,YS];have:(AU (e::es) id 0).getD (pC x.s.H id)=if id∈pE e.upd then pC e.upd id else pC x.s.H id:=by
    simp only[AU,aQR];by_cases h7:id∈pE (C7 e)
    ·rw[aQj h7,aQj (SS.1 h7).1];rfl
    ·rw[aQl h7];by_cases h8:id∈pE e.upd
     ·rw[aQj h8,(hsame h8 h7).1];rfl
     ·rw[aQl h8];rfl
   rw[this];rfl
  refine⟨e::es,by rw[h5];simp,by simp [h6.len],?_,?_,fun t=> ?_,fun id=> ?_⟩
  ·have:=h6.nb;simp only at this;rw[this];simp only[aQp];omega
  ·intro k o' e' ho he;cases k with
   |zero=>
    simp only[aQR,aQk] at ho he;subst ho;subst he;exact⟨x.s,h1,rfl,h2,h3,fun p hp=>(IN h4).1 p (vH.2 (.inr (vH.2 (.inr hp)))),fun _=>rfl,fun _=>rfl,fun id=>hsame⟩
   |succ k=>
    simp only[aQ5] at ho he;obtain⟨sk,q⟩:=h6.step k o' e' ho he;refine⟨sk,q.ev,by rw[q.nb];simp only;omega,q.dst,?_,q.side,fun t=>by rw[q.env t,envs],fun id=>by rw[q.heap id,heaps],q.same⟩;have:=q.ids;simp only at this;rw[show x.s.nb+32*(k+1)+32=x.s.nb+32+32*k+32 by omega];exact this
  ·rw[aQp,envs];exact h6.env t
  ·rw[aQp,heaps];exact h6.heap id
theorem a9t {ops:Array Oper}{bs:List Nat}{nb i:Nat}{o:Oper}{e:pJ}: ∀{ps:List Oper}{fs:List pJ}{j:Nat},RO ops bs nb i o e ps fs j=true->∀k p f,ps[k]? =some p->fs[k]? =some f->
  (bs.getD (j+k) 0).testBit i=true\/(o.apart ops p=true/\F0 e f=true/\IF (nb+32*i) f.upd=true)
 |p::ps,f::fs,j,h,k,p',f',hp,hf=>by
  simp only[RO,aQr,aRg] at h;cases k with
  |zero=>
   simp only[aQR,aQk] at hp hf;subst hp;subst hf;exact h.1.imp id (fun h=>⟨h.1.1,h.1.2,h.2⟩)
  |succ k=>
   simp only[aQ5] at hp hf;have:=a9t h.2 k p' f' hp hf;rw[show j+(k+1)=j+1+k by omega];exact this
 |[],_,_,_,_,_,_,hp,_=>by simp at hp
 |_::_,[],_,_,_,_,_,_,hf=>by simp at hf
theorem YT {ops:Array Oper}{bs:List Nat}{nb:Nat}: ∀{os:List Oper}{es:List pJ}{m:Nat},RP ops bs nb os es m=true->∀i j o e p f,i<j->os[i]? =some o->es[i]? =some e->os[j]? =some p->es[j]? =some f->
  (bs.getD (m+j) 0).testBit (m+i)=true\/(o.apart ops p=true/\F0 e f=true/\IF (nb+32*(m+i)) f.upd=true)
 |o'::os,e'::es,m,h,i,j,o,e,p,f,hij,ho,he,hp,hf=>by
  simp only[RP,aQr] at h;obtain⟨j,rfl⟩: ∃k,j=k+1:=⟨j-1,by omega⟩;simp only[aQ5] at hp hf;cases i with
  |zero=>
   simp only[aQR,aQk] at ho he;subst ho;subst he;have:=a9t h.1 j p f hp hf;rw[show m+(j+1)=m+1+j by omega];exact this
  |succ i=>
   simp only[aQ5] at ho he;have:=YT h.2 i j o e p f (by omega) ho he hp hf;rw[show m+(j+1)=m+1+j by omega,show m+(i+1)=m+1+i by omega];exact this
 |[],_,_,_,_,_,_,_,_,_,_,ho,_,_,_=>by simp at ho
 |_::_,[],_,_,_,_,_,_,_,_,_,_,he,_,_=>by simp at he
theorem a9u: ∀{os:List Oper}{m:Nat},RQ os m=true->∀i o,os[i]? =some o->∀e∈o.after,Region.binds .any e=true->e.on<m+i
 |o'::os,m,h,i,o,ho,e,he,hb=>by
  simp only[RQ,aQr] at h;cases i with
  |zero=>
   simp only[aQR,aQk] at ho;subst ho;have:=aRh.1 h.1 e (by simpa using he);simpa[hb] using this
  |succ i=>
   simp only[aQ5] at ho;have:=a9u h.2 i o ho e he hb;omega
 |[],_,_,_,_,ho,_,_,_=>by simp at ho
theorem ST {l:List Nat}: ∀{u:List (Nat×p9)},N5 u l=false->∀i,i∈pE u->i∉l
 |(k,b)::u,h,i,hi=>by
  simp only[N5,aRE] at h;simp only[pE,aQC] at hi;rcases hi with rfl|hi
  ·simpa using h.1
  ·exact ST h.2 i hi
theorem YU {a b:pJ}(h:F0 a b=true):(∀i∈pE (C7 a),i∉b.rds/\i∉pE b.upd)/\(∀i∈pE (C7 b),i∉a.rds):=by
 simp only[F0,aQr,aQO] at h;exact⟨fun i hi=>⟨fun h1=>ST h.1 i hi (vH.2 (.inl h1)),fun h1=>ST h.1 i hi (vH.2 (.inr h1))⟩,fun i hi=>ST h.2 i hi⟩
theorem a9v {lo:Nat}: ∀{u:List (Nat×p9)},IF lo u=true->∀i∈pE u,i<lo\/lo+32<=i
 |(k,b)::u,h,i,hi=>by
  simp only[IF,aQr,aRg,aQq] at h;simp only[pE,aQC] at hi;rcases hi with rfl|hi
  ·exact h.1
  ·exact a9v h.2 i hi
def YV (os:List Oper) (p:Nat->Bool):Prop:= ∀j o,os[j]? =some o->p j=true->∀e∈o.after,Region.binds .any e=true->p e.on=true
theorem a9w {p:Nat->Bool}{acc:Array Nat}(hacc: ∀i j,(acc.getD i 0).testBit j=true->p i=true->p j=true) {i:Nat}: ∀{es:List Edge}{s:Nat},(s.testBit i=true->p i=true)->(∀e∈es,Region.binds .any e=true->p e.on=true)->
  (es.foldl (fun s e=>if Region.binds .any e then s|||2^e.on|||acc.getD e.on 0 else s) s).testBit i=true->p i=true
 |[],s,hs,_,h=>hs h
 |e::es,s,hs,he,h=>by
  simp only[List.foldl_cons] at h;refine a9w hacc (es:=es) (fun h1=> ?_) (fun e' h'=>he e' (aQy _ h')) h;split at h1
  ·rename_i hb;simp only[Nat.testBit_or,aRg,Nat.testBit_two_pow,aQq] at h1;rcases h1 with(h1|h1) |h1
   ·exact hs h1
   ·rw[<-h1];exact he e (by simp) hb
   ·exact hacc _ _ h1 (he e (by simp) hb)
  ·exact hs h1
theorem a9x {p:Nat->Bool}: ∀{os:List Oper}{acc:Array Nat},(∀i j,(acc.getD i 0).testBit j=true->p i=true->p j=true)->(∀j o,os[j]? =some o->p (acc.size+j)=true->∀e∈o.after,Region.binds .any e=true->p e.on=true)->
  ∀i j,((os.foldl (fun acc o=>acc.push (o.after.foldl (fun s e=>if Region.binds .any e then s|||2^e.on|||acc.getD e.on 0 else s) 0)) acc).getD i 0).testBit j=true->p i=true->p j=true
 |[],acc,hacc,_,i,j,h,hp=>hacc i j h hp
 |o::os,acc,hacc,hos,i,j,h,hp=>by
  simp only[List.foldl_cons] at h;refine a9x (os:=os) (fun i j h hp=> ?_) (fun k o' ho hk=> ?_) i j h hp
  ·rw[aQU,Array.getElem?_push] at h;split at h
   ·rename_i hi;simp only[aRQ] at h;rw[<-aSr] at h;refine a9w hacc (es:=o.after.toList) (s:=0) (fun h=>by simp at h) (fun e he hb=>hos 0 o rfl (by rw[hi] at hp;exact hp) e (by simpa using he) hb) h
   ·rw[<-aQU] at h;exact hacc i j h hp
  ·refine hos (k+1) o' ho ?_;rw[Array.size_push] at hk;rw[show acc.size+(k+1)=acc.size+1+k by omega];exact hk
theorem a9y {ops:Array Oper}{p:Nat->Bool}(hp:YV ops.toList p) {i j:Nat}(h:((Region.before ops).toList.getD i 0).testBit j=true) (hi:p i=true):p j=true:=by
 refine a9x (os:=ops.toList) (acc:= #[]) (p:=p) (fun i j h=>by simp at h) (fun j o ho hj=>hp j o ho (by simpa using hj)) i j ?_ hi;unfold Region.before at h;rw[<-aSr] at h;rw[aQU,<-aRo,<-aQI];exact h
def CB (l:Array Bool):Nat->Nat
 |0=>0
 |k+1=>CB l k+if l.getD k false=true then 0 else 1
theorem a9z {l l':Array Bool}: ∀{n:Nat},(∀j,j<n->l'.getD j false=l.getD j false)->CB l' n=CB l n
 |0,_=>rfl
 |n+1,h=>by simp only[CB];rw[a9z (fun j hj=>h j (by omega)),h n (by omega)]
theorem a9A {l:Array Bool}: ∀{n:Nat},CB l n=0->∀j,j<n->l.getD j false=true
 |n+1,h,j,hj=>by
  simp only[CB] at h;by_cases hn:l.getD n false=true
  ·by_cases hjn:j=n
   ·subst hjn;exact hn
   ·exact a9A (n:=n) (by omega) j (by omega)
  ·rw[aQl hn] at h;omega
theorem F8 {l:Array Bool}{i j:Nat}(hi:i<l.size):(l.setIfInBounds i true).getD j false=if j=i then true else l.getD j false:=by
 by_cases h:j=i
 ·subst h;rw[aQj rfl,aQU,Array.getElem?_setIfInBounds_self_of_lt hi];rfl
 ·rw[aQl h,aQU,aRK (Ne.symm h),<-aQU]
theorem a9B {l:Array Bool}{i:Nat}(hi:i<l.size) (hf:l.getD i false=false): ∀{n:Nat},i<n->CB (l.setIfInBounds i true) n+1=CB l n
 |n+1,h=>by
  simp only[CB];by_cases hn:n=i
  ·subst hn;rw[F8 hi,aQj rfl,aQj rfl,hf,a9z (l:=l) (fun j hj=>by rw[F8 hi,aQl (by omega)])];simp
  ·rw[F8 hi,aQl hn];have:=a9B hi hf (n:=n) (by omega);omega
theorem a9C {p:Nat->Bool}: ∀{n:Nat},(∃j,j<n/\p j=false)->∃j,j<n/\p j=false/\∀k,k<j->p k=true
 |0,⟨j,h,_⟩=>by omega
 |n+1,⟨j,h,hj⟩=>by
  by_cases hs: ∃j,j<n/\p j=false
  ·obtain⟨k,h1,h2,h3⟩:=a9C hs;exact⟨k,by omega,h2,h3⟩
  ·refine⟨j,h,hj,fun k hk=> ?_⟩;cases hp:p k with
   |true=>rfl
   |false=>exact absurd ⟨k,by omega,hp⟩ hs
theorem rK.ext {g:Gh}{w:World}{H H':r5}(h:rK g w H) (e: ∀i,pC H' i=pC H i):rK g w H':=
 ⟨fun i b hb=>h.blk i b (by rw[<-e];exact hb),fun i j bi bj b o hij h1 h2=>h.dis i j bi bj b o hij (by rw[<-e];exact h1) (by rw[<-e];exact h2),h.sl,h.tab.1,fun i b bb oo hb ho=>h.tab.2 i b bb oo (by rw[<-e];exact hb) ho⟩
theorem s3.ext {A:Nat->Nat->Prop}{L:List p9}{g0 g:Gh}{w0 w:World}{H H':r5}(h:s3 A L g0 w0 g w H) (e: ∀i,pC H' i=pC H i):s3 A L g0 w0 g w H':=
 ⟨h.shut,h.fr,fun i blk b o hb=>h.perm i blk b o (by rw[<-e];exact hb),h.J,h.live,fun i u y us hi hb=>h.ty i u y us hi (by rw[<-e];exact hb),h.cur⟩
theorem a9D (g:Gh) (w:World) (d:Nat):Le g w g {w with drawn:=d}:=⟨fun _ _ h=>h,fun _ _ _=>rfl,fun _ _ h=>h,fun _ _ _ h=>h⟩
theorem rK.drawn {g:Gh}{w:World}{H:r5}(h:rK g w H) (d:Nat):rK g {w with drawn:=d} H:=
 ⟨fun i b hb=>KL (h.blk i b hb) (a9D g w d) rfl rfl (fun _ _ _=>⟨rfl,rfl⟩) (fun _ _=>rfl) (fun _ _ _ h=>h) (fun _ _ _ _ h=>h),h.dis,h.sl,MQ h.tab.1 (aQF _) (fun _ _=>rfl),h.tab.2⟩
theorem s3.drawn {A:Nat->Nat->Prop}{L:List p9}{g0 g:Gh}{w0 w:World}{H:r5}(h:s3 A L g0 w0 g w H) (d:Nat):s3 A L g0 w0 g {w with drawn:=d} H:=
 ⟨h.shut,⟨h.fr.os,h.fr.tape,h.fr.output,h.fr.size,h.fr.blk,h.fr.cell,h.fr.new,h.fr.shape⟩,h.perm,h.J,h.live,h.ty,h.cur⟩
section
variable {B:Nat}{P:Program}{T:rQ}{Γ:tG}(hT:vT P T) (hΓ:D2 P Γ) {A:Nat->Nat->Prop}{L:List p9}{g0:Gh}{w0:World}{Q:Exit->Act->World->Prop}
structure Mid (B:Nat) (A:Nat->Nat->Prop) (L:List p9) (g0:Gh) (w0:World) (ops:Array Oper) (es:List pJ) (s:St) (listed:Array Bool) (g:Gh) (w:World) (a:Act) (env:List (Nat×pA)) (H:r5):Prop where
 size:listed.size=ops.size
 closed:YV ops.toList (fun j=>listed.getD j false)
 eok:AS g w env a.tmps
 look: ∀t,lk env t=u6 (fun j=>listed.getD j false) (AT ops.toList es t) (lk s.env t) ops.size
 heap:rK g w H
 get: ∀id,pC H id=u6 (fun j=>listed.getD j false) (AU es id) (pC s.H id) ops.size
 tmps:a.tmps.size=s.N
 def_:yF B w a.defers
 good:s3 A L g0 w0 g w H
 free: ∀j,j<ops.size->listed.getD j false=false->∀id,s.nb+32*j<=id->id<s.nb+32*j+32->g.J id=none/\∀n,g.cur id n=none
 top: ∀id,s.nb+32*ops.size<=id->g.J id=none/\∀n,g.cur id n=none
include hT hΓ
theorem aIf {ro:Option Nat}{ops:Array Oper}{es:List pJ}{s:St}{y:uT}(run:a9r T Γ ops.toList ops.toList es s y) (hs: ∀p∈y.side,p) (hchk:DW ops s.nb es=true)
  (hQ: ∀g a w env H,AS g w env a.tmps->(∀t,lk env t=lk y.s.env t)->rK g w H->(∀id,pC H id=pC y.s.H id)->a.tmps.size=s.N->yF B w a.defers->s3 A L g0 w0 g w H->(∀id,s.nb+32*ops.size<=id->g.J id=none/\∀n,g.cur id n=none)->Q .normal a w):
  ∀(fuel:Nat) (listed:Array Bool) (g:Gh) (w:World) (a:Act) (env:List (Nat×pA)) (H:r5),CB listed ops.size<=fuel->Mid B A L g0 w0 ops es s listed g w a env H->wpAnyIn (E2 ro) 0 P .any ops Q fuel listed a w:=by
 simp only[DW,aQr] at hchk;obtain⟨haf,hfr⟩:=hchk;have hsz:ops.toList.length=ops.size:=aQT;have done: ∀(listed:Array Bool) (g:Gh) (w:World) (a:Act) (env:List (Nat×pA)) (H:r5),Mid B A L g0 w0 ops es s listed g w a env H->(∀j,j<ops.size->listed.getD j false=true)->Q .normal a w:=by
  intro listed g w a env H m hall;refine hQ g a w env H m.eok (fun t=> ?_) m.heap (fun id=> ?_) m.tmps m.def_ m.good m.top
  ·rw[m.look t,run.env t,hsz];exact KW (fun j hj _=>hall j hj)
  ·rw[m.get id,run.heap id,hsz];exact KW (fun j hj _=>hall j hj)
 have stuck: ∀(listed:Array Bool),listed.size=ops.size->Region.ready .any ops listed=[]->∀j,j<ops.size->listed.getD j false=true:=by
  intro listed hls hr j hj;cases hp:listed.getD j false with
  |true=>rfl
  |false=>
   obtain⟨k,h1,h2,h3⟩:=a9C (p:=fun j=>listed.getD j false) ⟨j,hj,hp⟩;have:k∈Region.ready .any ops listed:=by
    rw[mem_ready];refine⟨?_,ops[k],by simp [h1],fun e he hb=> ?_⟩
    ·have h2:listed.getD k false=false:=h2;rw[aQU] at h2⊢;rw[aSf (by omega)] at h2⊢;exact h2
    ·have:=a9u haf k ops[k] (by simp [h1]) e he hb;exact h3 e.on (by omega)
   rw[hr] at this;cases this
 intro fuel
 induction fuel with
 |zero=>
  intro listed g w a env H hu m;have hall:=a9A (l:=listed) (n:=ops.size) (by omega);refine⟨?_,done listed g w a env H m hall⟩;cases hr:Region.ready .any ops listed with
  |nil=>rfl
  |cons i r=>
   have:i∈Region.ready .any ops listed:=by rw[hr];simp
   obtain⟨h0,o,ho,_⟩:=mem_ready.1 this;have hi:i<ops.size:=(aQJ.1 ho).1;have:=hall i hi;rw[aQU] at this h0;rw[aSf (by rw[m.size];exact hi)] at this h0;simp at this h0;rw[this] at h0;cases h0
 |succ fuel ih=>
  intro listed g w a env H hu m;refine⟨fun hr=>done listed g w a env H m (stuck listed m.size hr),fun i hi=> ?_⟩;obtain⟨h0,o,ho,hall⟩:=mem_ready.1 hi;have hin:i<ops.size:=(aQJ.1 ho).1;have hil:i<listed.size:=by rw[m.size];exact hin
  have hpi:listed.getD i false=false:=by
   rw[aQU] at h0⊢;rw[aSf hil] at h0⊢;exact h0
  have hoL:ops.toList[i]? =some o:=by simpa using ho
  obtain⟨e,he⟩: ∃e,es[i]? =some e:=⟨es[i]'(by rw[run.len,hsz];exact hin),by simp⟩;obtain⟨sk,st⟩:=run.step i o e hoL he;have hcl':YV ops.toList (fun j=>(listed.setIfInBounds i true).getD j false):=by
   intro j o' ho' hj ed hed hb;simp only[F8 hil] at hj⊢;by_cases hji:j=i
   ·subst hji;rw[hoL] at ho';obtain rfl:=aQo ho';have:=hall ed hed hb;split
    ·rfl
    ·exact this
   ·rw[aQl hji] at hj;have:=m.closed j o' ho' hj ed hed hb;split
    ·rfl
    ·exact this
  have hbef: ∀j,((Region.before ops).toList.getD i 0).testBit j=true->j≠i->listed.getD j false=true:=by
   intro j hj hne;have:=a9y hcl' hj (by simp only[F8 hil];simp);simp only[F8 hil,aQl hne] at this;exact this
  have haft: ∀j,((Region.before ops).toList.getD j 0).testBit i=true->listed.getD j false=true->False:=by
   intro j hj hl;have:=a9y m.closed hj hl;rw[hpi] at this;cases this
  have pairLt: ∀j p f,j<i->ops.toList[j]? =some p->es[j]? =some f->listed.getD j false=true\/(p.apart ops o=true/\F0 f e=true/\IF (s.nb+32*j) e.upd=true):=by
   intro j p f hji hp hf;rcases YT hfr j i p f o e hji hp hf hoL he with h1|h1
   ·rw[aQV,aQV] at h1;exact .inl (hbef j h1 (by omega))
   ·rw[aQV] at h1;exact .inr h1
  have pairGt: ∀j p f,i<j->ops.toList[j]? =some p->es[j]? =some f->listed.getD j false=true->o.apart ops p=true/\F0 e f=true:=by
   intro j p f hij hp hf hl;rcases YT hfr i j o e p f hij hoL he hp hf with h1|h1
   ·rw[aQV,aQV] at h1;exact(haft j h1 hl).elim
   ·exact⟨h1.1,h1.2.1⟩
  have same: ∀{α:Type}(wr:Nat->Option α) (b:α),(∀j p f,j<i->ops.toList[j]? =some p->es[j]? =some f->wr j≠none->p.apart ops o=true->F0 f e=true->False)->
    (∀j p f,i<j->ops.toList[j]? =some p->es[j]? =some f->wr j≠none->o.apart ops p=true->F0 e f=true->False)->(∀j,wr j≠none->∃f,es[j]? =some f)->
    u6 (fun j=>listed.getD j false) wr b ops.size=u6 (fun _=>true) wr b i:=by
   intro α wr b hlt hgt hex;rw[<-a9n (n:=ops.size) (by omega)];refine KW (fun j hj hw=> ?_);obtain⟨f,hf⟩:=hex j hw;have hpj:ops.toList[j]? =some ops[j]:=by simp [hj]
   rcases Nat.lt_trichotomy j i with h1|h1|h1
   ·rw[aRs h1];rcases pairLt j _ f h1 hpj hf with h2|h2
    ·exact h2
    ·exact(hlt j _ f h1 hpj hf hw h2.1 h2.2.1).elim
   ·subst h1;simp [hpi]
   ·have: ¬j<i:=by omega
    rw[decide_eq_false this];cases hl:listed.getD j false with
    |false=>rfl
    |true=>
     obtain⟨h2,h3⟩:=pairGt j _ f h1 hpj hf hl;exact(hgt j _ f h1 hpj hf hw h2 h3).elim
  have exS: ∀t j,AT ops.toList es t j≠none->∃f,es[j]? =some f:=by
   intro t j h;unfold AT at h;cases hf:es[j]? with
   |none=>rw[hf] at h;exact absurd (by split<;>first|rfl|(rename_i h1;cases h1)) h
   |some f=>exact⟨f,rfl⟩
  have exH: ∀t j,AU es t j≠none->∃f,es[j]? =some f:=by
   intro t j h;unfold AU at h;cases hf:es[j]? with
   |none=>rw[hf] at h;exact absurd rfl h
   |some f=>exact⟨f,rfl⟩
  have dS: ∀t j p f,ops.toList[j]? =some p->es[j]? =some f->AT ops.toList es t j≠none->p.dst=some t:=by
   intro t j p f hp hf h;unfold AT at h;rw[hp,hf] at h;simp only at h;split at h
   ·assumption
   ·exact absurd rfl h
  have dH: ∀id j f,es[j]? =some f->AU es id j≠none->id∈pE (C7 f):=by
   intro id j f hf h;unfold AU at h;rw[hf] at h;simp only at h;split at h
   ·assumption
   ·exact absurd rfl h
  have hrds: ∀id∈e.rds,pC H id=pC sk.H id:=fun id hid=>by
   rw[m.get id,st.heap id];refine same _ _ (fun j p f _ hp hf hw _ ha=> ?_) (fun j p f _ hp hf hw _ ha=> ?_) (exH id)
   ·exact((YU ha).1 id (dH id j f hf hw)).1 hid
   ·exact(YU ha).2 id (dH id j f hf hw) hid
  have hev:C6 T Γ ops.toList o ⟨env,H,s.nb+32*i,s.N,s.np⟩=some e:=by
   refine aIc st.ev (fun t ht=> ?_) (fun id hid=> ?_) st.nb.symm
   ·show lk env t=_;rw[m.look t,st.env t];refine same _ _ (fun j p f _ hp hf hw ha _=> ?_) (fun j p f _ hp hf hw ha _=> ?_) (exS t)
    ·exact(Oper.apart_spec ha).1 t (dS t j p f hp hf hw) ht
    ·exact(Oper.apart_spec ha).2.2 t (dS t j p f hp hf hw) ht
   ·exact hrds id hid
  have hfresh:z7 g (s.nb+32*i) e:=fun id hid hle=>m.free i hin hpi id hle (NW st.ids hid);have key:=a81 hT hΓ (ops:=ops.toList) (o:=o) (a:=a) (s:=⟨env,H,s.nb+32*i,s.N,s.np⟩) (K:=wpAnyIn (E2 ro) 0 P .any ops Q fuel (listed.setIfInBounds i true)) (Q:=Q) m.eok m.heap hev (fun p hp=>hs p (st.side p hp)) hfresh (fun g' w' v k=>by
   refine ih (listed.setIfInBounds i true) g' w' (a.put o.dst v) (sK o.dst e.slot env) (pO e.upd H) ?_ ⟨by rw[Array.size_setIfInBounds];exact m.size,hcl',YK m.eok k.le k.slot m.tmps st.dst,fun t=> ?_,k.heap,fun id=> ?_,(a85 _ _ _).trans m.tmps,by rw[a86];exact m.def_.eff m.heap k,m.good.eff k,fun j hj hjp id h1 h2=> ?_,fun id hid=> ?_⟩
   ·have:=a9B hil hpi hin;omega
   ·rw[a9q,YP (p:=fun j=>listed.getD j false) (i:=i) hpi (fun j=>by simp only[F8 hil]) hin (fun j hij hj hl=> ?_),<-m.look t]
    ·unfold AT;rw[hoL,he];simp only;split<;>rfl
    ·have hpj:ops.toList[j]? =some ops[j]:=by simp [hj]
     obtain⟨f,hf⟩: ∃f,es[j]? =some f:=⟨es[j]'(by rw[run.len,hsz];exact hj),by simp⟩;obtain⟨h3,_⟩:=pairGt j _ f hij hpj hf hl;by_cases hw:AT ops.toList es t j=none
     ·exact .inl hw
     ·right;have hd:=dS t j _ f hpj hf hw;by_cases hwi:AT ops.toList es t i=none
      ·exact hwi
      ·have hdi:=dS t i _ e hoL he hwi;exact absurd hd ((Oper.apart_spec h3).2.1 t hdi)
   ·rw[YS,YP (p:=fun j=>listed.getD j false) (i:=i) hpi (fun j=>by simp only[F8 hil]) hin (fun j hij hj hl=> ?_),<-m.get id]
    ·unfold AU;rw[he];simp only;by_cases h7:id∈pE (C7 e)
     ·rw[aQj h7,aQj (SS.1 h7).1];rfl
     ·rw[aQl h7];by_cases h8:id∈pE e.upd
      ·obtain⟨q1,q2⟩:=st.same id h8 h7;rw[aQj h8,q1,<-hrds id q2];rfl
      ·rw[aQl h8];rfl
    ·have hpj:ops.toList[j]? =some ops[j]:=by simp [hj]
     obtain⟨f,hf⟩: ∃f,es[j]? =some f:=⟨es[j]'(by rw[run.len,hsz];exact hj),by simp⟩;obtain⟨_,h3⟩:=pairGt j _ f hij hpj hf hl;by_cases hw:AU es id j=none
     ·exact .inl hw
     ·right;have hd:=dH id j f hf hw;by_cases hwi:AU es id i=none
      ·exact hwi
      ·have hdi:=dH id i e he hwi;exact absurd (SS.1 hd).1 ((YU h3).1 id hdi).2
   ·rw[F8 hil] at hjp;have hji:j≠i:=fun h=>by rw[aQj h] at hjp;cases hjp
    rw[aQl hji] at hjp;have hnot:id∉pE e.upd:=by
     intro hm;have hlt:=NW st.ids hm;rcases Nat.lt_or_gt_of_ne hji with h3|h3
     ·obtain⟨f,hf⟩: ∃f,es[j]? =some f:=⟨es[j]'(by rw[run.len,hsz];exact hj),by simp⟩;rcases pairLt j ops[j] f h3 (by simp [hj]) hf with h4|h4
      ·rw[hjp] at h4;cases h4
      ·have:=a9v h4.2.2 id hm;omega
     ·omega
    have hg:=k.gho id hnot;have hb:=m.free j hj hjp id h1 h2;exact⟨hg.1.trans hb.1,fun n=>by rw[hg.2];exact hb.2 n⟩
   ·have hnot:id∉pE e.upd:=fun hm=>by have:=NW st.ids hm;omega
    have hg:=k.gho id hnot;have hb:=m.top id hid;exact⟨hg.1.trans hb.1,fun n=>by rw[hg.2];exact hb.2 n⟩)
  unfold wpOpIn;rw[ho];simp only[aRS] at key⊢;split at key
  ·rename_i hw;rw[aQj hw];exact a9a (a89 hev) key
  ·rename_i hw;rw[aQl hw];exact⟨fun _ _=>trivial,key⟩
theorem aIg {ro:Option Nat}(hm:P.follows .mixedOrders=true) {id:Nat}{ops:Array Oper}{s:St}{y:uT}{a:Act}{w:World}{g:Gh}(h:uU T Γ ops.toList ops.toList (some ⟨s,[],[]⟩)=some y) (hchk:DW ops s.nb y.es.reverse=true) (hs: ∀p∈y.side,p) (hr:tP B g w s a) (hg:s3 A L g0 w0 g w s.H)
  (hQ: ∀g' a' w',tP B g' w' y.s a'->s3 A L g0 w0 g' w' y.s.H->Q .normal a' w'):(Code.region id ops true).wpIn (E2 ro) 0 P Q a w:=by
 obtain⟨es,h1,run⟩:=a9s h hs;have hes:y.es.reverse=es:=by rw[h1];simp
 simp only at run;rw[hes] at hchk;have hsd:=IN h;have hrep: ∀j,(Array.replicate ops.size false).getD j false=false:=by
  intro j;rw[aQU,Array.getElem?_replicate];split<;>rfl
 have none: ∀{α:Type}(wr:Nat->Option α) (b:α) n,u6 (fun j=>(Array.replicate ops.size false).getD j false) wr b n=b:=by
  intro α wr b n
  induction n with
  |zero=>rfl
  |succ n ih=>simp only[u6];rw[aQl (by rw[hrep];simp)];exact ih
 have hsz:ops.toList.length=ops.size:=aQT;refine wpIn_region_any hm (aIf hT hΓ run hs hchk (fun g' a' w' env H he hl hh hgt hz hd hgd htop=> ?_) _ _ g _ a s.env s.H ?_ ⟨by simp,fun j o ho hj=> ?_,fun t=>AO (a9D g w _) (hr.env t),fun t=> ?_,hr.heap.drawn _,fun id=> ?_,hr.size,hr.def_.same (fun _ h=>h),hg.drawn _,fun j _ _ id h1 _=>hr.nb id (by omega),fun id h1=>hr.nb id (by omega)⟩)
 ·refine hQ g' a' w' ⟨fun t=>by rw[<-hl t];exact he t,hh.ext (fun i=>(hgt i).symm),by rw[hsd.2.1];exact hz,fun i hi=>htop i ?_,hd,?_⟩ (hgd.ext (fun i=>(hgt i).symm))
  ·rw[run.nb,hsz] at hi;exact hi
  ·rw[hsd.2.2,run.nb];exact aRj hr.np (Nat.le_add_right _ _)
 ·have: ∀n (l:Array Bool),CB l n<=n:=by
   intro n l
   induction n with
   |zero=>exact aQF _
   |succ n ih=>simp only[CB];split<;>omega
  exact this _ _
 ·simp only[hrep] at hj;cases hj
 ·rw[none]
 ·exact(none _ _ _).symm
end
theorem YW: ∀{l:List Prop},qG l->∀p∈l,p
 |[p],h,q,hq=>by simp only[aQx] at hq;subst hq;exact h
 |p::q::r,h,x,hx=>by
  rcases aQC.1 hx with rfl|hx
  ·exact h.1
  ·exact YW h.2 x hx
theorem a9F {p:Nat->Prop}(h: ∃n,p n): ∃n,p n/\∀m,p m->n<=m:=by
 obtain⟨n,hn⟩:=h
 induction n using Nat.strongRecOn with
 |_ n ih=>
  by_cases hs: ∃m,m<n/\p m
  ·obtain⟨m,hm,hp⟩:=hs;exact ih m hm hp
  ·exact⟨n,hn,fun m hm=>Nat.le_of_not_lt fun hlt=>hs ⟨m,hlt,hm⟩⟩
noncomputable def NX (p:Nat->Prop):Nat:=open Classical in if h: ∃n,p n then(a9F h).choose else 0
theorem SU {p:Nat->Prop}(h: ∃n,p n):p (NX p)/\∀m,p m->NX p<=m:=by
 unfold NX;rw[aSw h];exact(a9F h).choose_spec
def CC:Exit->Option Ex
 | .normal=>some .normal
 | .exit id=>some (.exit id)
 | .ret=>some .ret
 |_=>none
def a9G (B:Nat) (A:Nat->Nat->Prop) (L:List p9) (g0:Gh) (w0:World) (Q:Ex->St->Prop) (x:Exit) (a:Act) (w:World):Prop:=
 ∃e g s,CC x=some e/\Q e s/\tP B g w s a/\s3 A L g0 w0 g w s.H/\s.np=L.length
section
variable {B:Nat}{P:Program}{T:rQ}{Γ:tG}(hT:vT P T) (hΓ:D2 P Γ) (hm:P.follows .mixedOrders=true) {A:Nat->Nat->Prop}{L:List p9}{g0:Gh}{w0:World}
include hT hΓ hm
theorem F9 {ro:Option Nat}: ∀(c:Code) (s:St) (Q:Ex->St->Prop) (g:Gh) (a:Act) (w:World),uW T Γ c s Q->tP B g w s a->s3 A L g0 w0 g w s.H->s.np=L.length->c.wpIn (E2 ro) 0 P (a9G B A L g0 w0 Q) a w
 | .skip,s,Q,g,a,w,h,hr,hg,hn=>by
  unfold uW at h;exact wpIn_skip ⟨.normal,g,s,rfl,h,hr,hg,hn⟩
 | .label l,s,Q,g,a,w,h,hr,hg,hn=>by
  unfold uW at h;exact wpIn_label ⟨.normal,g,s,rfl,h,hr,hg,hn⟩
 | .exit id,s,Q,g,a,w,h,hr,hg,hn=>by
  unfold uW at h;exact wpIn_exit ⟨.exit id,g,s,rfl,h,hr,hg,hn⟩
 | .ret,s,Q,g,a,w,h,hr,hg,hn=>by
  unfold uW at h;exact wpIn_ret ⟨.ret,g,s,rfl,h,hr,hg,hn⟩
 | .region id ops draw,s,Q,g,a,w,h,hr,hg,hn=>by
  unfold uW at h;cases draw with
  |false=>
   simp only[N6] at h;cases hy:uU T Γ ops.toList ops.toList (some ⟨s,[],[]⟩) with
   |none=>rw[hy] at h;cases h
   |some y=>
    rw[hy] at h;refine aH3 hT hΓ hy (YW h.1) hr hg (fun g' a' w' hr' hg'=>⟨.normal,g',y.s,rfl,h.2,hr',hg',(IN hy).2.2.trans hn⟩)
  |true=>
   simp only[N6] at h;cases hy:uU T Γ ops.toList ops.toList (some ⟨s,[],[]⟩) with
   |none=>rw[hy] at h;cases h
   |some y=>
    rw[hy] at h;simp only[a7z] at h;by_cases hc:DW ops s.nb y.es.reverse=true
    ·rw[aQj hc] at h;refine aIg hT hΓ hm hy hc (YW h.1) hr hg (fun g' a' w' hr' hg'=>⟨.normal,g',y.s,rfl,h.2,hr',hg',(IN hy).2.2.trans hn⟩)
    ·rw[aQl hc] at h;cases h
 | .seq x y,s,Q,g,a,w,h,hr,hg,hn=>by
  unfold uW at h;refine wpIn_seq (aR3 (F9 x s _ g a w h hr hg hn) fun e a' w' hp=> ?_);obtain⟨e',g',s',h1,h2,h3,h4,h5⟩:=hp;cases e<;>simp only[CC,aQk] at h1
  case normal=>subst h1;exact F9 y s' Q g' a' w' h2 h3 h4 h5
  case exit id=>subst h1;exact⟨.exit id,g',s',rfl,h2,h3,h4,h5⟩
  case ret=>subst h1;exact⟨.ret,g',s',rfl,h2,h3,h4,h5⟩
  all_goals cases h1
 | .cond c x y,s,Q,g,a,w,h,hr,hg,hn=>by
  unfold uW at h;have hc:=zC hr.env c;generalize sN s.env c=sc at h hc;unfold a7G at h;split at h
  ·exact wpIn_cond_split (vU hc.1) (fun ht=>F9 x s Q g a w (h.1 ht) hr hg hn) (fun ht=>F9 y s Q g a w (h.2 ht) hr hg hn)
  ·obtain⟨b,hb,hp,hq⟩:=hc.1;exact wpIn_cond_split hb (fun ht=>F9 x s Q g a w (h.1 (hp ht)) hr hg hn) (fun ht=>F9 y s Q g a w (h.2 (hq ht)) hr hg hn)
  ·cases h
 | .block id c,s,Q,g,a,w,h,hr,hg,hn=>by
  unfold uW at h;refine wpIn_block (aR3 (F9 c s _ g a w h hr hg hn) fun e a' w' hp=> ?_);obtain⟨e',g',s',h1,h2,h3,h4,h5⟩:=hp;cases e<;>simp only[CC,aQk] at h1
  case normal=>subst h1;exact⟨.normal,g',s',rfl,h2,h3,h4,h5⟩
  case exit j=>
   subst h1;simp only[GH] at h2;simp only[Exit.inBlock];split
   ·rename_i hj;rw[aQj hj] at h2;exact⟨.normal,g',s',rfl,h2,h3,h4,h5⟩
   ·rename_i hj;rw[aQl hj] at h2;exact⟨.exit j,g',s',rfl,h2,h3,h4,h5⟩
  case ret=>subst h1;exact⟨.ret,g',s',rfl,h2,h3,h4,h5⟩
  all_goals cases h1
 | .loop c,s,Q,g,a,w,h,hr,hg,hn=>by
  unfold uW at h;obtain⟨k,I,μ,h0,hround⟩:=h;obtain⟨g1,k1,k2,k3,_⟩:=F7 hr hg hn k
  let R:Act->World->Nat->Prop:=fun a w n=> ∃g s,I s/\μ s=n/\tP B g w s a/\s3 A L g0 w0 g w s.H/\s.np=L.length
  refine wpIn_loop (fun a w=> ∃n,R a w n) (fun a w=>NX (R a w)) ⟨_,g1,s.keep k,h0,rfl,k1,k2,k3⟩ (fun a w hI=> ?_);obtain⟨⟨g2,s2,i1,i2,i3,i4,i5⟩,_⟩:=SU hI;refine aR3 (F9 c s2 _ g2 a w (hround s2 i1) i3 i4 i5) fun e a' w' hp=> ?_;obtain⟨e',g',s',h1,h2,h3,h4,h5⟩:=hp;cases e<;>simp only[CC,aQk] at h1
  case normal=>
   subst h1;obtain⟨k',j1,j2⟩:=h2;obtain⟨g3,l1,l2,l3,_⟩:=F7 h3 h4 h5 k';have hR:R a' w' (μ (s'.keep k')):=⟨g3,s'.keep k',j1,rfl,l1,l2,l3⟩;refine⟨⟨_,hR⟩,Nat.lt_of_le_of_lt ((SU ⟨_,hR⟩).2 _ hR) (by rw[<-i2];exact j2)⟩
  case exit id=>subst h1;exact⟨.exit id,g',s',rfl,h2,h3,h4,h5⟩
  case ret=>subst h1;exact⟨.ret,g',s',rfl,h2,h3,h4,h5⟩
  all_goals cases h1
 | .rangeFunc _ _ _ _,_,_,_,_,_,h,_,_,_=>by unfold uW at h;cases h
 | .scope _,_,_,_,_,_,h,_,_,_=>by unfold uW at h;cases h
 | .goto _,_,_,_,_,_,h,_,_,_=>by unfold uW at h;cases h
 | .refuse _,_,_,_,_,_,h,_,_,_=>by unfold uW at h;cases h
end
section
variable {f:St->Prop}{Q:Ex->St->Prop}{s:St}{id j:Nat}{I:St->Prop}{μ:St->Nat}{m:Nat}
theorem pN (h:f s):N9 f Q .normal s:=h
theorem uO (h:Q (.exit j) s):N9 f Q (.exit j) s:=h
theorem rF (h:Q .ret s):N9 f Q .ret s:=h
theorem qV (h:Q .normal s):GH id Q .normal s:=h
theorem uX (h:Q .normal s):GH id Q (.exit id) s:=by show (if id=id then Q .normal s else Q (.exit id) s);rw[aQj rfl];exact h
theorem YX (hne:j≠id) (h:Q (.exit j) s):GH id Q (.exit j) s:=by show (if j=id then Q .normal s else Q (.exit j) s);rw[aQl hne];exact h
theorem rM (h:Q .ret s):GH id Q .ret s:=h
end
@[go_sem] def qK:Nat->List pA->List (Nat×pA)
 |_,[]=>[]
 |c,s::r=>(c,s)::qK (c+1) r
@[go_sem] def u7:Nat->List p9->List (Nat×Nat)
 |_,[]=>[]
 |c,_::L=>(c,c)::u7 (c+1) L
@[go_sem] def NY (m:List (Nat×Nat)):List pA->Prop
 |[]=>True
 |s::r=>yY m s=s/\NY m r
@[go_sem] def NZ (m:List (Nat×Nat)):List p9->Prop
 |[]=>True
 | .dead::_=>False
 |b::r=>GG m (some b)=b/\NZ m r
def qO:List p9->Prop
 |[]=>True
 | .row _ _ l n::r=>n=List.length l/\qO r
 |_::r=>qO r
theorem a9H {g:Gh}{w:World}: ∀{L:List p9},(∀(i:Nat) b,L[i]? =some b->∃j,z6 g w j b)->qO L
 |[],_=>trivial
 |b::L,h=>by
  have h1:=a9H (L:=L) fun i b' hb=>h (i+1) b' (by simpa using hb);obtain⟨j,h0⟩:=h 0 b rfl;cases b with
  |row e t l n=>exact⟨h0.1.symm,h1⟩
  |_=>exact h1
def YY:List Value->Value
 |[v]=>v
 |l=> .tuple l.toArray
@[go_sem] def a9I (env:List (Nat×pA)):List Nat->List pA
 |[]=>[]
 |t::r=>lk env t::a9I env r
attribute [go_sem] pM
@[go_sem] def aIh:pA->Int
 |(.val (.int _) n,_)=>n
 |_=>0
@[go_sem] def Fin (ts:List Nat) (r:pF):Ex->St->Prop
 | .exit _,_=>False
 |_,s=> ∃k:uV,(s.keep k).H=pM 0 r.H/\a9I (s.keep k).env ts=r.ret
theorem a9J: ∀(l:List pA) (c t:Nat),lk (qK c l) t=if c<=t then(l[t-c]?).getD (.any,none) else(.any,none)
 |[],c,t=>by simp [qK,lk]
 |s::l,c,t=>by
  simp only[qK,lk];by_cases h:c=t
  ·subst h;simp
  ·rw[aQl h,a9J l (c+1) t];by_cases h2:c<=t
   ·rw[aQj h2,aQj (by omega)];obtain⟨d,hd⟩: ∃d,t-c=d+1:=⟨t-c-1,by omega⟩;rw[hd,aQ5,show t- (c+1)=d by omega]
   ·rw[aQl h2,aQl (by omega)]
theorem KX: ∀{L:List p9}{c i j:Nat},(i,j)∈u7 c L↔i=j/\c<=i/\i<c+L.length
 |[],c,i,j=>by simp only[u7,aSh,aQG,false_iff];omega
 |b::L,c,i,j=>by
  simp only[u7,aQC,aQQ,KX,aQp];omega
theorem SV: ∀{L:List p9}{c:Nat},wA 0 (u7 c L)=true
 |[],_=>rfl
 |b::L,c=>by
  simp only[u7,wA,aQr];refine⟨⟨by simp,?_⟩,SV⟩;have: ∀{m:List (Nat×Nat)},(∀i j,(i,j)∈m->i≠c/\j≠c)->KI c c m=false:=by
   intro m
   induction m with
   |nil=>intro _;rfl
   |cons q m ih=>
    intro h;obtain⟨i,j⟩:=q;have:=h i j (by simp);simp only[KI,ih (fun i j hm=>h i j (aQy _ hm)),decide_eq_false this.1,decide_eq_false this.2];rfl
  rw[this]
  ·rfl
  ·intro i j hm;obtain⟨rfl,h1,_⟩:=KX.1 hm;omega
theorem a9K {m:List (Nat×Nat)}: ∀{l:List pA},NY m l->∀s∈l,yY m s=s
 |x::l,h,s,hs=>by
  rcases aQC.1 hs with rfl|hs
  ·exact h.1
  ·exact a9K h.2 s hs
theorem IP {m:List (Nat×Nat)}: ∀{l:List p9},NZ m l->∀b∈l,GG m (some b)=b/\b≠.dead
 |x::l,h,b,hb=>by
  cases x with
  |dead=>exact h.elim
  |cells t y ts=>
   rcases aQC.1 hb with rfl|hb
   ·exact⟨h.1,fun h=>by cases h⟩
   ·exact IP h.2 b hb
  |row e t l n=>
   rcases aQC.1 hb with rfl|hb
   ·exact⟨h.1,fun h=>by cases h⟩
   ·exact IP h.2 b hb
  |map k v l=>
   rcases aQC.1 hb with rfl|hb
   ·exact⟨h.1,fun h=>by cases h⟩
   ·exact IP h.2 b hb
  |iter s n=>
   rcases aQC.1 hb with rfl|hb
   ·exact⟨h.1,fun h=>by cases h⟩
   ·exact IP h.2 b hb
  |grow e c n=>
   rcases aQC.1 hb with rfl|hb
   ·exact⟨h.1,fun h=>by cases h⟩
   ·exact IP h.2 b hb
theorem SW {g:Gh}{w:World}: ∀{ss:List pA}{vs:List Value},tZ g w ss vs->vs.length=ss.length/\∀(i:Nat) s,ss[i]? =some s->∃v,vs[i]? =some v/\qJ g w s v
 |[],vs,h=>by rw[show vs=[] from h];exact⟨rfl,fun i s h=>by simp at h⟩
 |s::ss,vs,⟨v,vs',e,h1,h2⟩=>by
  subst e;obtain⟨h3,h4⟩:=SW h2;refine⟨by simp [h3],fun i s' hi=> ?_⟩;cases i with
  |zero=>simp only[aQR,aQk] at hi;subst hi;exact⟨v,rfl,h1⟩
  |succ i=>simp only[aQ5] at hi⊢;exact h4 i s' hi
theorem SX: ∀(L:List p9),pV L=L.length
 |[]=>rfl
 |_::L=>by simp only[pV,aQp,SX L]
theorem YZ {g:Gh}{w:World}{args:List pA}{vals:List Value}{L:List p9}{N:Nat}(hH:rK g w (pM 0 L)) (ha:tZ g w args vals) (hs:NY (u7 0 L) args) (hb:NZ (u7 0 L) L) (hN:args.length<=N):
  tP w.heap.size (t6 g 0 (u7 0 L)) w ⟨qK 0 args,pM 0 L,pV L,N,pV L⟩ {tmps:=vals.toArray++Array.replicate (N-vals.toArray.size) undef,defers:=[]}/\
  (∀i blk,L[i]? =some blk->(t6 g 0 (u7 0 L)).J i=g.J i/\z6 (t6 g 0 (u7 0 L)) w i blk/\∀b o,r7 (t6 g 0 (u7 0 L)) i blk b o->r7 g i blk b o):=by
 have hk:wA 0 (u7 0 L)=true:=SV;have hmem: ∀i blk,L[i]? =some blk->(i,i)∈u7 0 L:=fun i blk h=>KX.2 ⟨rfl,by omega,by have:=(aQA.1 h).1;omega⟩;have hblk: ∀i blk,L[i]? =some blk->z6 (t6 g 0 (u7 0 L)) w i blk/\∀b o,r7 (t6 g 0 (u7 0 L)) i blk b o->r7 g i blk b o:=by
  intro i blk h;have hr:=(IP hb blk (List.mem_of_getElem? h)).1;have:=IM (g:=g) (w:=w) hk (hmem i blk h) (b:=some blk) (fun c hc=>by cases hc;exact hH.blk i blk (by rw[wN];exact h));rw[hr] at this;exact⟨this.1,fun b o ho=>by obtain⟨c,hc,hco⟩:=this.2 b o ho;cases hc;exact hco⟩
 obtain⟨hl,hv⟩:=SW ha;refine⟨⟨fun t=> ?_,⟨fun i b h=> ?_,fun i j bi bj b o hij h1 h2 o1 o2=> ?_,hH.sl,hH.tab.1,fun i blk b o hg ho=>hH.tab.2 i blk b o hg ((hblk i blk (by rw[<-wN];exact hg)).2 b o ho)⟩,?_,fun i hi=> ?_,a80 _ _,aQF _⟩,fun i blk h=>⟨(zW hk (hmem i blk h)).1,hblk i blk h⟩⟩
 ·rw[a9J,aQj (aRc _),Nat.sub_zero];cases ht:args[t]? with
  |none=>exact⟨trivial,trivial⟩
  |some s=>
   obtain⟨v,hv1,hv2⟩:=hv t s ht;have hlt:t<vals.length:=(aQA.1 hv1).1;have:(vals.toArray++Array.replicate (N-vals.toArray.size) undef).getD t undef=v:=by
    rw[aQU,Array.getElem?_append_left (by simpa using hlt)];simp [hv1]
   simp only[aRQ];rw[this];have:=SQ hk hv2;rw[a9K hs s (List.mem_of_getElem? ht)] at this;exact this
 ·rw[wN] at h;exact(hblk i b h).1
 ·rw[wN] at h1 h2;exact hH.dis i j bi bj b o hij (by rw[wN];exact h1) (by rw[wN];exact h2) ((hblk i bi h1).2 b o o1) ((hblk j bj h2).2 b o o2)
 ·simp only[aSu,Array.size_replicate,aRb];omega
 ·have hold:yG (u7 0 L) i=none:=by
   cases ho:yG (u7 0 L) i with
   |none=>rfl
   |some o=>
    obtain⟨rfl,_,h2⟩:=KX.1 (YI ho);have hi:pV L<=i:=hi;rw[SX] at hi;omega
  refine⟨?_,fun n=> ?_⟩
  ·show (if i<0 then g.J i else(yG (u7 0 L) i).bind g.J)=none;rw[aQl (by omega),hold];rfl
  ·show (if i<0 then g.cur i n else(yG (u7 0 L) i).bind fun o=>g.cur o n)=none;rw[aQl (by omega),hold];rfl
structure tK (B:Nat) (w w':World):Prop where
 os:w'.os=w.os
 tape:w'.tape=w.tape
 output:w'.output=w.output
 size:w.heap.size<=w'.heap.size
 blk: ∀b,b<w.heap.size->w'.heap[b]? =w.heap[b]? \/(B<=b/\NG<=b/\∃o o',w.heap[b]? =some o/\w'.heap[b]? =some o'/\F6 o=true/\F6 o'=true)
theorem a9L {w:World}{b:Nat}{ob:Obj}(hd:w.heap[b]? =some ob) (hm:F6 ob=true) (o:Nat):w.frozen? ⟨b,o,none⟩=false:=by
 unfold World.frozen?;simp only[hd];cases ob<;>first|rfl|cases hm
theorem aIi {w:World}{b:Nat}{ob:Obj}(hd:w.heap[b]? =some ob) (hm:F6 ob=true):w.shape? b=none:=by
 unfold World.shape?;simp only[hd];cases ob<;>first|rfl|cases hm
section
variable {B:Nat}{w w' w'':World}
theorem tK.refl (B:Nat) (w:World):tK B w w:=⟨rfl,rfl,rfl,aQF _,fun _ _=> .inl rfl⟩
theorem tK.trans (h:tK B w w') (k:tK B w' w''):tK B w w'':=by
 refine⟨k.os.trans h.os,k.tape.trans h.tape,k.output.trans h.output,aRj h.size k.size,fun b hb=> ?_⟩;rcases k.blk b (aQZ hb h.size) with k1|⟨k0,k1,o,o',k2,k3,k4,k5⟩
 ·rcases h.blk b hb with h1|⟨h0,h1,o,o',h2,h3,h4,h5⟩
  ·exact .inl (k1.trans h1)
  ·exact .inr ⟨h0,h1,o,o',h2,k1.trans h3,h4,h5⟩
 ·rcases h.blk b hb with h1|⟨h0,h1,p,p',h2,h3,h4,h5⟩
  ·exact .inr ⟨k0,k1,o,o',h1▸k2,k3,k4,k5⟩
  ·exact .inr ⟨h0,h1,p,o',h2,k3,h4,k5⟩
theorem tK.cell (t:tK B w w') {b:Nat}(hb:b<w.heap.size) (o:Nat):w'.cell? ⟨b,o,none⟩=w.cell? ⟨b,o,none⟩/\w'.frozen? ⟨b,o,none⟩=w.frozen? ⟨b,o,none⟩:=by
 rcases t.blk b hb with h|⟨_,_,o1,o2,h1,h2,m1,m2⟩
 ·exact⟨aQK h,by unfold World.frozen?;simp only[h]⟩
 ·exact⟨by rw[YD h1 m1,YD h2 m2],by rw[a9L h1 m1,a9L h2 m2]⟩
theorem tK.shape (t:tK B w w') {b:Nat}{s:TypeId×Nat}(h:w.shape? b=some s):w'.shape? b=some s:=by
 have hb:b<w.heap.size:=by
  unfold World.shape? at h;cases hx:w.heap[b]? with
  |none=>rw[hx] at h;cases h
  |some _=>exact(aQJ.1 hx).1
 rcases t.blk b hb with k|⟨_,_,o1,o2,h1,h2,m1,m2⟩
 ·unfold World.shape? at h⊢;rw[k];exact h
 ·rw[aIi h1 m1] at h;cases h
theorem tK.le (t:tK B w w') {g:Gh}(hs: ∀b o,g.S b o->b<w.heap.size):Le g w g w':=⟨fun _ _ h=>h,fun b o h=>(t.cell (hs b o h) o).1,fun _ _ h=>h,fun _ _ _ h=>h⟩
theorem tK.heapOk (t:tK B w w') {g:Gh}{H:r5}(h:rK g w H):rK g w' H:=by
 have own: ∀{i blk b o},pC H i=some blk->r7 g i blk b o->w'.heap[b]? =w.heap[b]? :=fun hg ho=>by
  rcases t.blk _ (NH (h.blk _ _ hg) ho) with k|⟨_,_,o1,o2,h1,_,m1,_⟩
  ·exact k
  ·exact(SN (h.blk _ _ hg) ho h1 m1).elim
 refine⟨fun i blk hb=>KL (h.blk i blk hb) (t.le h.sl) rfl rfl (fun b o ho=>t.cell (NH (h.blk i blk hb) ho) o) (fun b ho=>own hb (ho 0)) (fun _ _ _ x=>x) (fun b o s _ x=>t.shape x),h.dis,fun b o x=>aQZ (h.sl b o x) t.size,MQ h.tab.1 t.size (fun b hb=> ?_),h.tab.2⟩;rcases t.blk b (aQZ hb h.tab.1.1) with k|⟨_,k,_⟩
 ·exact k
 ·omega
theorem tP.turn {g:Gh}{s:St}{a:Act}{ds:List Deferred}(h:tP B g w s a) (t:tK B w w') (hd:yF B w' ds):tP B g w' s {a with defers:=ds}:=
 ⟨fun x=>AO (t.le h.heap.sl) (h.env x),t.heapOk h.heap,h.size,h.nb,hd,h.np⟩
theorem s3.turn {A:Nat->Nat->Prop}{L:List p9}{g0 g:Gh}{w0:World}{H:r5}(h:s3 A L g0 w0 g w H) (hs: ∀b o,g.S b o->b<w.heap.size) (t:tK w0.heap.size w w'):s3 A L g0 w0 g w' H:=by
 refine⟨fun b o x=>⟨(h.shut b o x).1,(t.cell (hs b o (h.shut b o x).1) o).1.trans (h.shut b o x).2⟩,⟨t.os.trans h.fr.os,t.tape.trans h.fr.tape,t.output.trans h.fr.output,aRj h.fr.size t.size,fun b hb hA=> ?_,fun b o hb hA=> ?_,h.fr.new,fun b s x=> ?_⟩,h.perm,h.J,h.live,h.ty,h.cur⟩
 ·rcases t.blk b (aQZ hb h.fr.size) with k|⟨k,_⟩
  ·exact k.trans (h.fr.blk b hb hA)
  ·omega
 ·have:=t.cell (aQZ hb h.fr.size) o;have k:=h.fr.cell b o hb hA;exact⟨this.1.trans k.1,this.2.trans k.2⟩
 ·rcases h.fr.shape b s x with k|k
  ·exact .inl (t.shape k)
  ·exact .inr k
end
theorem a9M {P:Program}{fn:Func}{R:Ending->World->Prop}{A:Nat->Nat->Prop}{L:List p9}{g0 g:Gh}{w0:World}{s:St}{tmps:Array Value}: ∀(ds:List Deferred) (w:World),tP w0.heap.size g w s {tmps:=tmps,defers:=ds}->s3 A L g0 w0 g w s.H->
  (∀w',tP w0.heap.size g w' s {tmps:=tmps,defers:=[]}->s3 A L g0 w0 g w' s.H->∃v,(results fn tmps).run P w'= .ok v w'/\R (.returned v) w')->LeavesInM Fence.wide 0 P fn tmps R ds .returning w
 |[],w,hr,hg,h=>h w hr hg
 |d::ds,w,hr,hg,h=>by
  obtain⟨hnd,hall⟩:=hr.def_;obtain⟨D,rfl,h1,h2,h3⟩:=hall d aQH;have hlt:=(aQJ.1 h3).1;have t:tK w0.heap.size w (w.putObj D (.deferred none)):=by
   refine⟨rfl,rfl,rfl,by simp [World.putObj],fun b hb=> ?_⟩;by_cases e:b=D
   ·subst e;exact .inr ⟨h1,h2,_,_,h3,World.putObj_heap_same hlt,rfl,rfl⟩
   ·exact .inl (World.putObj_heap_other e)
  have hd:yF w0.heap.size (w.putObj D (.deferred none)) ds:=by
   refine⟨(List.nodup_cons.1 hnd).2,fun d' hd'=> ?_⟩;obtain⟨D',rfl,k1,k2,k3⟩:=hall d' (aQy _ hd');refine⟨D',rfl,k1,k2,?_⟩;rw[World.putObj_heap_other (fun e:D'=D=>(List.nodup_cons.1 hnd).1 (by subst e;exact hd'))];exact k3
  exact⟨by simp,.inl ⟨D,_,rfl,run_takeDeferred h3,a9M ds _ (hr.turn t hd) (hg.turn hr.heap.sl t) h⟩⟩
def Ev (R:Bool) (P:Program) (c:Code) (s:St) (Q:Ex->St->Prop):Prop:=
 ∀(ro:Option Nat),ro.isSome=R->
 ∀(A:Nat->Nat->Prop) (L:List p9) (g0:Gh) (w0:World) (g:Gh) (a:Act) (w:World) (B:Nat),B<=w0.heap.size->tP B g w s a->s3 A L g0 w0 g w s.H->s.np=L.length->c.wpIn (E2 ro) 0 P (a9G B A L g0 w0 Q) a w
variable {R:Bool}
theorem a9N {P:Program}{T:rQ}{Γ:tG}(hT:vT P T) (hΓ:D2 P Γ) (hm:P.follows .mixedOrders=true) {c:Code}{s:St}{Q:Ex->St->Prop}(h:uW T Γ c s Q):Ev R P c s Q:=
 fun ro hro A L g0 w0 g a w B hB hr hg hn=>F9 hT hΓ hm c s Q g a w h hr hg hn
structure qE (P:Program) (T:rQ) (Γ:tG):Prop where
 T:vT P T
 Γ:D2 P Γ
 m:P.follows .mixedOrders=true
theorem aIj {P:Program}{c:Code}{s:St}{Q Q':Ex->St->Prop}(h:Ev R P c s Q') (hq: ∀e s,Q' e s->Q e s):Ev R P c s Q:=by
 intro ro hro A L g0 w0 g a w B hB hr hg hn;refine aR3 (h ro hro A L g0 w0 g a w B hB hr hg hn) fun x a' w' hp=> ?_;obtain⟨e,g',s',h1,h2,h3,h4,h5⟩:=hp;exact⟨e,g',s',h1,hq e s' h2,h3,h4,h5⟩
theorem a9O {P:Program}{c:Code}{s:St}{Q:Ex->St->Prop}(k:uV) (h:Ev R P c (s.keep k) Q):Ev R P c s Q:=by
 intro ro hro A L g0 w0 g a w B hB hr hg hn;obtain⟨g1,k1,k2,k3,_⟩:=F7 hr hg hn k;exact h ro hro A L g0 w0 g1 a w B hB k1 k2 k3
section
variable {P:Program}{s:St}{Q:Ex->St->Prop}
theorem qM (h:Q .normal s):Ev R P .skip s Q:=fun _ _ _ _ _ _ g _ _ _ _ hr hg hn=>wpIn_skip ⟨.normal,g,s,rfl,h,hr,hg,hn⟩
theorem aIk {l:Nat}(h:Q .normal s):Ev R P (.label l) s Q:=fun _ _ _ _ _ _ g _ _ _ _ hr hg hn=>wpIn_label ⟨.normal,g,s,rfl,h,hr,hg,hn⟩
theorem uG {id:Nat}(h:Q (.exit id) s):Ev R P (.exit id) s Q:=fun _ _ _ _ _ _ g _ _ _ _ hr hg hn=>wpIn_exit ⟨.exit id,g,s,rfl,h,hr,hg,hn⟩
theorem pI (h:Q .ret s):Ev R P .ret s Q:=fun _ _ _ _ _ _ g _ _ _ _ hr hg hn=>wpIn_ret ⟨.ret,g,s,rfl,h,hr,hg,hn⟩
theorem pW {x y:Code}(h:Ev R P x s (N9 (fun s'=>Ev R P y s' Q) Q)):Ev R P (.seq x y) s Q:=by
 intro ro hro A L g0 w0 g a w B hB hr hg hn;refine wpIn_seq (aR3 (h ro hro A L g0 w0 g a w B hB hr hg hn) fun e a' w' hp=> ?_);obtain⟨e',g',s',h1,h2,h3,h4,h5⟩:=hp;cases e<;>simp only[CC,aQk] at h1
 case normal=>subst h1;exact h2 ro hro A L g0 w0 g' a' w' B hB h3 h4 h5
 case exit id=>subst h1;exact⟨.exit id,g',s',rfl,h2,h3,h4,h5⟩
 case ret=>subst h1;exact⟨.ret,g',s',rfl,h2,h3,h4,h5⟩
 all_goals cases h1
theorem aIl {c:Operand}{x y:Code}{b:Bool}{k:Option Nat}(h:sN s.env c=(.val .bool b,k)) (ht:b=true->Ev R P x s Q) (hf:b=false->Ev R P y s Q):Ev R P (.cond c x y) s Q:=by
 intro ro hro A L g0 w0 g a w B hB hr hg hn;have hc:=zC hr.env c;rw[h] at hc;exact wpIn_cond_split (vU hc.1) (fun e=>ht e ro hro A L g0 w0 g a w B hB hr hg hn) (fun e=>hf e ro hro A L g0 w0 g a w B hB hr hg hn)
theorem aIm {c:Operand}{x y:Code}{p q:Prop}{k:Option Nat}(h:sN s.env c=(.flag p q,k)) (ht:p->Ev R P x s Q) (hf:q->Ev R P y s Q):Ev R P (.cond c x y) s Q:=by
 intro ro hro A L g0 w0 g a w B hB hr hg hn;have hc:=zC hr.env c;rw[h] at hc;obtain⟨b,hb,hp,hq⟩:=hc.1;exact wpIn_cond_split hb (fun e=>ht (hp e) ro hro A L g0 w0 g a w B hB hr hg hn) (fun e=>hf (hq e) ro hro A L g0 w0 g a w B hB hr hg hn)
theorem aIn {c:Code}(h:Ev false P c s Q):Ev false P (.scope c) s Q:=by
 intro ro hro A L g0 w0 g a w B hB hr hg hn;have hN:ro=none:=by cases ro<;>first|rfl|cases hro
 subst hN;refine(wpIn_wide (n:=0)).2 (wp_scope_straight ((wpIn_wide (n:=0)).1 (aR3 (h none rfl A L g0 w0 g a w B hB hr hg hn) fun e a' w' hp=> ?_)));obtain⟨e',g',s',h1,h2,h3,h4,h5⟩:=hp;cases e<;>simp only[CC,aQk] at h1
 all_goals first|(cases h1;done) |exact⟨e',g',s',by simp only[CC];rw[h1],h2,h3,h4,h5⟩
theorem rI {id:Nat}{c:Code}(h:Ev R P c s (GH id Q)):Ev R P (.block id c) s Q:=by
 intro ro hro A L g0 w0 g a w B hB hr hg hn;refine wpIn_block (aR3 (h ro hro A L g0 w0 g a w B hB hr hg hn) fun e a' w' hp=> ?_);obtain⟨e',g',s',h1,h2,h3,h4,h5⟩:=hp;cases e<;>simp only[CC,aQk] at h1
 case normal=>subst h1;exact⟨.normal,g',s',rfl,h2,h3,h4,h5⟩
 case exit j=>
  subst h1;simp only[GH] at h2;simp only[Exit.inBlock];split
  ·rename_i hj;rw[aQj hj] at h2;exact⟨.normal,g',s',rfl,h2,h3,h4,h5⟩
  ·rename_i hj;rw[aQl hj] at h2;exact⟨.exit j,g',s',rfl,h2,h3,h4,h5⟩
 case ret=>subst h1;exact⟨.ret,g',s',rfl,h2,h3,h4,h5⟩
 all_goals cases h1
end
@[go_sem] def SY (k:Nat) (t:Ty) (l:List t.den):pA->pA
 |(.own j m,x)=>if j=k then(.val (.list t) l,some k) else(.own j m,x)
 |s=>s
@[go_sem] def GO (k:Nat) (t:Ty) (l:List t.den):List (Nat×pA)->List (Nat×pA)
 |[]=>[]
 |(i,s)::r=>(i,SY k t l s)::GO k t l r
@[go_sem] def a9P (k n:Nat):pA->Prop
 |(.own j m,_)=>j=k->m=n
 |_=>True
@[go_sem] def O0 (k n:Nat):List (Nat×pA)->Prop
 |[]=>True
 |(_,s)::r=>a9P k n s/\O0 k n r
theorem Z0 {k:Nat}{t:Ty}{l:List t.den}: ∀{env:List (Nat×pA)}{i:Nat},lk (GO k t l env) i=SY k t l (lk env i)
 |[],i=>rfl
 |(j,s)::r,i=>by
  simp only[GO,lk];split
  ·rfl
  ·exact Z0
theorem Z1 {k n:Nat}: ∀{env:List (Nat×pA)}{i:Nat},O0 k n env->a9P k n (lk env i)
 |[],i,_=>trivial
 |(j,s)::r,i,⟨h1,h2⟩=>by
  simp only[lk];split
  ·exact h1
  ·exact Z1 h2
theorem Z2 {P:Program}{c:Code}{s:St}{Q:Ex->St->Prop}(k:Nat) {e:TypeId}{t:Ty}{l:List t.den}{n:Nat}(hk:pC s.H k=some (.row e t l n)) (hok:O0 k n s.env)
  (h:Ev R P c ⟨GO k t l s.env,(k,.grow e t.cells (List.length l))::s.H,s.nb,s.N,s.np⟩ Q):Ev R P c s Q:=by
 intro ro hro A L g0 w0 g a w B hB hr hg hn;obtain⟨hl,v,xs,hv,hown,hF,hnone,hseal⟩:=hr.heap.blk k _ hk
 let g':Gh:={g with S:=fun b o=>g.S b o\/(v.ownBlock=some b/\o<n*t.cells)}
 have le:Le g w g' w:=⟨fun _ _ h=> .inl h,fun _ _ _=>rfl,fun _ _ h=>h,fun _ _ _ h=>h⟩;have hown2: ∀b,v.ownBlock=some b->∀o,r7 g k (.row e t l n) b o:=fun b hb o=>⟨v,hv,hb⟩;have hlist: ∀u,g.cur k n=some u->((u= .slice none 0 0/\n=0)\/∃b cap,u= .slice (some ⟨b,0,none⟩) n cap/\n<=cap)->s9 g' w (.list t) l u:=by
  intro u hu hshape;rw[hv] at hu;obtain rfl:=aQo hu;rcases hshape with⟨rfl,h0⟩ |⟨b,cap,rfl,hcap⟩
  ·have:l=[]:=aQS (by rw[hl,h0]);subst this;exact .inr ⟨rfl,none,0,rfl,aQF _,.inl rfl⟩
  ·refine .inr ⟨rfl,some ⟨b,0,none⟩,cap,by rw[hl],by rw[hl];exact hcap,.inr ⟨b,0,rfl,KO (C9 (fun _ _ h=>wC le h) hF) (fun j u hu=> ?_) (fun j hj=> ?_)⟩⟩
   ·have:=hown.cells (g:=b) rfl j u hu;rwa [aRz] at this
   ·right;exact⟨rfl,by rw[hl] at hj;omega⟩
 have hget: ∀i b,pC ((k,p9.grow e t.cells (List.length l))::s.H) i=some b->(i=k/\b= .grow e t.cells (List.length l))\/(i≠k/\pC s.H i=some b):=by
  intro i b hb;simp only[pC] at hb;split at hb
  ·rename_i e1;exact .inl ⟨e1.symm,(aQo hb).symm⟩
  ·rename_i e1;exact .inr ⟨Ne.symm e1,hb⟩
 have howns: ∀i b bb o,pC ((k,p9.grow e t.cells (List.length l))::s.H) i=some b->r7 g' i b bb o->∃b0,pC s.H i=some b0/\r7 g i b0 bb o:=by
  intro i b bb o hb ho;rcases hget i b hb with⟨rfl,rfl⟩ |⟨_,h1⟩
  ·obtain⟨u,hu,hub⟩:=ho;have hu':g.cur i (List.length l)=some u:=hu;rw[hl] at hu';exact⟨_,hk,u,hu',hub⟩
  ·exact⟨b,h1,(yD (g':=g') (g:=g) rfl rfl).1 ho⟩
 have hrel:tP B g' w ⟨GO k t l s.env,(k,.grow e t.cells (List.length l))::s.H,s.nb,s.N,s.np⟩ a:=by
  refine⟨fun i=> ?_,⟨fun i b hb=> ?_,fun i j bi bj b o hij h1 h2 o1 o2=> ?_,fun b o hS=> ?_,hr.heap.tab.1,fun i b bb oo hb ho=>by
   obtain⟨c1,k1,k2⟩:=howns i b bb oo hb ho;exact hr.heap.tab.2 i c1 bb oo k1 k2⟩,hr.size,hr.nb,hr.def_,hr.np⟩
  ·rw[Z0];have h1:=hr.env i;have h2:=Z1 (i:=i) hok;generalize lk s.env i=sl at h1 h2;obtain⟨d,x⟩:=sl;cases d with
   |own j m=>
    simp only[SY];split
    ·rename_i hj;subst hj;have hm:m=n:=h2 rfl;subst hm;refine⟨hlist _ h1.1.1 h1.1.2,?_⟩;show g'.cur j (List.length l)=_;rw[hl];exact h1.1.1
    ·exact AO le h1
   |_=>exact AO le h1
  ·rcases hget i b hb with⟨rfl,rfl⟩ |⟨hne,h1⟩
   ·refine⟨v,xs,by rw[hl];exact hv,by rw[hl];exact hown,fun m hm=>hnone m (by rw[hl] at hm;exact hm),fun b hb o hS=> ?_⟩;rw[hl];rcases hS with hS|hS
    ·exact absurd hS (hseal b hb o)
    ·exact hS.2
   ·exact KL (hr.heap.blk i b h1) le rfl rfl (fun _ _ _=>⟨rfl,rfl⟩) (fun _ _=>rfl) (fun bb o ho hS=>by
     rcases hS with hS|hS
     ·exact hS
     ·exact absurd (hown2 bb hS.1 o) (fun h5=>hr.heap.dis i k b _ bb o hne h1 hk ho h5)) (fun _ _ _ _ h=>h)
  ·obtain⟨c1,k1,k2⟩:=howns i bi b o h1 o1;obtain⟨c2,k3,k4⟩:=howns j bj b o h2 o2;exact hr.heap.dis i j c1 c2 b o hij k1 k3 k2 k4
  ·rcases hS with hS|hS
   ·exact hr.heap.sl b o hS
   ·exact NF hown hS.1
 have hgood:s3 A L g0 w0 g' w ((k,.grow e t.cells (List.length l))::s.H):=by
  refine⟨fun b o h0=>⟨.inl (hg.shut b o h0).1,(hg.shut b o h0).2⟩,⟨hg.fr.os,hg.fr.tape,hg.fr.output,hg.fr.size,hg.fr.blk,hg.fr.cell,fun b o hS=> ?_,hg.fr.shape⟩,fun i b bb o hb ho=> ?_,hg.J,hg.live,fun i u y us hi hb=> ?_,hg.cur⟩
  ·rcases hS with hS|hS
   ·exact hg.fr.new b o hS
   ·exact .inr (hg.perm k _ b o hk (hown2 b hS.1 o))
  ·obtain⟨c1,k1,k2⟩:=howns i b bb o hb ho;exact hg.perm i c1 bb o k1 k2
  ·rcases hget i _ hb with⟨_,h1⟩ |⟨_,h1⟩
   ·cases h1
   ·exact hg.ty i u y us hi h1
 exact h ro hro A L g0 w0 g' a w B hB hrel hgood hn
@[go_sem] def Z3 (k:Nat) (u0:Ty) (l:List u0.den) (e:Nat) (u:Ty):Option (Nat×Nat)-> Σ t:Ty,t.den
 |some (j,n)=>if j=k/\u=u0 then⟨.list u0,l⟩ else⟨.rl e u,some (j,n)⟩
 |none=>⟨.rl e u,none⟩
@[go_sem] def zX (k:Nat) (u0:Ty) (l:List u0.den):(t:Ty)->t.den-> Σ t:Ty,t.den
 | .rl e u,x=>Z3 k u0 l e u x
 | .pair a b,x=>if (Ty.pair a b).pure=true then⟨.pair a b,x⟩ else⟨.pair (zX k u0 l a x.1).1 (zX k u0 l b x.2).1,((zX k u0 l a x.1).2,(zX k u0 l b x.2).2)⟩
 |t,x=>⟨t,x⟩
@[go_sem] def aIo (k n:Nat):Option (Nat×Nat)->Prop
 |some (j,m)=>j=k->m=n
 |none=>True
@[go_sem] def O1 (k n:Nat):(t:Ty)->t.den->Prop
 | .rl _ _,x=>aIo k n x
 | .pair a b,x=>O1 k n a x.1/\O1 k n b x.2
 |_,_=>True
theorem O2 {k:Nat}{u0:Ty}{l:List u0.den}: ∀{t:Ty}{x:t.den},(zX k u0 l t x).1.cells=t.cells
 | .rl e u,none=>rfl
 | .rl e u,some (j,n)=>by
  simp only[zX,Z3];split<;>rfl
 | .pair a b,x=>by
  simp only[zX];split
  ·rfl
  ·simp only[Ty.cells,O2 (t:=a),O2 (t:=b)]
 | .bool,_=>rfl
 | .int _,_=>rfl
 | .str,_=>rfl
 | .list _,_=>rfl
 | .unit,_=>rfl
 | .ref,_=>rfl
 | .clo,_=>rfl
 | .mp,_=>rfl
 | .mref,_=>rfl
 | .fn,_=>rfl
def aIp (g:Gh) (w:World) (q: Σ t:Ty,t.den) (cs:List Value):Prop:=Rd g w q.1 q.2 cs
theorem Z4 {g:Gh}{w:World}{k n:Nat}{u0:Ty}{l:List u0.den}(hk: ∀cs,GI g (some (k,n)) cs->Rd g w (.list u0) l cs): ∀{t:Ty}{x:t.den}{cs:List Value},O1 k n t x->Rd g w t x cs->aIp g w (zX k u0 l t x) cs
 | .rl e u,none,_,_,r=>r
 | .rl e u,some (j,m),_,h,r=>by
  simp only[zX,Z3];split
  ·rename_i hc;obtain⟨rfl,rfl⟩:=hc;have:m=n:=h rfl;subst this;exact hk _ r
  ·exact r
 | .pair a b,x,_,h,r=>by
  simp only[zX];split
  ·exact r
  ·obtain⟨c1,c2,e,r1,r2⟩:=r;exact⟨c1,c2,e,Z4 hk h.1 r1,Z4 hk h.2 r2⟩
 | .bool,_,_,_,r=>r
 | .int _,_,_,_,r=>r
 | .str,_,_,_,r=>r
 | .list _,_,_,_,r=>r
 | .unit,_,_,_,r=>r
 | .ref,_,_,_,r=>r
 | .clo,_,_,_,r=>r
 | .mp,_,_,_,r=>r
 | .mref,_,_,_,r=>r
 | .fn,_,_,_,r=>r
theorem aIq {P:Program}{c:Code}{s:St}{Q:Ex->St->Prop}(k i:Nat) {e:TypeId}{t:Ty}{l:List t.den}{n:Nat}(hk:pC s.H k=some (.row e t l n)) {u:Ty}{x:u.den}{toks:List (Nat×Nat)}(hi:pC s.H i=some (.cells u x toks)) (hnp:s.np<=i)
  (hok:O0 k n s.env) (hxo:O1 k n u x)
  (h:Ev R P c ⟨GO k t l s.env,(i,.cells (zX k t l u x).1 (zX k t l u x).2 [])::(k,.grow e t.cells (List.length l))::s.H,s.nb,s.N,s.np⟩ Q):Ev R P c s Q:=by
 intro ro hro A L g0 w0 g a w B hB hr hg hn;obtain⟨hl,v,xs,hv,hown,hF,hnone,hseal⟩:=hr.heap.blk k _ hk
 let g':Gh:={g with S:=fun b o=>g.S b o\/(v.ownBlock=some b/\o<n*t.cells)}
 have le:Le g w g' w:=⟨fun _ _ h=> .inl h,fun _ _ _=>rfl,fun _ _ h=>h,fun _ _ _ h=>h⟩;have hown2: ∀b,v.ownBlock=some b->∀o,r7 g k (.row e t l n) b o:=fun b hb o=>⟨v,hv,hb⟩;have hlist: ∀u,g.cur k n=some u->((u= .slice none 0 0/\n=0)\/∃b cap,u= .slice (some ⟨b,0,none⟩) n cap/\n<=cap)->s9 g' w (.list t) l u:=by
  intro u hu hshape;rw[hv] at hu;obtain rfl:=aQo hu;rcases hshape with⟨rfl,h0⟩ |⟨b,cap,rfl,hcap⟩
  ·have:l=[]:=aQS (by rw[hl,h0]);subst this;exact .inr ⟨rfl,none,0,rfl,aQF _,.inl rfl⟩
  ·refine .inr ⟨rfl,some ⟨b,0,none⟩,cap,by rw[hl],by rw[hl];exact hcap,.inr ⟨b,0,rfl,KO (C9 (fun _ _ h=>wC le h) hF) (fun j u hu=> ?_) (fun j hj=> ?_)⟩⟩
   ·have:=hown.cells (g:=b) rfl j u hu;rwa [aRz] at this
   ·right;exact⟨rfl,by rw[hl] at hj;omega⟩
 have hik:i≠k:=fun e1=>by rw[e1,hk] at hi;cases hi
 obtain⟨p0,cs0,hp0,hR0,hra0,hth0,hns0,_⟩:=hr.heap.blk i _ hi
 let b':p9:= .cells (zX k t l u x).1 (zX k t l u x).2 []
 let H':r5:=(i,b')::(k,p9.grow e t.cells (List.length l))::s.H
 have hget: ∀i' b,pC H' i'=some b->(i'=i/\b=b')\/(i'=k/\b= .grow e t.cells (List.length l))\/(i'≠k/\i'≠i/\pC s.H i'=some b):=by
  intro i' b hb;simp only[H',pC] at hb;split at hb
  ·rename_i e1;exact .inl ⟨e1.symm,(aQo hb).symm⟩
  ·rename_i e1;split at hb
   ·rename_i e2;exact .inr (.inl ⟨e2.symm,(aQo hb).symm⟩)
   ·rename_i e2;exact .inr (.inr ⟨Ne.symm e2,Ne.symm e1,hb⟩)
 have howns: ∀i' b bb o,pC H' i'=some b->r7 g' i' b bb o->∃b0,pC s.H i'=some b0/\r7 g i' b0 bb o:=by
  intro i' b bb o hb ho;rcases hget i' b hb with⟨rfl,rfl⟩ |⟨rfl,rfl⟩ |⟨_,_,h1⟩
  ·obtain⟨p,hp,e1,e2,e3⟩:=ho;rw[O2] at e3;exact⟨_,hi,p,hp,e1,e2,e3⟩
  ·obtain⟨u,hu,hub⟩:=ho;have hu':g.cur i' (List.length l)=some u:=hu;rw[hl] at hu';exact⟨_,hk,u,hu',hub⟩
  ·exact⟨b,h1,(yD (g':=g') (g:=g) rfl rfl).1 ho⟩
 have hrel:tP B g' w ⟨GO k t l s.env,H',s.nb,s.N,s.np⟩ a:=by
  refine⟨fun j=> ?_,⟨fun i' b hb=> ?_,fun i' j bi bj b o hij h1 h2 o1 o2=> ?_,fun b o hS=> ?_,hr.heap.tab.1,fun i' b bb oo hb ho=>by
   obtain⟨c1,k1,k2⟩:=howns i' b bb oo hb ho;exact hr.heap.tab.2 i' c1 bb oo k1 k2⟩,hr.size,hr.nb,hr.def_,hr.np⟩
  ·rw[Z0];have h1:=hr.env j;have h2:=Z1 (i:=j) hok;generalize lk s.env j=sl at h1 h2;obtain⟨d,x⟩:=sl;cases d with
   |own j m=>
    simp only[SY];split
    ·rename_i hj;subst hj;have hm:m=n:=h2 rfl;subst hm;refine⟨hlist _ h1.1.1 h1.1.2,?_⟩;show g'.cur j (List.length l)=_;rw[hl];exact h1.1.1
    ·exact AO le h1
   |_=>exact AO le h1
  ·rcases hget i' b hb with⟨rfl,rfl⟩ |⟨rfl,rfl⟩ |⟨hne,_,h1⟩
   ·have hk2: ∀cs,GI g' (some (k,n)) cs->Rd g' w (.list t) l cs:=by
     rintro cs ⟨v1,q1,q2,q3⟩;rw[q2];exact BO rfl (hlist v1 q1 q3)
    refine⟨p0,cs0,hp0,Z4 (n:=n) hk2 hxo (wC le hR0),hra0,?_,?_,fun _ _ hm=>by cases hm⟩
    ·rw[O2];exact⟨hth0.1,hth0.2⟩
    ·rw[O2];intro j hj hS;rcases hS with hS|hS
     ·exact hns0 j hj hS
     ·exact hr.heap.dis i' k _ _ p0.1 (p0.2+j) hik hi hk ⟨p0,hp0,rfl,by omega,by omega⟩ (hown2 _ hS.1 _)
   ·refine⟨v,xs,by rw[hl];exact hv,by rw[hl];exact hown,fun m hm=>hnone m (by rw[hl] at hm;exact hm),fun b hb o hS=> ?_⟩;rw[hl];rcases hS with hS|hS
    ·exact absurd hS (hseal b hb o)
    ·exact hS.2
   ·exact KL (hr.heap.blk i' b h1) le rfl rfl (fun _ _ _=>⟨rfl,rfl⟩) (fun _ _=>rfl) (fun bb o ho hS=>by
     rcases hS with hS|hS
     ·exact hS
     ·exact absurd (hown2 bb hS.1 o) (fun h5=>hr.heap.dis i' k b _ bb o hne h1 hk ho h5)) (fun _ _ _ _ h=>h)
  ·obtain⟨c1,k1,k2⟩:=howns i' bi b o h1 o1;obtain⟨c2,k3,k4⟩:=howns j bj b o h2 o2;exact hr.heap.dis i' j c1 c2 b o hij k1 k3 k2 k4
  ·rcases hS with hS|hS
   ·exact hr.heap.sl b o hS
   ·exact NF hown hS.1
 have hgood:s3 A L g0 w0 g' w H':=by
  refine⟨fun b o h0=>⟨.inl (hg.shut b o h0).1,(hg.shut b o h0).2⟩,⟨hg.fr.os,hg.fr.tape,hg.fr.output,hg.fr.size,hg.fr.blk,hg.fr.cell,fun b o hS=> ?_,hg.fr.shape⟩,fun i' b bb o hb ho=> ?_,hg.J,hg.live,fun i' u' y us hi' hb=> ?_,hg.cur⟩
  ·rcases hS with hS|hS
   ·exact hg.fr.new b o hS
   ·exact .inr (hg.perm k _ b o hk (hown2 b hS.1 o))
  ·obtain⟨c1,k1,k2⟩:=howns i' b bb o hb ho;exact hg.perm i' c1 bb o k1 k2
  ·rcases hget i' _ hb with⟨rfl,_⟩ |⟨_,h1⟩ |⟨_,_,h1⟩
   ·omega
   ·cases h1
   ·exact hg.ty i' u' y us hi' h1
 exact h ro hro A L g0 w0 g' a w B hB hrel hgood hn
theorem aIr {P:Program}{c:Code}{s:St}{Q:Ex->St->Prop}(k i:Nat) {e:TypeId}{t:Ty}{l:List t.den}{n:Nat}(hk:pC s.H k=some (.row e t l n)) {u:Ty}{x:u.den}{toks:List (Nat×Nat)}(hi:pC s.H i=some (.cells u x toks)) (hnp:s.np<=i)
  (hok:O0 k n s.env) (hxo:O1 k n u x) {u':Ty}{y':u'.den}(hz:zX k t l u x=⟨u',y'⟩)
  (h:Ev R P c ⟨GO k t l s.env,(i,.cells u' y' [])::(k,.grow e t.cells (List.length l))::s.H,s.nb,s.N,s.np⟩ Q):Ev R P c s Q:=
 aIq k i hk hi hnp hok hxo (by rw[hz];exact h)
def iter {σ ρ:Type}(f:σ->Option (σ⊕ρ)):Nat->σ->Option ρ
 |0,_=>none
 |n+1,x=>match f x with
  |none=>none
  |some (.inl y)=>iter f n y
  |some (.inr r)=>some r
theorem a9Q {σ ρ:Type}{f:σ->Option (σ⊕ρ)}{r:ρ}: ∀{n:Nat}{x:σ},iter f n x=some r->iter f (n+1) x=some r
 |0,_,h=>by cases h
 |n+1,x,h=>by
  unfold iter at h⊢;split
  ·rename_i e;rw[e] at h;cases h
  ·rename_i y e;rw[e] at h;exact a9Q h
  ·rename_i r' e;rw[e] at h;exact h
theorem Z5 {σ ρ:Type}{f:σ->Option (σ⊕ρ)}{r:ρ}{n:Nat}{x:σ}(h:iter f n x=some r): ∀m,iter f (n+m) x=some r
 |0=>h
 |m+1=>a9Q (Z5 h m)
theorem a9R {σ ρ:Type}{f:σ->Option (σ⊕ρ)}{r r':ρ}{n m:Nat}{x:σ}(h:iter f n x=some r) (h':iter f m x=some r'):r=r':=by
 have h1:=Z5 h m;have h2:=Z5 h' n;rw[Nat.add_comm] at h2;exact aQo (h1.symm.trans h2)
noncomputable def O3 {σ ρ:Type}(f:σ->Option (σ⊕ρ)) (x:σ):Option ρ:=open Classical in if h: ∃n r,iter f n x=some r then some (Classical.choose (aRX h)) else none
def aIs {ρ:Type}:Option ρ->Option ρ->Option ρ
 |some r,_=>some r
 |none,r=>r
noncomputable def pU {σ ρ:Type}(f:σ->Option (σ⊕ρ)) (x:σ):Option ρ:=aIs (iter f 2000 x) (O3 f x)
theorem aIt {σ ρ:Type}{f:σ->Option (σ⊕ρ)}{x:σ}{r:ρ}{n:Nat}(h:iter f n x=some r):O3 f x=some r:=by
 have hx: ∃n r,iter f n x=some r:=⟨n,r,h⟩;unfold O3;rw[aSw hx,a9R h (aRX (aRX hx))]
theorem Z6 {σ ρ:Type}{f:σ->Option (σ⊕ρ)}{x:σ}{r:ρ}{n:Nat}(h:iter f n x=some r):pU f x=some r:=by
 unfold pU;cases hi:iter f 2000 x with
 |some r'=>rw[a9R h hi];rfl
 |none=>exact aIt h
theorem SZ {σ ρ:Type}{f:σ->Option (σ⊕ρ)}{x:σ}{r:ρ}(h:pU f x=some r): ∃n,iter f n x=some r:=by
 unfold pU at h;cases hi:iter f 2000 x with
 |some r'=>
  rw[hi] at h;cases h;exact⟨_,hi⟩
 |none=>
  rw[hi] at h;have h:O3 f x=some r:=h;unfold O3 at h;split at h
  ·rename_i hx;have:=aRX (aRX hx);rw[aQo h] at this;exact⟨_,this⟩
  ·cases h
attribute [irreducible] pU
theorem IQ {σ ρ:Type}{f:σ->Option (σ⊕ρ)}{x y:σ}(h:f x=some (.inl y)):pU f x=pU f y:=by
 cases hy:pU f y with
 |some r=>
  obtain⟨n,hn⟩:=SZ hy;exact Z6 (n:=n+1) (by unfold iter;rw[h];exact hn)
 |none=>
  cases hx:pU f x with
  |none=>rfl
  |some r=>
   obtain⟨n,hn⟩:=SZ hx;cases n with
   |zero=>cases hn
   |succ n=>
    unfold iter at hn;rw[h] at hn;rw[Z6 hn] at hy;cases hy
theorem wO {σ ρ:Type}{f:σ->Option (σ⊕ρ)}{x:σ}{r:ρ}(h:f x=some (.inr r)):pU f x=some r:=Z6 (n:=1) (by unfold iter;rw[h])
def Nxt {σ ρ:Type}(f:σ->Option (σ⊕ρ)) (y:ρ) (n:Nat):σ⊕ρ->Prop
 | .inl x=>iter f n x=some y
 | .inr r=>r=y
def qL {σ ρ:Type}(enc:σ->St) (f:σ->Option (σ⊕ρ)) (y:ρ) (n:Nat) (Q:Ex->St->Prop):Ex->St->Prop
 | .normal,s=> ∃(k:uV) (x:σ),s.keep k=enc x/\iter f n x=some y
 | .exit j,s=>Q (.exit j) s
 | .ret,s=>Q .ret s
theorem aIv {P:Program}{c:Code}{s:St}{Q:Ex->St->Prop}(I:Nat->St->Prop) (h0: ∃(k:uV) (n:Nat),I n (s.keep k))
  (h: ∀n s,I n s->Ev R P c s (fun e s'=>match e with| .normal=> ∃(k:uV) (m:Nat),m<n/\I m (s'.keep k) |e=>Q e s')):Ev R P (.loop c) s Q:=by
 intro ro hro A L g0 w0 g a w B hB hr hg hn;obtain⟨k,n0,h0⟩:=h0;obtain⟨g1,k1,k2,k3,_⟩:=F7 hr hg hn k
 let R:Act->World->Nat->Prop:=fun a w n=> ∃g s,I n s/\tP B g w s a/\s3 A L g0 w0 g w s.H/\s.np=L.length
 refine wpIn_loop (fun a w=> ∃n,R a w n) (fun a w=>NX (R a w)) ⟨_,g1,s.keep k,h0,k1,k2,k3⟩ (fun a w hI=> ?_);obtain⟨⟨g2,s2,i1,i3,i4,i5⟩,_⟩:=SU hI;refine aR3 (h _ s2 i1 ro hro A L g0 w0 g2 a w B hB i3 i4 i5) fun e a' w' hp=> ?_;obtain⟨e',g',s',h1,h2,h3,h4,h5⟩:=hp;cases e<;>simp only[CC,aQk] at h1
 case normal=>
  subst h1;obtain⟨k',m,j1,j2⟩:=h2;obtain⟨g3,l1,l2,l3,_⟩:=F7 h3 h4 h5 k';have hR:R a' w' m:=⟨g3,s'.keep k',j2,l1,l2,l3⟩;exact⟨⟨_,hR⟩,Nat.lt_of_le_of_lt ((SU ⟨_,hR⟩).2 _ hR) j1⟩
 case exit id=>subst h1;exact⟨.exit id,g',s',rfl,h2,h3,h4,h5⟩
 case ret=>subst h1;exact⟨.ret,g',s',rfl,h2,h3,h4,h5⟩
 all_goals cases h1
theorem uY {P:Program}{c:Code}{s:St}{Q:Ex->St->Prop}{σ ρ:Type}{f:σ->Option (σ⊕ρ)}{x0:σ}{y:ρ}(hy:pU f x0=some y) (enc:σ->St) (k:uV) (h0:s.keep k=enc x0)
  (round: ∀x w n,f x=some w->Nxt f y n w->Ev R P c (enc x) (qL enc f y n Q)):Ev R P (.loop c) s Q:=by
 obtain⟨n,hn⟩:=SZ hy;refine aIv (fun n s=> ∃x,s=enc x/\iter f n x=some y) ⟨k,n,x0,h0,hn⟩ fun n s ⟨x,e,hx⟩=> ?_;subst e;cases n with
 |zero=>cases hx
 |succ n=>
  unfold iter at hx;refine aIj (Q':=qL enc f y n Q) ?_ (fun e s' hq=> ?_)
  ·split at hx
   ·cases hx
   ·rename_i x' e;exact round x _ n e hx
   ·rename_i r e;exact round x _ n e (aQo hx)
  ·cases e with
   |normal=>obtain⟨k,x',h1,h2⟩:=hq;exact⟨k,n,by omega,x',h1,h2⟩
   |exit j=>exact hq
   |ret=>exact hq
def qX (j:Nat) (X:St->Prop) (Q:Ex->St->Prop):Ex->St->Prop
 | .normal,s=>Q .normal s
 | .exit i,s=>if i=j then∃k:uV,X (s.keep k) else Q (.exit i) s
 | .ret,s=>Q .ret s
theorem uZ {P:Program}{c:Code}{s:St}{Q:Ex->St->Prop}(j:Nat) (X:St->Prop) (h:Ev R P c s (qX j X Q)) (J: ∀s',X s'->Q (.exit j) s'):Ev R P c s Q:=by
 intro ro hro A L g0 w0 g a w B hB hr hg hn;refine aR3 (h ro hro A L g0 w0 g a w B hB hr hg hn) fun x a' w' hp=> ?_;obtain⟨e,g',s',h1,h2,h3,h4,h5⟩:=hp;cases e with
 |normal=>exact⟨.normal,g',s',h1,h2,h3,h4,h5⟩
 |ret=>exact⟨.ret,g',s',h1,h2,h3,h4,h5⟩
 |exit i=>
  have h2:(if i=j then∃k:uV,X (s'.keep k) else Q (.exit i) s'):=h2;by_cases hij:i=j
  ·rw[aQj hij] at h2;obtain⟨k,hk⟩:=h2;obtain⟨g1,k1,k2,k3,_⟩:=F7 h3 h4 h5 k;exact⟨.exit i,g1,s'.keep k,h1,by rw[hij];exact J _ hk,k1,k2,k3⟩
  ·rw[aQl hij] at h2;exact⟨.exit i,g',s',h1,h2,h3,h4,h5⟩
section
variable {Q:Ex->St->Prop}{s:St}{j i:Nat}{X:St->Prop}{σ ρ:Type}{enc:σ->St}{f:σ->Option (σ⊕ρ)}{y:ρ}{n:Nat}
theorem yH (h:Q .ret s):qX j X Q .ret s:=h
theorem uH (h: ∃k:uV,X (s.keep k)):qX j X Q (.exit j) s:=by show (if j=j then _ else _);rw[aQj rfl];exact h
theorem sM (h: ∃(k:uV) (x:σ),s.keep k=enc x/\iter f n x=some y):qL enc f y n Q .normal s:=h
theorem uI (h:Q (.exit j) s):qL enc f y n Q (.exit j) s:=h
theorem yI (h:Q .ret s):qL enc f y n Q .ret s:=h
end
def qN (X:St->Prop) (Q:Ex->St->Prop):Ex->St->Prop
 | .normal,s=> ∃k:uV,X (s.keep k)
 | .exit j,s=>Q (.exit j) s
 | .ret,s=>Q .ret s
theorem CD {P:Program}{c:Code}{s:St}{Q:Ex->St->Prop}(X:St->Prop) (h:Ev R P c s (qN X Q)) (J: ∀s',X s'->Q .normal s'):Ev R P c s Q:=by
 intro ro hro A L g0 w0 g a w B hB hr hg hn;refine aR3 (h ro hro A L g0 w0 g a w B hB hr hg hn) fun x a' w' hp=> ?_;obtain⟨e,g',s',h1,h2,h3,h4,h5⟩:=hp;cases e with
 |exit j=>exact⟨.exit j,g',s',h1,h2,h3,h4,h5⟩
 |ret=>exact⟨.ret,g',s',h1,h2,h3,h4,h5⟩
 |normal=>
  obtain⟨k,hk⟩:=h2;obtain⟨g1,k1,k2,k3,_⟩:=F7 h3 h4 h5 k;exact⟨.normal,g1,s'.keep k,h1,J _ hk,k1,k2,k3⟩
section
variable {Q:Ex->St->Prop}{s:St}{j:Nat}{X:St->Prop}
theorem uP (h: ∃k:uV,X (s.keep k)):qN X Q .normal s:=h
end
def val {ρ:Type}[Inhabited ρ] (x:Option ρ):ρ:=x.getD default
theorem r8 {ρ:Type}[Inhabited ρ] {x:Option ρ}{y:ρ}(h:x=some y):val x=y:=by rw[h];rfl
theorem pS {ρ:Type}{x:Option ρ}{y:ρ}(h:x=some y):x.isSome=true:=by rw[h];rfl
theorem pG {ρ:Type}{c:Prop}[Decidable c] {x:Option ρ}{r:ρ}(h:(if c then x else none)=some r):c/\x=some r:=by
 by_cases hc:c
 ·rw[aQj hc] at h;exact⟨hc,h⟩
 ·rw[aQl hc] at h;cases h
theorem pD {σ ρ:Type}{x:Option σ}{k:σ->Option ρ}{r:ρ}(h:x.bind k=some r): ∃y,x=some y/\k y=some r:=by
 cases x with
 |none=>cases h
 |some y=>exact⟨y,rfl,h⟩
theorem aIw {ρ:Type}{b:Bool}{x y:ρ}{r:ρ}(h:(if b=true then x else y)=r) (hb:b=true):x=r:=by rw[aQj hb] at h;exact h
theorem aIx {ρ:Type}{b:Bool}{x y:ρ}{r:ρ}(h:(if b=true then x else y)=r) (hb:b=false):y=r:=by rw[hb,aQl (by decide)] at h;exact h
def rZ {σ ρ:Type}(x:Option (σ⊕ρ)) (k:σ->Option ρ):Option ρ:=x.bind fun y=>match y with
 | .inl v=>k v
 | .inr r=>some r
theorem zD {σ ρ:Type}{x:Option (σ⊕ρ)}{k:σ->Option ρ}{r:ρ}(h:rZ x k=some r): ∃y,x=some y/\(match y with| .inl v=>k v| .inr r=>some r)=some r:=pD h
def qZ {σ ρ:Type}(x:Option σ) (k:σ->Option ρ):Option ρ:=x.bind k
def rE {σ ρ:Type}(x:σ) (k:σ->ρ):ρ:=k x
theorem aIy {σ ρ:Type}{x:σ}{k:σ->ρ}{r:ρ}(h:rE x k=r):k x=r:=h
theorem vI {σ ρ:Type}{x:σ}{k:σ->ρ}{r:ρ}(h:rE x k=r): ∃y,x=y/\k y=r:=⟨x,rfl,h⟩
theorem sH {x:Bool}(h:x=true):(x==true)=true:=by rw[h];rfl
theorem GP {G x:Bool}(hG:G=true) (h:x=true):(G&&(x==true))=true:=by rw[hG,h];rfl
theorem GQ {G x:Bool}(hG:G=true) (h:x=false):(G&&(x==false))=true:=by rw[hG,h];rfl
theorem uA {x:Bool}(h:x=false):(x==false)=true:=by rw[h];rfl
section
variable {P:Program}{T:rQ}{Γ:tG}(E:qE P T Γ) {s:St}{Q:Ex->St->Prop}
include E
theorem a9S {id:Nat}{ops:Array Oper}{a:uT}(h:uU T Γ ops.toList ops.toList (some ⟨s,[],[]⟩)=some a) (hp:qG a.side) (hq:Q .normal a.s):Ev R P (.region id ops false) s Q:=
 a9N E.T E.Γ E.m (aGt h hp hq)
theorem a9T {id:Nat}{ops:Array Oper}{a:uT}(h:uU T Γ ops.toList ops.toList (some ⟨s,[],[]⟩)=some a) (hf:DW ops s.nb a.es.reverse=true) (hp:qG a.side) (hq:Q .normal a.s):Ev R P (.region id ops true) s Q:=
 a9N E.T E.Γ E.m (aGu h hf hp hq)
end
end Go.Proofs.YtbbpilohihldiaaGreatDoor.Vc
namespace Go.Proofs.YtbbpilohihldiaaGreatDoor.Vc
open Go.RowKit
variable {R:Bool}
attribute [go_sem] Option.map_some Option.map_none
@[go_sem] theorem aOF {H:List (Nat×p9)}{ps:List PK}{b:List pA}{a:Option rX}:w7 H ps ([]++b) a=w7 H ps b a:=rfl
@[go_sem] theorem aOG {H:List (Nat×p9)}{ps:List PK}{x:pA}{l b:List pA}{a:Option rX}:w7 H ps ((x::l)++b) a=w7 H ps (x::(l++b)) a:=rfl
@[go_sem] def a9U:Option pA->Option (List pA)->Option (List pA)
 |some s,some l=>some (s::l)
 |_,_=>none
@[go_sem] def a9V:Option pJ->Option pA
 |some e=>some e.slot
 |none=>none
@[go_sem] def T0 (H:List (Nat×p9)):Option TI->pA->Option pJ
 |some ti,(.val .ref (some (i,off)),_)=>N1 ti.ty i off (pC H i)
 |_,_=>none
@[go_sem] def O4 (T:rQ) (s:St) (m:List (Nat×Nat)):Nat×Option TypeId->Option pA
 |(t,none)=>some (yY m (lk s.env t))
 |(t,some ty)=>(a9V (T0 s.H (qQ T ty) (lk s.env t))).map (yY m)
@[go_sem] def GR (T:rQ) (s:St) (m:List (Nat×Nat)):List (Nat×Option TypeId)->Option (List pA)
 |[]=>some []
 |q::r=>a9U (O4 T s m q) (GR T s m r)
def CE:Nat×Option TypeId->ResultVar
 |(t,none)=> .tmp t
 |(t,some ty)=> .cell t ty
@[go_sem] def D3:Nat->Nat->List (Nat×p9)->List (Nat×p9)
 |0,_,H=>H
 |n+1,i,[]=>(i,.dead)::D3 n (i+1) []
 |n+1,i,(j,b)::H=>if j=i then(j,b)::D3 n (i+1) H else(i,.dead)::D3 n (i+1) ((j,b)::H)
theorem IR: ∀{n i:Nat}{H:List (Nat×p9)}{k:Nat}{b:p9},pC (D3 n i H) k=some b->pC H k=some b\/b= .dead
 |0,_,_,_,_,h=> .inl h
 |n+1,i,[],k,b,h=>by
  simp only[D3,pC] at h;split at h
  ·exact .inr (aQo h).symm
  ·exact IR h
 |n+1,i,(j,c)::H,k,b,h=>by
  unfold D3 at h;split at h
  ·simp only[pC] at h⊢;split at h
   ·rename_i e;rw[aQj e];exact .inl h
   ·rename_i e;rw[aQl e];exact IR h
  ·simp only[pC] at h;split at h
   ·exact .inr (aQo h).symm
   ·exact IR h
theorem rK.pad {g:Gh}{w:World}{H:r5}(h:rK g w H) (n i:Nat):rK g w (D3 n i H):=by
 have own: ∀{k blk b o},pC (D3 n i H) k=some blk->r7 g k blk b o->pC H k=some blk:=fun hg ho=>by
  rcases IR hg with h1|h1
  ·exact h1
  ·subst h1;exact ho.elim
 refine⟨fun k b hb=> ?_,fun i j bi bj b o hij h1 h2 o1 o2=>h.dis i j bi bj b o hij (own h1 o1) (own h2 o2) o1 o2,h.sl,h.tab.1,fun k blk b o h1 h2=>h.tab.2 k blk b o (own h1 h2) h2⟩;rcases IR hb with h1|h1
 ·exact h.blk k b h1
 ·subst h1;trivial
theorem s3.pad {A:Nat->Nat->Prop}{L:List p9}{g0 g:Gh}{w0 w:World}{H:r5}(h:s3 A L g0 w0 g w H) (n i:Nat):s3 A L g0 w0 g w (D3 n i H):=by
 refine⟨h.shut,h.fr,fun k blk b o hg ho=> ?_,h.J,h.live,fun k u y us hk hg=> ?_,h.cur⟩
 ·rcases IR hg with h1|h1
  ·exact h.perm k blk b o h1 ho
  ·subst h1;exact ho.elim
 ·rcases IR hg with h1|h1
  ·exact h.ty k u y us hk h1
  ·cases h1
def a9W (T:rQ) (ts:List (Nat×Option TypeId)) (r:pF):Ex->St->Prop
 | .exit _,_=>False
 |_,s=> ∃m:List (Nat×Nat),wA s.np m=true/\D3 (pV r.H) 0 (s.keep ⟨[],m⟩).H=pM 0 r.H/\GR T s m ts=some r.ret
section
variable {P:Program}{o:Oper}{a:Act}{g:Gh}{w:World}{H:r5}{T:rQ}(hT:vT P T) (hH:rK g w H)
include hT hH
theorem aIz {t:TypeId}{vx:Value}{sx:pA}(hx:qJ g w sx vx) {e:pJ}(hr:T0 H (qQ T t) sx=some e): ∃ad v,vx= .pointer (some ad)/\(loadVar t ad).run P w= .ok v w/\qJ g w e.slot v:=by
 generalize hs:qQ T t=ot at hr;replace hx:=hx.1;unfold T0 at hr;split at hr
 ·rename_i ti i off k;have hty:=s5 hT hs;generalize hb:pC H i=ob at hr;unfold N1 at hr;split at hr
  ·rename_i u z toks;generalize hga:pX ti.ty u z off=oy at hr;cases oy with
   |none=>cases hr
   |some y=>
    cases hr;obtain⟨p,hp,hv⟩:=zV hx;obtain⟨p',cs,hp',hR,hra,_,_,htk⟩:=hH.blk i _ hb;rw[hp] at hp';obtain rfl:=aQo hp';obtain⟨c1,c2,c3,rfl,rfl,hR2⟩:=DX hR hga;obtain⟨v,h1,h2,h3⟩:=S5 hT hH hty (NM hT hH hra) hR2;refine⟨_,v,hv,by simpa[Instr.loadAt,Instr.sureAddr] using h1,h2,?_⟩;obtain⟨ty,el,by',ar,ls⟩:=ti;cases ty with
    |list u'=>
     simp only[ES];generalize htt:vR toks c1.length=ok;cases ok with
     |none=>trivial
     |some k=>
      obtain⟨u2,l,v',g1,g2,g3⟩:=htk _ _ (XN hT hH htt);obtain⟨heq,hl⟩:=a7Z hT hH g1 hga rfl;injection heq with heq'
      subst heq';have hlen:=rS hR2;obtain⟨v2,rfl⟩:=aRG.1 hlen;have e2:v'=v2:=by
       have e:(c1++[v2]++c3)[c1.length]? =some v2:=by simp
       rw[e] at g2;exact(aQo g2).symm
      have e3:v=v2:=by
       have h4:=BO rfl h2;have hone:=AP h4 v (by simp);have:v.cells= #[v]:=by cases v<;>first|rfl|(simp [Value.oneCell'] at hone)
       rw[this] at h3;simpa using h3
      subst e2;subst e3;have e4:(y:List u'.den)=l:=hl;subst e4;exact g3
    |_=>trivial
  ·cases hr
 ·cases hr
end
def IS (tmps:Array Value) (q:Nat×Option TypeId):Sem Value:=match CE q with
 | .tmp t=>pure (tmps.getD t undef)
 | .cell a t=>do loadVar t (<-asAddr (tmps.getD a undef))
theorem a9X {P:Program}{T:rQ}(hT:vT P T) {B:Nat}{g:Gh}{w:World}{s:St}{a:Act}{m:List (Nat×Nat)}(hk:wA s.np m=true) (hr:tP B g w s a): ∀{ts:List (Nat×Option TypeId)}{l:List pA},GR T s m ts=some l->
  ∃vs:List Value,(ts.mapM (IS a.tmps)).run P w= .ok vs w/\tZ (t6 g s.np m) w l vs
 |[],l,h=>by
  simp only[GR,aQk] at h;subst h;exact⟨[],by simp,rfl⟩
 |q::ts,l,h=>by
  simp only[GR] at h;obtain⟨s1,l1,e1,e2,rfl⟩: ∃s1 l1,O4 T s m q=some s1/\GR T s m ts=some l1/\l=s1::l1:=by
   cases h1:O4 T s m q<;>cases h2:GR T s m ts<;>rw[h1,h2] at h<;>simp [a9U] at h
   exact⟨_,_,rfl,rfl,h.symm⟩
  obtain⟨vs,v1,v2⟩:=a9X hT hk hr e2;obtain⟨v,w1,w2⟩: ∃v,(IS a.tmps q).run P w= .ok v w/\qJ (t6 g s.np m) w s1 v:=by
   obtain⟨t,oty⟩:=q;cases oty with
   |none=>
    simp only[O4,aQk] at e1;subst e1;exact⟨_,by simp [IS,CE],SQ hk (hr.env t)⟩
   |some ty=>
    simp only[O4] at e1;cases he:T0 s.H (qQ T ty) (lk s.env t) with
    |none=>rw[he] at e1;cases e1
    |some e=>
     rw[he] at e1;simp only[a9V,Option.map_some,aQk] at e1;subst e1;obtain⟨ad,v,hv,hl,hs⟩:=aIz hT hr.heap (hr.env t) he;exact⟨v,by simp only[IS,CE,hv,asAddr,aQB,aQN,aQu,hl],SQ hk hs⟩
  exact⟨v::vs,by simp only[List.mapM_cons,aQB,w1,aQu,v1,aQN],v,vs,rfl,w2,v2⟩
def KY (tmps:Array Value):ResultVar->Sem Value
 | .tmp t=>pure (tmps.getD t undef)
 | .cell a t=>do loadVar t (<-asAddr (tmps.getD a undef))
theorem aIA {P:Program}{fn:Func}{w:World}{tmps:Array Value}{ts:List (Nat×Option TypeId)}(h:fn.results.toList=ts.map CE) {vs:List Value}(hv:(ts.mapM (IS tmps)).run P w= .ok vs w):(results fn tmps).run P w= .ok (YY vs) w:=by
 obtain⟨rs,hrs⟩: ∃rs,fn.results=⟨rs⟩:=⟨fn.results.toList,rfl⟩;have hm:rs=ts.map CE:=by rw[hrs] at h;exact h
 have key:Sem.run P (((ts.map CE).toArray).mapM (KY tmps)) w=Result.ok vs.toArray w:=by
  rw[List.mapM_toArray,List.mapM_map];have e:KY tmps∘CE=IS tmps:=by
   funext q;obtain⟨t,o⟩:=q;cases o<;>rfl
  have e2:(fun q=>KY tmps (CE q))=IS tmps:=e;show Sem.run P (List.mapM (fun q=>KY tmps (CE q)) ts>>=fun l=>pure l.toArray) w=_;rw[e2,aQB,hv];rfl
 have hu:results fn tmps=(fn.results.mapM (KY tmps) >>=fun vs=>pure (if h:vs.size=1 then vs[0] else .tuple vs)):=by
  unfold results;congr 2
 rw[hu,hrs,hm,aQB];have key2:Sem.run P (Array.mapM (KY tmps) (⟨ts.map CE⟩:Array ResultVar)) w=Result.ok vs.toArray w:=key;rw[key2];simp only[aQu,aQN]
 match vs with
 |[]=>rfl
 |[v]=>rfl
 |v::u::l=>simp [YY]
theorem aIB {P:Program}{T:rQ}(hT:vT P T) {f:FuncId}{fn:Func}{c:Code}{C:List pA->List p9->Option pF}{ts:List (Nat×Option TypeId)}(hf:P.funcs[f]? =some fn) (hb:fn.body=some c) {N:Nat}(hN:fn.ntmps=N)
  (hcall: ∀args w,(callFunc f args).run P w= .ok (.enter f args) w) (hres:fn.results.toList=ts.map CE)
  (h: ∀args L r,C args L=some r->(∀p∈r.side,p)->qO L->args.length<=N/\NY (u7 0 L) args/\NZ (u7 0 L) L/\Ev false P c ⟨qK 0 args,pM 0 L,pV L,N,pV L⟩ (a9W T ts r)):zA P f C:=by
 subst hN;refine⟨hcall,fun g w args vals L r hH ha hC hs=> ?_⟩;obtain⟨h1,h2,h3,h4⟩:=h args L r hC hs (a9H fun i b hb=>⟨i,hH.blk i b (by rw[wN];exact hb)⟩);obtain⟨hr,hent⟩:=YZ hH ha h2 h3 h1;have hsub: ∀b o,yE (t6 g 0 (u7 0 L)) (pM 0 L) b o->yE g (pM 0 L) b o:=fun b o ⟨i,blk,hg,ho⟩=>⟨i,blk,hg,(hent i blk (by rw[<-wN];exact hg)).2.2 b o ho⟩;have hgood:s3 (yE (t6 g 0 (u7 0 L)) (pM 0 L)) L (t6 g 0 (u7 0 L)) w (t6 g 0 (u7 0 L)) w (pM 0 L):=by
  refine⟨fun b o h=>⟨h,rfl⟩,Fr.refl _ _ _,fun i blk b o hg ho=> .inr ⟨i,blk,hg,ho⟩,fun _ _ _ h=>h,fun i hi=> ?_,fun i u y us _ hg=>⟨y,us,by rw[<-wN];exact hg⟩,fun _ _ _ _ h=>h⟩;have hL:L[i]? =some L[i]:=by simp
  obtain⟨_,hbk,_⟩:=hent i L[i] hL;have hnd:=(IP h3 L[i] (aRF hi)).2;generalize L[i]=blk at hbk hnd;cases blk with
  |cells t x ts=>obtain⟨p,cs,hp,_⟩:=hbk;exact .inl ⟨p,hp⟩
  |grow e c n=>obtain⟨v,xs,hv,_⟩:=hbk;exact .inr ⟨n,v,hv⟩
  |row e t l n=>obtain⟨_,v,xs,hv,_⟩:=hbk;exact .inr ⟨n,v,hv⟩
  |map k v l=>obtain⟨p,es,cl,hp,_⟩:=hbk;exact .inl ⟨p,hp⟩
  |iter s n=>obtain⟨p,hp,_⟩:=hbk;exact .inl ⟨p,hp⟩
  |dead=>exact absurd rfl hnd
 refine callsIn_wide.1 (callsIn_of_wp_marks (F:=Fence.wide) (n:=0) hf hb trivial (aR3 (h4 none rfl _ _ _ _ _ _ _ _ (aQF _) hr hgood (SX L)) fun x a' w' hp=> ?_) rfl);obtain⟨e,g',s',e1,e2,e3,e4,e5⟩:=hp;have vP: ∀m:List (Nat×Nat),wA s'.np m=true->D3 (pV r.H) 0 (s'.keep ⟨[],m⟩).H=pM 0 r.H->GR T s' m ts=some r.ret->LeavesInM Fence.wide 0 P fn a'.tmps (fun e w'=> ∃v' g',e= .returned v'/\IJ g w L r g' w' v') a'.defers .returning w':=by
  intro m hk k1 k2;refine a9M a'.defers w' e3 e4 (fun w1 e3 e4=> ?_);obtain⟨l1,l2,l3,_⟩:=YJ e3 e4 e5 ⟨[],m⟩ hk;replace l2:=l2.pad (pV r.H) 0;rw[k1] at l2;obtain⟨vs,q1,q2⟩:=a9X hT hk e3 k2;have q3:=aIA (P:=P) (w:=w1) (tmps:=a'.tmps) hres q1;refine⟨_,q3,_,_,rfl,⟨fun b o hb=>l2.shut b o hb,by rw[<-k1];exact l1.heap.pad _ _,?_,?_,fun i blk b o hi ho=> ?_,fun i t x us hi=> ?_,fun i t x us u y vs hi hr=> ?_,fun i p hi hp=>l2.J i p hi ((zW SV (KX.2 ⟨rfl,aRc _,by omega⟩)).1.trans hp),fun i n u hi hu=>l2.cur i n u hi ((congrFun (zW SV (KX.2 ⟨rfl,aRc _,by omega⟩)).2 n).trans hu)⟩⟩
  ·unfold NQ;split
   ·rename_i s hs;rw[hs] at q2;obtain⟨v,vs',hv,h5,h6⟩:=q2;rw[hv,show vs'=[] from h6];exact h5
   ·rename_i hne;refine⟨_,?_,q2⟩;unfold YY;split
    ·rename_i v hv;exfalso;have:=(SW q2).1;cases hq:r.ret with
     |nil=>rw[hq] at this;simp at this
     |cons s l=>cases l with
      |nil=>exact hne s hq
      |cons _ _=>rw[hq] at this;simp at this
    ·rfl
  ·exact⟨l2.fr.os,l2.fr.tape,l2.fr.output,l2.fr.size,fun b hb hA=>l2.fr.blk b hb (fun o ho=>hA o (hsub b o ho)),fun b o hb hA=>l2.fr.cell b o hb (fun ho=>hA (hsub b o ho)),fun b o hS=>(l2.fr.new b o hS).imp id (Or.imp id (hsub b o)),fun b s hs=>(l2.fr.shape b s hs).imp id fun h o=>hsub b o (h o)⟩
  ·exact(l2.perm i blk b o (by rw[wN];exact hi) ho).imp id (hsub b o)
  ·obtain⟨j1,⟨p,cs,j2,_⟩,_⟩:=hent i _ hi;have hil:i<L.length:=(aQA.1 hi).1;rw[l2.J i p hil j2,<-j1,j2]
  ·have hil:i<L.length:=(aQA.1 hi).1;obtain⟨x',ts',h5⟩:=l2.ty i u y vs hil (by rw[wN];exact hr);rw[hi] at h5;simp only[aQk,p9.cells.injEq] at h5;exact h5.1.symm
 cases x<;>simp only[CC,aQk] at e1
 case normal=>subst e1;obtain⟨k,k0,k1,k2⟩:=e2;exact vP k k0 k1 k2
 case ret=>subst e1;obtain⟨k,k0,k1,k2⟩:=e2;exact vP k k0 k1 k2
 case exit id=>subst e1;exact e2.elim
 all_goals cases e1
open Classical in
noncomputable def qP {V:Type}(p:V->List pA) (q:V->List p9) (R:V->pF) (a:List pA) (L:List p9):Option pF:=
 if h: ∃v,p v=a/\q v=L then some (R h.choose) else none
theorem aIC {V:Type}{p:V->List pA}{q:V->List p9}{R:V->pF}{a:List pA}{L:List p9}{r:pF}(h:qP p q R a L=some r): ∃v,p v=a/\q v=L/\R v=r:=by
 unfold qP at h;split at h
 ·rename_i e;exact⟨e.choose,e.choose_spec.1,e.choose_spec.2,aQo h⟩
 ·cases h
theorem qR {V:Type}{p:V->List pA}{q:V->List p9}{R:V->pF}(inj: ∀v v',p v=p v'->q v=q v'->v=v') (v:V):qP p q R (p v) (q v)=some (R v):=by
 have h: ∃u,p u=p v/\q u=q v:=⟨v,rfl,rfl⟩;unfold qP;rw[aSw h,inj _ v h.choose_spec.1 h.choose_spec.2]
theorem a9Y: ∀{l:List Prop},(∀p∈l,p)->qG l
 |[],_=>trivial
 |[p],h=>h p (by simp)
 |p::q::r,h=>⟨h p (by simp),a9Y (l:=q::r) fun x hx=>h x (aQy _ hx)⟩
def qI (P:Program) (x:Nat×pY):Prop:=zA P x.1 x.2.C/\∀F,x.2.row=some F->SA P x.1 F
theorem qS {P:Program}{T:rQ}{Γ:tG}(hE:qE P T Γ) {f:FuncId}{fn:Func}{c:Code}{V:Type}{p:V->List pA}{q:V->List p9}{R:V->pF}{ps:List PK}{gs:List (Nat×Nat×PK)}{same:List Nat}{ts:List (Nat×Option TypeId)}(hf:P.funcs[f]? =some fn) (hb:fn.body=some c) {N:Nat}(hN:fn.ntmps=N)
  (hres:fn.results.toList=ts.map CE) (hcall: ∀args w,(callFunc f args).run P w= .ok (.enter f args) w)
  (h: ∀v,qG (R v).side->qO (q v)->Ev false P c ⟨qK 0 (p v),pM 0 (q v),pV (q v),N,pV (q v)⟩ (a9W T ts (R v)))
  (h1: ∀v,Nat.ble (p v).length N=true:=by intro _;rfl)
  (h2: ∀v,NY (u7 0 (q v)) (p v):=by intro _;repeat (first|exact trivial|refine ⟨rfl,?_⟩))
  (h3: ∀v,NZ (u7 0 (q v)) (q v):=by intro _;repeat (first|exact trivial|refine ⟨rfl,?_⟩)):qI P (f,⟨ps,qP p q R,gs,same,none⟩):=
 ⟨aIB hE.T hf hb hN hcall hres fun args L r hC hs hr=>by
  obtain⟨v,rfl,rfl,rfl⟩:=aIC hC;exact⟨aSa (h1 v),h2 v,h3 v,h v (a9Y hs) hr⟩,fun _ h=>by cases h⟩
abbrev pB (n:Int):Prop:= -9223372036854775808<=n/\n<=9223372036854775807
@[go_sem] def qC:List (Nat×pY)->tG
 |[],_=>none
 |(k,s)::r,f=>if k=f then some s else qC r f
theorem qT {P:Program}:D2 P (qC []):=fun _ _ h=>by cases h
theorem pK {P:Program}{x:Nat×pY}{r:List (Nat×pY)}(h:qI P x) (hr:D2 P (qC r)):D2 P (qC (x::r)):=fun f s hs=>by
 obtain⟨k,y⟩:=x;simp only[qC] at hs;split at hs
 ·rename_i e;subst e;cases hs;exact h
 ·exact hr f s hs
section
variable {P:Program}{T:rQ}{Γ:tG}(E:qE P T Γ) {s:St}{Q:Ex->St->Prop}
include E
theorem p8 {id:Nat}{ops:Array Oper}{a:uT}{y:Code}(hq:Ev R P y a.s Q) (h:uU T Γ ops.toList ops.toList (some ⟨s,[],[]⟩)=some a:=by simp only[go_sem];rfl) (hp:qG a.side:=by exact trivial):Ev R P (.seq (.region id ops false) y) s Q:=
 pW (a9S E h hp hq)
theorem xU {id:Nat}{ops:Array Oper}{a:uT}{y:Code}(hq:Ev R P y a.s Q) (h:uU T Γ ops.toList ops.toList (some ⟨s,[],[]⟩)=some a:=by simp only[go_sem];rfl) (hp:qG a.side:=by exact trivial) (hf:DW ops s.nb a.es.reverse=true:=by kernel_rfl):Ev R P (.seq (.region id ops true) y) s Q:=
 pW (a9T E h hf hp hq)
theorem qU {id:Nat}{ops:Array Oper}{a:uT}(hq:Q .normal a.s) (h:uU T Γ ops.toList ops.toList (some ⟨s,[],[]⟩)=some a:=by simp only[go_sem];rfl) (hp:qG a.side:=by exact trivial):Ev R P (.region id ops false) s Q:=
 a9S E h hp hq
theorem FA {id:Nat}{ops:Array Oper}{a:uT}(hq:Q .normal a.s) (h:uU T Γ ops.toList ops.toList (some ⟨s,[],[]⟩)=some a:=by simp only[go_sem];rfl) (hp:qG a.side:=by exact trivial) (hf:DW ops s.nb a.es.reverse=true:=by kernel_rfl):Ev R P (.region id ops true) s Q:=
 a9T E h hf hp hq
end
theorem pP {P:Program}{s:St}{Q:Ex->St->Prop}{c:Operand}{x y:Code}{b b':Bool}{k:Option Nat}{ρ:Type}{X Y r:ρ}(hC:(if b'=true then X else Y)=r) (ht:X=r->b=true->Ev R P x s Q) (hf:Y=r->b=false->Ev R P y s Q)
  (h:sN s.env c=(.val .bool b,k):=by simp only[go_sem];rfl) (hb:b=b':=by first|rfl|simp):Ev R P (.cond c x y) s Q:=
 aIl h (fun e=>ht (aIw hC (hb▸e)) e) (fun e=>hf (aIx hC (hb▸e)) e)
theorem pT {σ ρ:Type}[Inhabited σ] {x:Option σ}{k:σ->Option ρ}{r:ρ}(h:x.bind k=some r): ∃y,x=some y/\val x=y/\k y=some r:=by
 obtain⟨y,h1,h2⟩:=pD h;exact⟨y,h1,r8 h1,h2⟩
attribute [go_sem] true_and and_true false_and and_false Nat.reduceMul List.nil_append List.cons_append List.append_nil List.toList_toArray Nat.reduceEqDiff reduceIte reduceDIte reduceCtorEq Nat.reduceAdd Nat.reduceSub Int.reduceToNat Nat.reduceLT Nat.reduceLeDiff decide_true decide_false Bool.and_self Bool.or_self Bool.or_false Bool.false_or Bool.and_true Bool.true_and Bool.not_true Bool.not_false
end Go.Proofs.YtbbpilohihldiaaGreatDoor.Vc
namespace Go.Proofs
open Go.RowKit Go.Lib
def Tryz.lays137_ren:Go.Shelf.Ren:=⟨fun|137=>135|217=>182|266=>222|n=>n,fun|9=>9|5=>5|3=>3|n=>n,fun|n=>n⟩
theorem Tryz.lays137:Go.Proofs.Lays.n137 Tryz.prog Tryz.lays137_ren:={
 mixed:=by kernel_rfl
 f137:=Tryz.func135.trans (aQW some (by kernel_rfl))
 f217:=Tryz.func182.trans (aQW some (by kernel_rfl))
 f266:=Tryz.func222.trans (aQW some (by kernel_rfl))
 t3:=Tryz.underlying3
 a3:=Tryz.isAgg3
 z3:=Tryz.sizeOf3
 v3:=Tryz.zeroValue3
 t5:=Tryz.underlying5
 a5:=Tryz.isAgg5
 z5:=Tryz.sizeOf5
 v5:=Tryz.zeroValue5
 t9:=Tryz.underlying9
 a9:=Tryz.isAgg9
 z9:=Tryz.sizeOf9
 v9:=Tryz.zeroValue9}
def Tryz.lays190_ren:Go.Shelf.Ren:=⟨fun|190=>147|125=>192|258=>191|128=>234|129=>235|302=>225|303=>226|304=>227|305=>228|306=>229|307=>230|308=>231|309=>232|310=>233|333=>261|329=>262|330=>263|334=>264|335=>265|336=>266|344=>279|n=>n,fun|31=>23|9=>9|3=>3|46=>219|0=>0|51=>241|53=>243|4=>4|183=>235|182=>234|131=>57|5=>5|218=>258|222=>262|228=>272|229=>224|n=>n,fun|n=>n⟩
theorem Tryz.lays190:Go.Proofs.Lays.n190 Tryz.prog Tryz.lays190_ren:={
 mixed:=by kernel_rfl
 f125:=Tryz.func192.trans (aQW some (by kernel_rfl))
 f128:=Tryz.func234.trans (aQW some (by kernel_rfl))
 f129:=Tryz.func235.trans (aQW some (by kernel_rfl))
 f190:=Tryz.func147.trans (aQW some (by kernel_rfl))
 f258:=Tryz.func191.trans (aQW some (by kernel_rfl))
 f302:=Tryz.func225.trans (aQW some (by kernel_rfl))
 f303:=Tryz.func226.trans (aQW some (by kernel_rfl))
 f304:=Tryz.func227.trans (aQW some (by kernel_rfl))
 f305:=Tryz.func228.trans (aQW some (by kernel_rfl))
 f306:=Tryz.func229.trans (aQW some (by kernel_rfl))
 f307:=Tryz.func230.trans (aQW some (by kernel_rfl))
 f308:=Tryz.func231.trans (aQW some (by kernel_rfl))
 f309:=Tryz.func232.trans (aQW some (by kernel_rfl))
 f310:=Tryz.func233.trans (aQW some (by kernel_rfl))
 f329:=Tryz.func262.trans (aQW some (by kernel_rfl))
 f330:=Tryz.func263.trans (aQW some (by kernel_rfl))
 f333:=Tryz.func261.trans (aQW some (by kernel_rfl))
 f334:=Tryz.func264.trans (aQW some (by kernel_rfl))
 f335:=Tryz.func265.trans (aQW some (by kernel_rfl))
 f336:=Tryz.func266.trans (aQW some (by kernel_rfl))
 f344:=Tryz.func279.trans (aQW some (by kernel_rfl))
 t0:=Tryz.underlying0
 a0:=Tryz.isAgg0
 z0:=Tryz.sizeOf0
 v0:=Tryz.zeroValue0
 t3:=Tryz.underlying3
 a3:=Tryz.isAgg3
 z3:=Tryz.sizeOf3
 v3:=Tryz.zeroValue3
 t4:=Tryz.underlying4
 a4:=Tryz.isAgg4
 z4:=Tryz.sizeOf4
 v4:=Tryz.zeroValue4
 t5:=Tryz.underlying5
 a5:=Tryz.isAgg5
 z5:=Tryz.sizeOf5
 v5:=Tryz.zeroValue5
 t9:=Tryz.underlying9
 a9:=Tryz.isAgg9
 z9:=Tryz.sizeOf9
 v9:=Tryz.zeroValue9
 t31:=Tryz.underlying23
 a31:=Tryz.isAgg23
 z31:=Tryz.sizeOf23
 v31:=Tryz.zeroValue23
 t46:=Tryz.underlying219
 a46:=Tryz.isAgg219
 z46:=Tryz.sizeOf219
 v46:=Tryz.zeroValue219
 t51:=Tryz.underlying241
 a51:=Tryz.isAgg241
 z51:=Tryz.sizeOf241
 v51:=Tryz.zeroValue241
 t53:=Tryz.underlying243
 a53:=Tryz.isAgg243
 z53:=Tryz.sizeOf243
 v53:=Tryz.zeroValue243
 t131:=Tryz.underlying57
 a131:=Tryz.isAgg57
 z131:=Tryz.sizeOf57
 v131:=Tryz.zeroValue57
 t182:=Tryz.underlying234
 a182:=Tryz.isAgg234
 z182:=Tryz.sizeOf234
 v182:=Tryz.zeroValue234
 t183:=Tryz.underlying235
 a183:=Tryz.isAgg235
 z183:=Tryz.sizeOf235
 v183:=Tryz.zeroValue235
 t218:=Tryz.underlying258
 a218:=Tryz.isAgg258
 z218:=Tryz.sizeOf258
 v218:=Tryz.zeroValue258
 t222:=Tryz.underlying262
 a222:=Tryz.isAgg262
 z222:=Tryz.sizeOf262
 v222:=Tryz.zeroValue262
 t228:=Tryz.underlying272
 a228:=Tryz.isAgg272
 z228:=Tryz.sizeOf272
 v228:=Tryz.zeroValue272
 t229:=Tryz.underlying224
 a229:=Tryz.isAgg224
 z229:=Tryz.sizeOf224
 v229:=Tryz.zeroValue224}
def Tryz.lays196_ren:Go.Shelf.Ren:=⟨fun|196=>243|259=>271|n=>n,fun|0=>0|3=>3|4=>4|5=>5|9=>9|12=>12|46=>219|53=>243|119=>254|138=>256|139=>257|n=>n,fun|3=>1|4=>2|n=>n⟩
theorem Tryz.lays196:Go.Proofs.Lays.n196 Tryz.prog Tryz.lays196_ren:={
 mixed:=by kernel_rfl
 f196:=Tryz.func243.trans (aQW some (by kernel_rfl))
 f259:=Tryz.func271.trans (aQW some (by kernel_rfl))
 t0:=Tryz.underlying0
 a0:=Tryz.isAgg0
 z0:=Tryz.sizeOf0
 v0:=Tryz.zeroValue0
 t3:=Tryz.underlying3
 a3:=Tryz.isAgg3
 z3:=Tryz.sizeOf3
 v3:=Tryz.zeroValue3
 t4:=Tryz.underlying4
 a4:=Tryz.isAgg4
 z4:=Tryz.sizeOf4
 v4:=Tryz.zeroValue4
 t5:=Tryz.underlying5
 a5:=Tryz.isAgg5
 z5:=Tryz.sizeOf5
 v5:=Tryz.zeroValue5
 t9:=Tryz.underlying9
 a9:=Tryz.isAgg9
 z9:=Tryz.sizeOf9
 v9:=Tryz.zeroValue9
 t12:=Tryz.underlying12
 a12:=Tryz.isAgg12
 z12:=Tryz.sizeOf12
 v12:=Tryz.zeroValue12
 t46:=Tryz.underlying219
 a46:=Tryz.isAgg219
 z46:=Tryz.sizeOf219
 v46:=Tryz.zeroValue219
 t53:=Tryz.underlying243
 a53:=Tryz.isAgg243
 z53:=Tryz.sizeOf243
 v53:=Tryz.zeroValue243
 t119:=Tryz.underlying254
 a119:=Tryz.isAgg254
 z119:=Tryz.sizeOf254
 t138:=Tryz.underlying256
 a138:=Tryz.isAgg256
 z138:=Tryz.sizeOf256
 v138:=Tryz.zeroValue256
 t139:=Tryz.underlying257
 a139:=Tryz.isAgg257
 z139:=Tryz.sizeOf257
 v139:=Tryz.zeroValue257
 g3:=by kernel_rfl
 g4:=by kernel_rfl}
def Tryz.lays143_ren:Go.Shelf.Ren:=⟨fun|143=>173|219=>208|217=>182|225=>248|224=>249|267=>250|266=>222|314=>276|n=>n,fun|9=>9|3=>3|4=>4|5=>5|46=>219|146=>270|51=>241|n=>n,fun|1=>0|n=>n⟩
theorem Tryz.lays143:Go.Proofs.Lays.n143 Tryz.prog Tryz.lays143_ren:={
 mixed:=by kernel_rfl
 f143:=Tryz.func173.trans (aQW some (by kernel_rfl))
 f217:=Tryz.func182.trans (aQW some (by kernel_rfl))
 f219:=Tryz.func208.trans (aQW some (by kernel_rfl))
 f224:=Tryz.func249.trans (aQW some (by kernel_rfl))
 f225:=Tryz.func248.trans (aQW some (by kernel_rfl))
 f266:=Tryz.func222.trans (aQW some (by kernel_rfl))
 f267:=Tryz.func250.trans (aQW some (by kernel_rfl))
 f314:=Tryz.func276.trans (aQW some (by kernel_rfl))
 t3:=Tryz.underlying3
 a3:=Tryz.isAgg3
 z3:=Tryz.sizeOf3
 v3:=Tryz.zeroValue3
 t4:=Tryz.underlying4
 a4:=Tryz.isAgg4
 z4:=Tryz.sizeOf4
 v4:=Tryz.zeroValue4
 t5:=Tryz.underlying5
 a5:=Tryz.isAgg5
 z5:=Tryz.sizeOf5
 v5:=Tryz.zeroValue5
 t9:=Tryz.underlying9
 a9:=Tryz.isAgg9
 z9:=Tryz.sizeOf9
 v9:=Tryz.zeroValue9
 t46:=Tryz.underlying219
 a46:=Tryz.isAgg219
 z46:=Tryz.sizeOf219
 v46:=Tryz.zeroValue219
 t51:=Tryz.underlying241
 a51:=Tryz.isAgg241
 z51:=Tryz.sizeOf241
 v51:=Tryz.zeroValue241
 t146:=Tryz.underlying270
 a146:=Tryz.isAgg270
 z146:=Tryz.sizeOf270
 v146:=Tryz.zeroValue270
 g1:=by kernel_rfl}
def Tryz.lays240_ren:Go.Shelf.Ren:=⟨fun|240=>93|276=>133|n=>n,fun|0=>0|4=>4|9=>9|20=>20|70=>82|72=>84|164=>168|37=>42|n=>n,fun|n=>n⟩
theorem Tryz.lays240:Go.Proofs.Lays.n240 Tryz.prog Tryz.lays240_ren:={
 mixed:=by kernel_rfl
 f240:=Tryz.func93.trans (aQW some (by kernel_rfl))
 f276:=Tryz.func133.trans (aQW some (by kernel_rfl))
 t0:=Tryz.underlying0
 a0:=Tryz.isAgg0
 z0:=Tryz.sizeOf0
 v0:=Tryz.zeroValue0
 t4:=Tryz.underlying4
 a4:=Tryz.isAgg4
 z4:=Tryz.sizeOf4
 v4:=Tryz.zeroValue4
 t9:=Tryz.underlying9
 a9:=Tryz.isAgg9
 z9:=Tryz.sizeOf9
 v9:=Tryz.zeroValue9
 t20:=Tryz.underlying20
 a20:=Tryz.isAgg20
 z20:=Tryz.sizeOf20
 v20:=Tryz.zeroValue20
 t70:=Tryz.underlying82
 a70:=Tryz.isAgg82
 z70:=Tryz.sizeOf82
 v70:=Tryz.zeroValue82
 t72:=Tryz.underlying84
 a72:=Tryz.isAgg84
 z72:=Tryz.sizeOf84
 v72:=Tryz.zeroValue84
 t164:=Tryz.underlying168
 a164:=Tryz.isAgg168
 z164:=Tryz.sizeOf168
 v164:=Tryz.zeroValue168}
theorem Tryz.builderX72:Builder.X72 Tryz.prog Tryz.lays240_ren:={
 sizeBuilder:=by kernel_rfl
 liesBuilder:=by kernel_rfl}
def Tryz.lays169_ren:Go.Shelf.Ren:=⟨fun|169=>54|n=>n,fun|70=>82|9=>9|0=>0|72=>84|37=>42|127=>125|3=>3|5=>5|n=>n,fun|n=>n⟩
theorem Tryz.lays169:Go.Proofs.Lays.n169 Tryz.prog Tryz.lays169_ren:={
 mixed:=by kernel_rfl
 f169:=Tryz.func54.trans (aQW some (by kernel_rfl))
 t0:=Tryz.underlying0
 a0:=Tryz.isAgg0
 z0:=Tryz.sizeOf0
 v0:=Tryz.zeroValue0
 t3:=Tryz.underlying3
 a3:=Tryz.isAgg3
 z3:=Tryz.sizeOf3
 v3:=Tryz.zeroValue3
 t9:=Tryz.underlying9
 a9:=Tryz.isAgg9
 z9:=Tryz.sizeOf9
 v9:=Tryz.zeroValue9
 t37:=Tryz.underlying42
 a37:=Tryz.isAgg42
 z37:=Tryz.sizeOf42
 v37:=Tryz.zeroValue42
 t70:=Tryz.underlying82
 a70:=Tryz.isAgg82
 z70:=Tryz.sizeOf82
 v70:=Tryz.zeroValue82
 t72:=Tryz.underlying84
 a72:=Tryz.isAgg84
 z72:=Tryz.sizeOf84
 v72:=Tryz.zeroValue84
 t127:=Tryz.underlying125
 a127:=Tryz.isAgg125
 z127:=Tryz.sizeOf125
 v127:=Tryz.zeroValue125}
theorem Tryz.builderExtra:Builder.Extra Tryz.prog Tryz.lays169_ren:={
 sizeBuilder:=by kernel_rfl
 liesBuilder:=by kernel_rfl
 t5:=Tryz.underlying5
 a5:=Tryz.isAgg5
 z5:=Tryz.sizeOf5
 v5:=Tryz.zeroValue5
 infoByte:=by kernel_rfl
 cellsByte:=by kernel_rfl
 sizeByte:=by kernel_rfl
 neB5:=by decide}
end Go.Proofs
namespace Go.Proofs.YtbbpilohihldiaaGreatDoor
open Vc Go.RowKit
theorem aID {g:Gh}{w w':World}(hH:rK g w (pM 0 [])) (hb:Below w.heap.size w w'):rK g w' (pM 0 []):=
 ⟨fun _ _ h=>(by cases h),fun _ _ _ _ _ _ _ h=>(by cases h),fun b o h=>aQZ (hH.sl b o h) hb.size,⟨MQ hH.tab.1 hb.size fun b h=>hb.block b (aQZ h hH.tab.1.1),fun _ _ _ _ h=>(by cases h)⟩⟩
theorem KZ {P:Program}{f:FuncId}{C:List pA->List p9->Option pF}(hen: ∀args w,(callFunc f args).run P w= .ok (.enter f args) w)
  (h: ∀(g:Gh) (w:World) (args:List pA) (vals:List Value) (L:List p9) (r:pF),HZ w->tZ g w args vals->C args L=some r->(∀p∈r.side,p)->
   L=[]/\r.H=[]/\Calls P f vals.toArray w (fun e w'=> ∃v,e= .returned v/\Below w.heap.size w w'/\NQ g w' r.ret v)):zA P f C:=by
 refine⟨hen,fun g w args vals L r hH ha hC hs=> ?_⟩;obtain⟨rfl,hr,hc⟩:=h g w args vals L r hH.tab.1 ha hC hs;refine hc.mono fun e w' ⟨v,he,hb,hv⟩=>⟨v,g,he,⟨fun b o h=>⟨h,hb.cell (p:=⟨b,o,none⟩) (hH.sl b o h)⟩,by rw[hr];exact aID hH hb,hv,⟨hb.os,hb.tape,hb.output,hb.size,fun b h _=>hb.block b h,fun b o h _=>⟨hb.cell (p:=⟨b,o,none⟩) h,hb.frozen (p:=⟨b,o,none⟩) h⟩,fun b o h=> .inl h,fun b s h=> .inl ((CY (hb.block b (CX h))).trans h)⟩,(fun i blk b o h=>by rw[hr] at h;cases h),(fun i t x ts h=>by cases h),(fun i t x ts u y us h=>by cases h),(fun _ _ _ h=>h),(fun _ _ _ _ h=>h)⟩⟩
theorem a9Z {P:Program}{f:FuncId}{vals:Array Value}{w:World}{Q:Ending->Prop}(h:Calls P f vals w fun e w'=>Q e/\w'=w):Calls P f vals w fun e w'=>Q e/\Below w.heap.size w w':=
 h.mono fun e w' ⟨h1,h2⟩=>⟨h1,by rw[h2];exact Below.refl _ _⟩
def sW (s:List UInt8) (c:Int):Int:=Lib.indexByte s (Int.toNat c).toUInt8
@[go_sem] def Z7:List pA->List p9->Option pF
 |[(.val .str O,none),(.val (.int .u8) Z,none)],[]=>some ⟨[],[(.val (.int .i64) (sW O Z),none)],[]⟩
 |_,_=>none
theorem aIE:zA Tryz.prog 135 Z7:=by
 refine KZ (fun _ _=>rfl) fun g w args vals L r hT ha hC hs=> ?_;unfold Z7 at hC;split at hC
 ·rename_i s c;cases hC;obtain⟨va,_,rfl,ra,vb,_,rfl,rb,hv⟩:=ha;obtain rfl:=xT ra.1;obtain rfl:=uM rb.1;cases hv;exact⟨rfl,rfl,(a9Z (Any.strings_IndexByte Tryz.lays137 ⟨List.toArray s⟩ c w)).mono fun e w' ⟨he,hb⟩=>⟨_,he,hb,vB _ _ _ _,trivial⟩⟩
 ·cases hC
@[go_sem] def Z8:List pA->List p9->Option pF
 |[(.val .str O,none)],[]=>some ⟨[List.length O<=9223372036854775807],[(.val .bool (Lib.validD O),none)],[]⟩
 |_,_=>none
theorem aIF:zA Tryz.prog 243 Z8:=by
 refine KZ (fun _ _=>rfl) fun g w args vals L r hT ha hC hs=> ?_;unfold Z8 at hC;split at hC
 ·rename_i s;cases hC;have h1:=hs _ aQH;obtain⟨va,_,rfl,ra,hv⟩:=ha;obtain rfl:=xT ra.1;cases hv;exact⟨rfl,rfl,(Any.utf8_ValidString Tryz.lays196 ⟨List.toArray s⟩ w h1 hT.2.1).mono fun e w' ⟨he,hb⟩=>⟨_,he,hb,vC _ _ _,trivial⟩⟩
 ·cases hC
end Go.Proofs.YtbbpilohihldiaaGreatDoor
